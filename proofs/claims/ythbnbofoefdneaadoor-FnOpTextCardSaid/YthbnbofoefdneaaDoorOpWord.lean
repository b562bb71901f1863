/- spec.OpValid, by kinds (made by gen_opvalid.py). -/
import Derived.Test.YthbnbofoefdneaaDoorOpPlain
import Derived.Test.YthbnbofoefdneaaDoorRg2
namespace Go.Proofs.YthbnbofoefdneaaDoor
open Go.RowKit
set_option linter.unusedSimpArgs false
set_option linter.unusedVariables false
theorem l6Word_0 (k : Int) (w : World) (hk : ¬ (1 ≤ k ∧ k ≤ 10)) :
    Calls Tryd.prog 17 #[.int .i64 k] w fun e w' => e = .returned (.string ⟨#[]⟩) ∧ Below w.heap.size w w' := by
  by_cases h1 : k < 1
  · have d1 := decide_eq_true (p := k < 1) h1
    go_enter Tryd.func17, Tryd.ntmps17
    go_wp2
    go_ret
    exact ⟨rfl, (Below.refl _ _).alloc (Nat.le_refl _) _⟩
  · have d1 := decide_eq_false (p := k < 1) h1
    have d2 := decide_eq_true (p := 10 < k) (by omega)
    go_enter Tryd.func17, Tryd.ntmps17
    go_wp2
    go_ret
    exact ⟨rfl, (Below.refl _ _).alloc (Nat.le_refl _) _⟩
theorem l6Word_1 (w : World) :
    Calls Tryd.prog 17 #[.int .i64 1] w fun e w' => e = .returned (.string ⟨#[115, 97, 121]⟩) ∧ Below w.heap.size w w' := by
  go_enter Tryd.func17, Tryd.ntmps17
  go_wp2
  go_ret
  exact ⟨rfl, (Below.refl _ _).alloc (Nat.le_refl _) _⟩
theorem l6Word_2 (w : World) :
    Calls Tryd.prog 17 #[.int .i64 2] w fun e w' => e = .returned (.string ⟨#[97, 99, 113, 117, 105, 114, 101]⟩) ∧ Below w.heap.size w w' := by
  go_enter Tryd.func17, Tryd.ntmps17
  go_wp2
  go_ret
  exact ⟨rfl, (Below.refl _ _).alloc (Nat.le_refl _) _⟩
theorem l6Word_3 (w : World) :
    Calls Tryd.prog 17 #[.int .i64 3] w fun e w' => e = .returned (.string ⟨#[114, 101, 108, 101, 97, 115, 101]⟩) ∧ Below w.heap.size w w' := by
  go_enter Tryd.func17, Tryd.ntmps17
  go_wp2
  go_ret
  exact ⟨rfl, (Below.refl _ _).alloc (Nat.le_refl _) _⟩
theorem l6Word_4 (w : World) :
    Calls Tryd.prog 17 #[.int .i64 4] w fun e w' => e = .returned (.string ⟨#[111, 110, 99, 101]⟩) ∧ Below w.heap.size w w' := by
  go_enter Tryd.func17, Tryd.ntmps17
  go_wp2
  go_ret
  exact ⟨rfl, (Below.refl _ _).alloc (Nat.le_refl _) _⟩
theorem l6Word_5 (w : World) :
    Calls Tryd.prog 17 #[.int .i64 5] w fun e w' => e = .returned (.string ⟨#[97, 100, 100]⟩) ∧ Below w.heap.size w w' := by
  go_enter Tryd.func17, Tryd.ntmps17
  go_wp2
  go_ret
  exact ⟨rfl, (Below.refl _ _).alloc (Nat.le_refl _) _⟩
theorem l6Word_6 (w : World) :
    Calls Tryd.prog 17 #[.int .i64 6] w fun e w' => e = .returned (.string ⟨#[119, 97, 105, 116]⟩) ∧ Below w.heap.size w w' := by
  go_enter Tryd.func17, Tryd.ntmps17
  go_wp2
  go_ret
  exact ⟨rfl, (Below.refl _ _).alloc (Nat.le_refl _) _⟩
theorem l6Word_7 (w : World) :
    Calls Tryd.prog 17 #[.int .i64 7] w fun e w' => e = .returned (.string ⟨#[97, 114, 114, 105, 118, 101]⟩) ∧ Below w.heap.size w w' := by
  go_enter Tryd.func17, Tryd.ntmps17
  go_wp2
  go_ret
  exact ⟨rfl, (Below.refl _ _).alloc (Nat.le_refl _) _⟩
theorem l6Word_8 (w : World) :
    Calls Tryd.prog 17 #[.int .i64 8] w fun e w' => e = .returned (.string ⟨#[115, 101, 110, 100]⟩) ∧ Below w.heap.size w w' := by
  go_enter Tryd.func17, Tryd.ntmps17
  go_wp2
  go_ret
  exact ⟨rfl, (Below.refl _ _).alloc (Nat.le_refl _) _⟩
theorem l6Word_9 (w : World) :
    Calls Tryd.prog 17 #[.int .i64 9] w fun e w' => e = .returned (.string ⟨#[103, 101, 116]⟩) ∧ Below w.heap.size w w' := by
  go_enter Tryd.func17, Tryd.ntmps17
  go_wp2
  go_ret
  exact ⟨rfl, (Below.refl _ _).alloc (Nat.le_refl _) _⟩
theorem l6Word_10 (w : World) :
    Calls Tryd.prog 17 #[.int .i64 10] w fun e w' => e = .returned (.string ⟨#[99, 108, 111, 115, 101]⟩) ∧ Below w.heap.size w w' := by
  go_enter Tryd.func17, Tryd.ntmps17
  go_wp2
  go_ret
  exact ⟨rfl, (Below.refl _ _).alloc (Nat.le_refl _) _⟩
theorem l6Shared_1 (v : Value) (c : ProgD) (w : World) (h : ProgRow w v c) :
    Calls Tryd.prog 31 #[v, .int .i64 1] w fun e w' => e = .returned (.int .i64 1) ∧ Below w.heap.size w w' := by
  obtain ⟨a0, p0, a1, p1, a2, p2, a3, p3, a4, p4, rfl, -, -, -, -, -⟩ := h
  go_enter Tryd.func31, Tryd.ntmps31
  go_wp2
  go_ret
  exact ⟨rfl, (Below.refl _ _).alloc (Nat.le_refl _) _⟩
theorem l6Shared_2 (v : Value) (c : ProgD) (w : World) (h : ProgRow w v c) :
    Calls Tryd.prog 31 #[v, .int .i64 2] w fun e w' => e = .returned (.int .i64 (c.sems.length : Int)) ∧ Below w.heap.size w w' := by
  obtain ⟨a0, p0, a1, p1, a2, p2, a3, p3, a4, p4, rfl, -, -, -, -, -⟩ := h
  go_enter Tryd.func31, Tryd.ntmps31
  go_wp2
  go_ret
  exact ⟨rfl, (Below.refl _ _).alloc (Nat.le_refl _) _⟩
theorem l6Shared_3 (v : Value) (c : ProgD) (w : World) (h : ProgRow w v c) :
    Calls Tryd.prog 31 #[v, .int .i64 3] w fun e w' => e = .returned (.int .i64 (c.sems.length : Int)) ∧ Below w.heap.size w w' := by
  obtain ⟨a0, p0, a1, p1, a2, p2, a3, p3, a4, p4, rfl, -, -, -, -, -⟩ := h
  go_enter Tryd.func31, Tryd.ntmps31
  go_wp2
  go_ret
  exact ⟨rfl, (Below.refl _ _).alloc (Nat.le_refl _) _⟩
theorem l6Shared_4 (v : Value) (c : ProgD) (w : World) (h : ProgRow w v c) :
    Calls Tryd.prog 31 #[v, .int .i64 4] w fun e w' => e = .returned (.int .i64 3) ∧ Below w.heap.size w w' := by
  obtain ⟨a0, p0, a1, p1, a2, p2, a3, p3, a4, p4, rfl, -, -, -, -, -⟩ := h
  go_enter Tryd.func31, Tryd.ntmps31
  go_wp2
  go_ret
  exact ⟨rfl, (Below.refl _ _).alloc (Nat.le_refl _) _⟩
theorem l6Shared_5 (v : Value) (c : ProgD) (w : World) (h : ProgRow w v c) :
    Calls Tryd.prog 31 #[v, .int .i64 5] w fun e w' => e = .returned (.int .i64 (c.groups.length : Int)) ∧ Below w.heap.size w w' := by
  obtain ⟨a0, p0, a1, p1, a2, p2, a3, p3, a4, p4, rfl, -, -, -, -, -⟩ := h
  go_enter Tryd.func31, Tryd.ntmps31
  go_wp2
  go_ret
  exact ⟨rfl, (Below.refl _ _).alloc (Nat.le_refl _) _⟩
theorem l6Shared_6 (v : Value) (c : ProgD) (w : World) (h : ProgRow w v c) :
    Calls Tryd.prog 31 #[v, .int .i64 6] w fun e w' => e = .returned (.int .i64 (c.groups.length : Int)) ∧ Below w.heap.size w w' := by
  obtain ⟨a0, p0, a1, p1, a2, p2, a3, p3, a4, p4, rfl, -, -, -, -, -⟩ := h
  go_enter Tryd.func31, Tryd.ntmps31
  go_wp2
  go_ret
  exact ⟨rfl, (Below.refl _ _).alloc (Nat.le_refl _) _⟩
theorem l6Shared_7 (v : Value) (c : ProgD) (w : World) (h : ProgRow w v c) :
    Calls Tryd.prog 31 #[v, .int .i64 7] w fun e w' => e = .returned (.int .i64 (c.barriers.length : Int)) ∧ Below w.heap.size w w' := by
  obtain ⟨a0, p0, a1, p1, a2, p2, a3, p3, a4, p4, rfl, -, -, -, -, -⟩ := h
  go_enter Tryd.func31, Tryd.ntmps31
  go_wp2
  go_ret
  exact ⟨rfl, (Below.refl _ _).alloc (Nat.le_refl _) _⟩
theorem l6Shared_8 (v : Value) (c : ProgD) (w : World) (h : ProgRow w v c) :
    Calls Tryd.prog 31 #[v, .int .i64 8] w fun e w' => e = .returned (.int .i64 (c.rooms.length : Int)) ∧ Below w.heap.size w w' := by
  obtain ⟨a0, p0, a1, p1, a2, p2, a3, p3, a4, p4, rfl, -, -, -, -, -⟩ := h
  go_enter Tryd.func31, Tryd.ntmps31
  go_wp2
  go_ret
  exact ⟨rfl, (Below.refl _ _).alloc (Nat.le_refl _) _⟩
theorem l6Shared_9 (v : Value) (c : ProgD) (w : World) (h : ProgRow w v c) :
    Calls Tryd.prog 31 #[v, .int .i64 9] w fun e w' => e = .returned (.int .i64 (c.rooms.length : Int)) ∧ Below w.heap.size w w' := by
  obtain ⟨a0, p0, a1, p1, a2, p2, a3, p3, a4, p4, rfl, -, -, -, -, -⟩ := h
  go_enter Tryd.func31, Tryd.ntmps31
  go_wp2
  go_ret
  exact ⟨rfl, (Below.refl _ _).alloc (Nat.le_refl _) _⟩
theorem l6Shared_10 (v : Value) (c : ProgD) (w : World) (h : ProgRow w v c) :
    Calls Tryd.prog 31 #[v, .int .i64 10] w fun e w' => e = .returned (.int .i64 (c.rooms.length : Int)) ∧ Below w.heap.size w w' := by
  obtain ⟨a0, p0, a1, p1, a2, p2, a3, p3, a4, p4, rfl, -, -, -, -, -⟩ := h
  go_enter Tryd.func31, Tryd.ntmps31
  go_wp2
  go_ret
  exact ⟨rfl, (Below.refl _ _).alloc (Nat.le_refl _) _⟩
end Go.Proofs.YthbnbofoefdneaaDoor
