/- Numbers within bounds, of both (made by gen_progvalid.py). -/
import Derived.Test.YtobkammimkgnkaaProgPlain
import Derived.Test.YtobkammimkgnkaaG1
namespace Go.Proofs.Ytobkammimkgnkaa
open Go.RowKit
set_option linter.unusedSimpArgs false
set_option linter.unusedVariables false
theorem withinFn_calls (x lo hi : Int) (b1 b2 : Nat) (w : World) (h1 : w.cell? ⟨b1, 0, none⟩ = some (.int .i64 lo)) (h2 : w.cell? ⟨b2, 0, none⟩ = some (.int .i64 hi)) :
    Calls Try.prog 58 #[.int .i64 x, .pointer (some ⟨b1, 0, none⟩), .pointer (some ⟨b2, 0, none⟩)] w fun e w' => e = .returned (.bool (!decide (lo ≤ x ∧ x ≤ hi))) ∧ w = w' := by
  by_cases c1 : x < lo
  · have d1 := decide_eq_true c1
    have e : decide (lo ≤ x ∧ x ≤ hi) = false := decide_eq_false (by omega)
    rw [e]
    go_enter Try.func58, Try.ntmps58
    go_wp2
    go_ret
    exact ⟨rfl, rfl⟩
  · have d1 := decide_eq_false c1
    by_cases c2 : hi < x
    · have d2 := decide_eq_true c2
      have e : decide (lo ≤ x ∧ x ≤ hi) = false := decide_eq_false (by omega)
      rw [e]
      go_enter Try.func58, Try.ntmps58
      go_wp2
      go_ret
      exact ⟨rfl, rfl⟩
    · have d2 := decide_eq_false c2
      have e : decide (lo ≤ x ∧ x ≤ hi) = true := decide_eq_true (by omega)
      rw [e]
      go_enter Try.func58, Try.ntmps58
      go_wp2
      go_ret
      exact ⟨rfl, rfl⟩
theorem IndexFuncI_calls (v : Value) (q : List Int) (lo hi : Int) (b1 b2 : Nat) (w : World) (h : IRow w v q) (h1 : w.cell? ⟨b1, 0, none⟩ = some (.int .i64 lo)) (h2 : w.cell? ⟨b2, 0, none⟩ = some (.int .i64 hi)) :
    Calls Try.prog 64 #[v, .func (.func 58) #[] #[.pointer (some ⟨b1, 0, none⟩), .pointer (some ⟨b2, 0, none⟩)]] w fun e w' => (∃ r : Int, e = .returned (.int .i64 r) ∧ decide (0 ≤ r) = !decide (∀ x ∈ q, lo ≤ x ∧ x ≤ hi)) ∧ w = w' := by
  obtain ⟨a, c, rfl, l, m, r⟩ := h.look
  have R := Lib.hid r; clear r
  have hm : q.length ≤ 9223372036854775807 := by omega
  go_enter Try.func64, Try.ntmps64
  go_wp2
  go_loop [8] (fun i => ∃ k : Nat, k ≤ q.length ∧ i = .int .i64 k ∧ (∀ x ∈ q.take k, lo ≤ x ∧ x ≤ hi)) (fun i => q.length - (intOf i).toNat)
  case atStart => exact ⟨0, Nat.zero_le _, rfl, by simp⟩
  case round =>
    obtain ⟨k, hk, rfl, hj⟩ := hrel
    have HJ := Lib.hid hj; clear hj
    by_cases hlt : k < q.length
    · obtain ⟨b, o, rfl, hb1, hc1⟩ := R.out (by omega)
      obtain ⟨x, hx⟩ := get_ex hlt
      have hk1 := hc1 k x hx
      have HX := Lib.hid hx; clear hx hc1
      go_wp2_with (fail)
      refine (withinFn_calls x lo hi b1 b2 _ h1 h2).mono ?_
      rintro e w' ⟨rfl, rfl⟩
      by_cases hg : lo ≤ x ∧ x ≤ hi
      · rw [decide_eq_true hg]
        have HG := Lib.hid hg; clear hg
        go_wp2
        go_round
        case rel => exact ⟨k + 1, by omega, by go_num, all_take HX.out HJ.out HG.out⟩
        case measure => simp [intOf]; omega
      · rw [decide_eq_false hg]
        have HG := Lib.hid hg; clear hg
        go_wp2
        go_ret
        refine ⟨⟨_, rfl, ?_⟩, rfl⟩
        rw [decide_eq_true (by omega), decide_eq_false (fun e => HG.out (e x (get_mem HX.out)))]; rfl
    · go_wp2
      go_ret
      have h := HJ.out
      rw [take_all (by omega)] at h
      refine ⟨⟨_, rfl, ?_⟩, rfl⟩
      rw [decide_eq_true h]; rfl
theorem ContainsFuncI_calls (v : Value) (q : List Int) (lo hi : Int) (b1 b2 : Nat) (w : World) (h : IRow w v q) (h1 : w.cell? ⟨b1, 0, none⟩ = some (.int .i64 lo)) (h2 : w.cell? ⟨b2, 0, none⟩ = some (.int .i64 hi)) :
    Calls Try.prog 57 #[v, .func (.func 58) #[] #[.pointer (some ⟨b1, 0, none⟩), .pointer (some ⟨b2, 0, none⟩)]] w fun e w' => e = .returned (.bool (!decide (∀ x ∈ q, lo ≤ x ∧ x ≤ hi))) ∧ w = w' := by
  go_enter Try.func57, Try.ntmps57
  go_wp2_with (fail)
  refine (IndexFuncI_calls v q lo hi b1 b2 _ h h1 h2).mono ?_
  rintro e w' ⟨⟨r, rfl, hr⟩, rfl⟩
  have HR := Lib.hid hr; clear hr
  go_wp2
  go_ret
  exact ⟨ret_bool HR.out, rfl⟩
theorem within_calls (v : Value) (q : List Int) (lo hi : Int) (w : World) (h : IRow w v q) :
    Calls Try.prog 45 #[v, .int .i64 lo, .int .i64 hi] w fun e w' => e = .returned (.bool (inB lo hi q)) ∧ Below w.heap.size w w' := by
  have H := Lib.hid h
  obtain ⟨a, c, rfl, l, m, -⟩ := h.look
  clear h
  have hb : Below w.heap.size w ((w.alloc (.cells #[.int .i64 lo] 3)).alloc (.cells #[.int .i64 hi] 3)) := ((Below.refl _ _).alloc (Nat.le_refl _) _).alloc (by simp) _
  have HB := Lib.hid hb; clear hb
  by_cases h3 : (q.length : Int) ≤ 3
  · have d3 := decide_eq_true h3
    go_enter Try.func45, Try.ntmps45
    go_wp2_with (fail)
    refine (ContainsFuncI_calls _ q lo hi w.heap.size (w.heap.size + 1) _ (Row.below H.out HB.out) (box1 (heap_up (heap_at w _))).1 (box1 (heap_at1 w _ _)).1).mono ?_
    rintro e w' ⟨rfl, rfl⟩
    by_cases hg : ∀ x ∈ q, lo ≤ x ∧ x ≤ hi
    · rw [decide_eq_true hg]
      have HG := Lib.hid hg; clear hg
      go_wp2
      go_ret
      exact ⟨ret_bool (decide_eq_true ⟨by omega, HG.out⟩).symm, HB.out⟩
    · rw [decide_eq_false hg]
      have HG := Lib.hid hg; clear hg
      go_wp2
      go_ret
      exact ⟨ret_bool (decide_eq_false (fun e => HG.out e.2)).symm, HB.out⟩
  · have d3 := decide_eq_false h3
    go_enter Try.func45, Try.ntmps45
    go_wp2
    go_ret
    exact ⟨ret_bool (decide_eq_false (fun e => by have := e.1; omega)).symm, HB.out⟩
theorem l6Numbers_calls (v : Value) (q : List Int) (lo hi : Int) (w : World) (h : IRow w v q) :
    Calls Try.prog 44 #[v, .int .i64 lo, .int .i64 hi] w fun e w' => e = .returned (.bool (inB lo hi q)) ∧ Below w.heap.size w w' := by
  obtain ⟨a, c, rfl, l, m, r⟩ := h.look
  have R := Lib.hid r; clear r
  have hm : q.length ≤ 9223372036854775807 := by omega
  go_enter Try.func44, Try.ntmps44
  go_wp2
  go_loop [7] (fun i => ∃ k : Nat, k ≤ q.length ∧ k ≤ 4 ∧ i = .int .i64 k ∧ (∀ x ∈ q.take k, lo ≤ x ∧ x ≤ hi)) (fun i => q.length - (intOf i).toNat)
  case atStart => exact ⟨0, Nat.zero_le _, by omega, rfl, by simp⟩
  case round =>
    obtain ⟨k, hk, hk4, rfl, hj⟩ := hrel
    have HJ := Lib.hid hj; clear hj
    by_cases hlt : k < q.length
    · have d0 : decide ((k : Int) < (q.length : Int)) = true := decide_eq_true (by omega)
      by_cases h3 : k ≤ 3
      · have d3 : decide ((k : Int) ≤ 3) = true := decide_eq_true (by omega)
        obtain ⟨b, o, rfl, hb1, hc1⟩ := R.out (by omega)
        obtain ⟨x, hx⟩ := get_ex hlt
        have hk1 := hc1 k x hx
        have HX := Lib.hid hx; clear hx hc1
        by_cases c1 : x < lo
        · have d1 := decide_eq_true c1
          go_wp2
          go_ret
          exact ⟨ret_bool (decide_eq_false (fun e => by have := e.2 x (get_mem HX.out); omega)).symm, Below.refl _ _⟩
        · have d1 := decide_eq_false c1
          by_cases c2 : hi < x
          · have d2 := decide_eq_true c2
            go_wp2
            go_ret
            exact ⟨ret_bool (decide_eq_false (fun e => by have := e.2 x (get_mem HX.out); omega)).symm, Below.refl _ _⟩
          · have d2 := decide_eq_false c2
            go_wp2
            go_round
            case rel => exact ⟨k + 1, by omega, by omega, by go_num, all_take HX.out HJ.out (by omega)⟩
            case measure => simp [intOf]; omega
      · have d3 : decide ((k : Int) ≤ 3) = false := decide_eq_false (by omega)
        have d4 : decide ((q.length : Int) ≤ 3) = false := decide_eq_false (by omega)
        go_wp2
        go_ret
        exact ⟨ret_bool (decide_eq_false (fun e => by have := e.1; omega)).symm, Below.refl _ _⟩
    · have d0 : decide ((k : Int) < (q.length : Int)) = false := decide_eq_false (by omega)
      by_cases h3 : q.length ≤ 3
      · have d4 : decide ((q.length : Int) ≤ 3) = true := decide_eq_true (by omega)
        go_wp2
        go_ret
        have h := HJ.out
        rw [take_all (by omega)] at h
        exact ⟨ret_bool (decide_eq_true ⟨h3, h⟩).symm, Below.refl _ _⟩
      · have d4 : decide ((q.length : Int) ≤ 3) = false := decide_eq_false (by omega)
        go_wp2
        go_ret
        exact ⟨ret_bool (decide_eq_false (fun e => h3 e.1)).symm, Below.refl _ _⟩
end Go.Proofs.Ytobkammimkgnkaa
