/- Functions that compare two slices: what they return (made by gen_eq.py). -/
import Derived.Test.YtbnfhnfnbhigoaaDoorSemPlain
import Derived.Test.YtbnfhnfnbhigoaaDoorWant
namespace Go.Proofs.YtbnfhnfnbhigoaaDoor
open Go.RowKit
set_option linter.unusedSimpArgs false
set_option linter.unusedVariables false
theorem eqWn (x y : Int × Bool) (w : World) : (Op.equalIn 10000 45 (.agg #[.int .i64 x.1, .bool x.2]) (.agg #[.int .i64 y.1, .bool y.2])).run Tryd.prog w = .ok (decide (x = y)) w := by
  have u3 := Tryd.underlying3
  have a3 := Tryd.isAgg3
  have z3 := Tryd.sizeOf3
  have u4 := Tryd.underlying4
  have a4 := Tryd.isAgg4
  have z4 := Tryd.sizeOf4
  have hS : Tryd.prog.underlying 45 = some (.struct (Tryd.prog.fieldsOf 45)) := by kernel_rfl
  have hp : Tryd.prog.stoodInHeld 45 = false := by kernel_rfl
  rw [show (10000 : Nat) = 9999 + 1 from rfl, run_equalIn_agg w 9999 45 _ _ hS hp]
  simp only [Program.fieldsOf, Tryd.underlying45]
  go_simp
  by_cases h1 : x.1 = y.1 <;> by_cases h2 : x.2 = y.2 <;> simp [Prod.ext_iff, h1, h2]
theorem EqualWant_calls (v1 v2 : Value) (p q : List (Int × Bool)) (w : World) (h1 : WRow w v1 p) (h2 : WRow w v2 q) :
    Calls Tryd.prog 35 #[v1, v2] w fun e w' => e = .returned (.bool (decide (p = q))) ∧ Below w.heap.size w w' := by
  obtain ⟨a1, c1, rfl, l1, m1, r1⟩ := h1.look
  obtain ⟨a2, c2, rfl, l2, m2, r2⟩ := h2.look
  have R1 := Lib.hid r1; clear r1
  have R2 := Lib.hid r2; clear r2
  have hm : p.length ≤ 9223372036854775807 := by omega
  by_cases hl : p.length = q.length
  · have hd := len_bne hl
    have HL := Lib.hid hl; clear hl
    go_enter Tryd.func35, Tryd.ntmps35
    go_wp2
    go_loopw [13] (fun i wr => ∃ k : Nat, k ≤ p.length ∧ i = .int .i64 k ∧ p.take k = q.take k ∧ ∃ n, wr = w.drewN n) (fun i _ => p.length - (intOf i).toNat)
    case atStart => exact ⟨0, Nat.zero_le _, rfl, rfl, 0, rfl⟩
    case round =>
      obtain ⟨k, hk, rfl, he, n0, rfl⟩ := hrel
      have HE := Lib.hid he; clear he
      by_cases hlt : k < p.length
      · have hlt2 : k < q.length := by have := HL.out; omega
        obtain ⟨b1, o1, rfl, hb1, hc1⟩ := R1.out (by omega)
        obtain ⟨b2, o2, rfl, hb2, hc2⟩ := R2.out (by omega)
        obtain ⟨x, hx⟩ := get_ex hlt
        obtain ⟨y, hy⟩ := get_ex hlt2
        have k1 := (hc1 k x hx).1
        have k2 := (hc1 k x hx).2
        have k3 := (hc2 k y hy).1
        have k4 := (hc2 k y hy).2
        have ke := eqWn x y
        have HX := Lib.hid hx; clear hx hc1
        have HY := Lib.hid hy; clear hy hc2
        go_wp2
        go_quiet (fail)
        go_wp2
        · go_ret
          exact ⟨ret_bool (ne_false HX.out HY.out (by simpa using ‹(!decide (x = y)) = true›)).symm, below_drewN (below_drewN (Below.refl _ _) _) _⟩
        · go_roundw
          case rel => exact ⟨k + 1, by omega, by go_num, take_eq HE.out HX.out HY.out (by simpa using ‹(!decide (x = y)) = false›), _, rfl⟩
          case measure => simp [intOf]; omega
      · go_wp2
        go_ret
        exact ⟨ret_bool (all_eq HL.out (by omega) HE.out).symm, below_drewN (Below.refl _ _) _⟩
  · have hd := len_bne' hl
    go_enter Tryd.func35, Tryd.ntmps35
    go_wp2
    go_ret
    exact ⟨ret_bool (len_false hl).symm, Below.refl _ _⟩
theorem EqualI_calls (v1 v2 : Value) (p q : List Int) (w : World) (h1 : IRow w v1 p) (h2 : IRow w v2 q) :
    Calls Tryd.prog 34 #[v1, v2] w fun e w' => e = .returned (.bool (decide (p = q))) ∧ Below w.heap.size w w' := by
  obtain ⟨a1, c1, rfl, l1, m1, r1⟩ := h1.look
  obtain ⟨a2, c2, rfl, l2, m2, r2⟩ := h2.look
  have R1 := Lib.hid r1; clear r1
  have R2 := Lib.hid r2; clear r2
  have hm : p.length ≤ 9223372036854775807 := by omega
  by_cases hl : p.length = q.length
  · have hd := len_bne hl
    have HL := Lib.hid hl; clear hl
    go_enter Tryd.func34, Tryd.ntmps34
    go_wp2
    go_loopw [13] (fun i wr => ∃ k : Nat, k ≤ p.length ∧ i = .int .i64 k ∧ p.take k = q.take k ∧ ∃ n, wr = w.drewN n) (fun i _ => p.length - (intOf i).toNat)
    case atStart => exact ⟨0, Nat.zero_le _, rfl, rfl, 0, rfl⟩
    case round =>
      obtain ⟨k, hk, rfl, he, n0, rfl⟩ := hrel
      have HE := Lib.hid he; clear he
      by_cases hlt : k < p.length
      · have hlt2 : k < q.length := by have := HL.out; omega
        obtain ⟨b1, o1, rfl, hb1, hc1⟩ := R1.out (by omega)
        obtain ⟨b2, o2, rfl, hb2, hc2⟩ := R2.out (by omega)
        obtain ⟨x, hx⟩ := get_ex hlt
        obtain ⟨y, hy⟩ := get_ex hlt2
        have k1 := hc1 k x hx
        have k3 := hc2 k y hy
        have HX := Lib.hid hx; clear hx hc1
        have HY := Lib.hid hy; clear hy hc2
        go_wp2
        go_quiet (fail)
        go_wp2
        · go_ret
          exact ⟨ret_bool (ne_false HX.out HY.out (by simpa using ‹(x != y) = true›)).symm, below_drewN (below_drewN (Below.refl _ _) _) _⟩
        · go_roundw
          case rel => exact ⟨k + 1, by omega, by go_num, take_eq HE.out HX.out HY.out (by simpa using ‹(x != y) = false›), _, rfl⟩
          case measure => simp [intOf]; omega
      · go_wp2
        go_ret
        exact ⟨ret_bool (all_eq HL.out (by omega) HE.out).symm, below_drewN (Below.refl _ _) _⟩
  · have hd := len_bne' hl
    go_enter Tryd.func34, Tryd.ntmps34
    go_wp2
    go_ret
    exact ⟨ret_bool (len_false hl).symm, Below.refl _ _⟩
theorem eqIntS_calls (v1 v2 : Value) (p q : List Int) (w : World) (h1 : IRow w v1 p) (h2 : IRow w v2 q) :
    Calls Tryd.prog 28 #[v1, v2] w fun e w' => e = .returned (.bool (decide (p = q))) ∧ Below w.heap.size w w' := by
  obtain ⟨a1, c1, rfl, l1, m1, r1⟩ := h1.look
  obtain ⟨a2, c2, rfl, l2, m2, r2⟩ := h2.look
  have R1 := Lib.hid r1; clear r1
  have R2 := Lib.hid r2; clear r2
  have hm : p.length ≤ 9223372036854775807 := by omega
  by_cases hl : p.length = q.length
  · have hd := len_bne hl
    have HL := Lib.hid hl; clear hl
    go_enter Tryd.func28, Tryd.ntmps28
    go_wp2
    go_loopw [5] (fun i wr => ∃ k : Nat, k ≤ p.length ∧ i = .int .i64 k ∧ p.take k = q.take k ∧ ∃ n, wr = w.drewN n) (fun i _ => p.length - (intOf i).toNat)
    case atStart => exact ⟨0, Nat.zero_le _, rfl, rfl, 0, rfl⟩
    case round =>
      obtain ⟨k, hk, rfl, he, n0, rfl⟩ := hrel
      have HE := Lib.hid he; clear he
      by_cases hlt : k < p.length
      · have hlt2 : k < q.length := by have := HL.out; omega
        obtain ⟨b1, o1, rfl, hb1, hc1⟩ := R1.out (by omega)
        obtain ⟨b2, o2, rfl, hb2, hc2⟩ := R2.out (by omega)
        obtain ⟨x, hx⟩ := get_ex hlt
        obtain ⟨y, hy⟩ := get_ex hlt2
        have k1 := hc1 k x hx
        have k3 := hc2 k y hy
        have HX := Lib.hid hx; clear hx hc1
        have HY := Lib.hid hy; clear hy hc2
        go_wp2
        go_quiet (fail)
        go_wp2
        · go_ret
          exact ⟨ret_bool (ne_false HX.out HY.out (by simpa using ‹(x != y) = true›)).symm, below_drewN (below_drewN (Below.refl _ _) _) _⟩
        · go_roundw
          case rel => exact ⟨k + 1, by omega, by go_num, take_eq HE.out HX.out HY.out (by simpa using ‹(x != y) = false›), _, rfl⟩
          case measure => simp [intOf]; omega
      · go_wp2
        go_ret
        exact ⟨ret_bool (all_eq HL.out (by omega) HE.out).symm, below_drewN (Below.refl _ _) _⟩
  · have hd := len_bne' hl
    go_enter Tryd.func28, Tryd.ntmps28
    go_wp2
    go_ret
    exact ⟨ret_bool (len_false hl).symm, Below.refl _ _⟩
theorem l2Ints_calls (v1 v2 : Value) (p q : List Int) (w : World) (h1 : IRow w v1 p) (h2 : IRow w v2 q) :
    Calls Tryd.prog 36 #[v1, v2] w fun e w' => e = .returned (.bool (decide (p = q))) ∧ Below w.heap.size w w' := by
  obtain ⟨a1, c1, rfl, l1, m1, r1⟩ := h1.look
  obtain ⟨a2, c2, rfl, l2, m2, r2⟩ := h2.look
  have R1 := Lib.hid r1; clear r1
  have R2 := Lib.hid r2; clear r2
  have hm : p.length ≤ 9223372036854775807 := by omega
  by_cases hl : p.length = q.length
  · have hd := len_bne hl
    have HL := Lib.hid hl; clear hl
    go_enter Tryd.func36, Tryd.ntmps36
    go_wp2
    go_loopw [5] (fun i wr => ∃ k : Nat, k ≤ p.length ∧ i = .int .i64 k ∧ p.take k = q.take k ∧ ∃ n, wr = w.drewN n) (fun i _ => p.length - (intOf i).toNat)
    case atStart => exact ⟨0, Nat.zero_le _, rfl, rfl, 0, rfl⟩
    case round =>
      obtain ⟨k, hk, rfl, he, n0, rfl⟩ := hrel
      have HE := Lib.hid he; clear he
      by_cases hlt : k < p.length
      · have hlt2 : k < q.length := by have := HL.out; omega
        obtain ⟨b1, o1, rfl, hb1, hc1⟩ := R1.out (by omega)
        obtain ⟨b2, o2, rfl, hb2, hc2⟩ := R2.out (by omega)
        obtain ⟨x, hx⟩ := get_ex hlt
        obtain ⟨y, hy⟩ := get_ex hlt2
        have k1 := hc1 k x hx
        have k3 := hc2 k y hy
        have HX := Lib.hid hx; clear hx hc1
        have HY := Lib.hid hy; clear hy hc2
        go_wp2
        go_quiet (fail)
        go_wp2
        · go_ret
          exact ⟨ret_bool (ne_false HX.out HY.out (by simpa using ‹(x != y) = true›)).symm, below_drewN (below_drewN (Below.refl _ _) _) _⟩
        · go_roundw
          case rel => exact ⟨k + 1, by omega, by go_num, take_eq HE.out HX.out HY.out (by simpa using ‹(x != y) = false›), _, rfl⟩
          case measure => simp [intOf]; omega
      · go_wp2
        go_ret
        exact ⟨ret_bool (all_eq HL.out (by omega) HE.out).symm, below_drewN (Below.refl _ _) _⟩
  · have hd := len_bne' hl
    go_enter Tryd.func36, Tryd.ntmps36
    go_wp2
    go_ret
    exact ⟨ret_bool (len_false hl).symm, Below.refl _ _⟩
end Go.Proofs.YtbnfhnfnbhigoaaDoor
