/- Numbers within bounds, of both (made by gen_progvalid.py). -/
import Derived.Test.YthbnbofoefdneaaDoorProgPlain
import Derived.Test.YthbnbofoefdneaaDoorG1
namespace Go.Proofs.YthbnbofoefdneaaDoor
open Go.RowKit
set_option linter.unusedSimpArgs false
set_option linter.unusedVariables false
theorem l6Numbers_calls (v : Value) (q : List Int) (lo hi : Int) (w : World) (h : IRow w v q) :
    Calls Tryd.prog 67 #[v, .int .i64 lo, .int .i64 hi] w fun e w' => e = .returned (.bool (inB lo hi q)) ∧ Below w.heap.size w w' := by
  obtain ⟨a, c, rfl, l, m, r⟩ := h.look
  have R := Lib.hid r; clear r
  have hm : q.length ≤ 9223372036854775807 := by omega
  go_enter Tryd.func67, Tryd.ntmps67
  go_wp2
  go_loop [7] (fun i => ∃ k : Nat, k ≤ q.length ∧ k ≤ 4 ∧ i = .int .i64 k ∧ (∀ x ∈ q.take k, lo ≤ x ∧ x ≤ hi)) (fun i => q.length - (intOf i).toNat)
  case atStart => exact ⟨0, Nat.zero_le _, by omega, rfl, by simp⟩
  case round =>
    obtain ⟨k, hk, hk4, rfl, hj⟩ := hrel
    have HJ := Lib.hid hj; clear hj
    by_cases hlt : k < q.length
    · have d0 : decide ((k : Int) < (q.length : Int)) = true := decide_eq_true (by omega)
      by_cases h3 : k ≤ 3
      · have d3 : decide ((k : Int) ≤ 3) = true := decide_eq_true (by omega)
        obtain ⟨b, o, rfl, hb1, hc1⟩ := R.out (by omega)
        obtain ⟨x, hx⟩ := get_ex hlt
        have hk1 := hc1 k x hx
        have HX := Lib.hid hx; clear hx hc1
        by_cases c1 : x < lo
        · have d1 := decide_eq_true c1
          go_wp2
          go_ret
          exact ⟨ret_bool (decide_eq_false (fun e => by have := e.2 x (get_mem HX.out); omega)).symm, Below.refl _ _⟩
        · have d1 := decide_eq_false c1
          by_cases c2 : hi < x
          · have d2 := decide_eq_true c2
            go_wp2
            go_ret
            exact ⟨ret_bool (decide_eq_false (fun e => by have := e.2 x (get_mem HX.out); omega)).symm, Below.refl _ _⟩
          · have d2 := decide_eq_false c2
            go_wp2
            go_round
            case rel => exact ⟨k + 1, by omega, by omega, by go_num, all_take HX.out HJ.out (by omega)⟩
            case measure => simp [intOf]; omega
      · have d3 : decide ((k : Int) ≤ 3) = false := decide_eq_false (by omega)
        have d4 : decide ((q.length : Int) ≤ 3) = false := decide_eq_false (by omega)
        go_wp2
        go_ret
        exact ⟨ret_bool (decide_eq_false (fun e => by have := e.1; omega)).symm, Below.refl _ _⟩
    · have d0 : decide ((k : Int) < (q.length : Int)) = false := decide_eq_false (by omega)
      by_cases h3 : q.length ≤ 3
      · have d4 : decide ((q.length : Int) ≤ 3) = true := decide_eq_true (by omega)
        go_wp2
        go_ret
        have h := HJ.out
        rw [take_all (by omega)] at h
        exact ⟨ret_bool (decide_eq_true ⟨h3, h⟩).symm, Below.refl _ _⟩
      · have d4 : decide ((q.length : Int) ≤ 3) = false := decide_eq_false (by omega)
        go_wp2
        go_ret
        exact ⟨ret_bool (decide_eq_false (fun e => h3 e.1)).symm, Below.refl _ _⟩
end Go.Proofs.YthbnbofoefdneaaDoor
