/- spec.l13Dec: what it returns, for every int. -/
import Derived.Test.YthbnbofoefdneaaDoorTextP
namespace Go.Proofs.YthbnbofoefdneaaDoor
open Go.RowKit
set_option linter.unusedSimpArgs false
set_option linter.unusedVariables false
set_option maxRecDepth 100000 in
theorem conv_one (w : World) (x : Int) :
    (convert 28 9 (.slice (some ⟨w.heap.size, 0, none⟩) 1 1)).run Tryd.prog (w.alloc (.cells #[.int .u8 x] 5)) = .ok (.string (strOfNums [x])) (w.alloc (.cells #[.int .u8 x] 5)) := by
  refine run_convert_bytes_arg _ 28 5 (by with_unfolding_all rfl) (by with_unfolding_all rfl) _ 0 1 1 [x] rfl ?_ _ (by with_unfolding_all rfl)
  intro i hi
  obtain rfl : i = 0 := by omega
  rw [World.cell?_alloc_new]; rfl
set_option maxRecDepth 100000 in
theorem l13Dec_nn (n : Nat) (w : World) (hn : n ≤ 9223372036854775807) :
    Calls Tryd.prog 23 #[.int .i64 n] w fun e w' => e = .returned (.string (decB n)) ∧ Below w.heap.size w w' := by
  have d1 : decide ((n : Int) < -9223372036854775807) = false := decide_eq_false (by omega)
  have d2 : decide ((n : Int) < 0) = false := decide_eq_false (by omega)
  go_enter Tryd.func23, Tryd.ntmps23
  go_wp2
  go_loopw [0, 3] (fun nv s wr => ∃ (m : Nat) (out : ByteArray), m ≤ n ∧ nv = .int .i64 m ∧ s = .string out ∧ DecInv n m out ∧ Below w.heap.size w wr) (fun nv _ _ => (intOf nv).toNat)
  case atStart => exact ⟨n, ⟨#[]⟩, Nat.le_refl _, rfl, rfl, DecInv.start n, Below.refl _ _⟩
  case round =>
    obtain ⟨m, out, hm, rfl, rfl, hi, hb⟩ := hrel
    have hos := hi.size (by omega)
    have HI := Lib.hid hi; have HB := Lib.hid hb; have S0 := hb.size; clear hi hb
    by_cases h9 : 9 < m
    · have d3 : decide ((9 : Int) < (m : Int)) = true := decide_eq_true (by omega)
      have c0 := conv_one wr (48 + (m : Int) % 10)
      have cs : (strOfNums [(48 + (m : Int) % 10)]).size = 1 := strOfNums_size _
      have HS := Lib.hid (HI.out.step h9)
      go_wp2
      go_roundw
      case rel => exact ⟨m / 10, _, by omega, by go_num, rfl, HS.out, HB.out.alloc (by omega) _⟩
      case measure => simp [intOf]; omega
    · have d3 : decide ((9 : Int) < (m : Int)) = false := decide_eq_false (by omega)
      have c0 := conv_one wr (48 + (m : Int))
      have cs : (strOfNums [(48 + (m : Int))]).size = 1 := strOfNums_size _
      have HS := Lib.hid (HI.out.last h9)
      go_wp2
      go_ret
      exact ⟨by rw [HS.out]; rfl, HB.out.alloc (by omega) _⟩
set_option maxRecDepth 100000 in
theorem l13Dec_calls (n : Int) (w : World) (h0 : -9223372036854775808 ≤ n) (h1 : n ≤ 9223372036854775807) :
    Calls Tryd.prog 23 #[.int .i64 n] w fun e w' => e = .returned (.string (itoaB n)) ∧ Below w.heap.size w w' := by
  by_cases hn : 0 ≤ n
  · obtain ⟨m, rfl⟩ := Int.eq_ofNat_of_zero_le hn
    rw [itoaB_nn]
    exact l13Dec_nn m w (by omega)
  · by_cases hl : n < -9223372036854775807
    · obtain rfl : n = -9223372036854775808 := by omega
      go_enter Tryd.func23, Tryd.ntmps23
      go_wp2
      go_ret
      exact ⟨by rw [itoaB_low]; rfl, Below.refl _ _⟩
    · obtain ⟨m, hm⟩ : ∃ m : Nat, -n = m := ⟨(-n).toNat, by omega⟩
      obtain rfl : n = -(m : Int) := by omega
      clear hm
      have d1 : decide (-(m : Int) < -9223372036854775807) = false := decide_eq_false hl
      have d2 : decide (-(m : Int) < 0) = true := decide_eq_true (by omega)
      have d3 : decide (0 < (m : Int)) = true := decide_eq_true (by omega)
      have d4 : decide (0 < m) = true := decide_eq_true (by omega)
      have hms := decB_size m (by omega)
      have HE := Lib.hid (itoaB_neg m (by omega))
      clear hn
      go_enter Tryd.func23, Tryd.ntmps23
      go_wp2_with (fail)
      have key := l13Dec_nn m w (by omega)
      refine key.mono ?_
      rintro e w1 ⟨rfl, hb⟩
      go_wp2
      go_ret
      exact ⟨by rw [HE.out]; rfl, hb⟩
end Go.Proofs.YthbnbofoefdneaaDoor
