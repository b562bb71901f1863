/- FnExactFormatOp: the law's walk (made by gen_fmtopi.py). -/
import Derived.Test.YtchlacepeckeaaaDoorFmtOpI
import Derived.Test.YtchlacepeckeaaaDoorFmtOpS
import Derived.Test.YtchlacepeckeaaaDoorElOp
namespace Go.Proofs.YtchlacepeckeaaaDoor
open Go.RowKit
set_option linter.unusedSimpArgs false
set_option linter.unusedVariables false
set_option maxHeartbeats 3200000 in
theorem FnExactFormatOp_calls (x : OpT) (w : World) (hL : LaidW w) (h1 : InB x.2.1) (h2 : InB x.2.2) :
    Calls Tryd.prog 4 #[.agg #[.int .i64 x.1, .int .i64 x.2.1, .int .i64 x.2.2]] w fun e w' => e = .returned (.bool true) ∧ Below w.heap.size w w' := by
  obtain ⟨s, hs⟩ : ∃ s, opText x = s := ⟨_, rfl⟩
  have HS := Lib.hid hs; clear hs
  have H1 := Lib.hid h1; have H2 := Lib.hid h2; have HL := Lib.hid hL; clear h1 h2 hL
  go_enter Tryd.func4, Tryd.ntmps4
  go_wp2_with (fail)
  refine (toOp_calls x _).mono ?_
  rintro e w1 ⟨rfl, hb⟩
  have B1 := Lib.hid (Below.trans (Below.alloc (Below.refl _ _) (by first | omega | (simp only [szA, szS, szD, World.heap_drewN] at * <;> omega)) _) (hb.mono (by first | omega | (simp only [szA, szS, szD, World.heap_drewN] at * <;> omega))) : Below w.heap.size w w1)
  have Z1 := hb.size
  have N1 : w.heap.size + 1 ≤ w1.heap.size := (by first | with_reducible exact Z1 | (simp only [szA, szS, szD] at Z1; omega))
  clear Z1
  have Xo_1 : Hid (w1.heap[w.heap.size]? = some (.cells #[.int .i64 x.1, .int .i64 x.2.1, .int .i64 x.2.2] 28 (0, 0))) := below_at hb (heap_at' (n := w.heap.size) (by first | omega | (simp only [szA, szS, szD, World.heap_drewN] at * <;> omega)))
  clear hb
  obtain ⟨co1_0, co1_1, co1_2, fo1_0, fo1_1, fo1_2⟩ := box3 Xo_1.out; have lo1 := heap_lt Xo_1.out
  have S1 : w.heap.size ≤ w1.heap.size := (by omega)
  go_wp2_with (fail)
  refine (sFormatOp_calls x _ H1.out H2.out).mono ?_
  rw [HS.out]
  rintro e w2 ⟨rfl, hb⟩
  have B2 := Lib.hid (Below.trans B1.out (hb.mono (by first | omega | (simp only [szA, szS, szD, World.heap_drewN] at * <;> omega))) : Below w.heap.size w w2)
  have Z2 := hb.size
  have N2 : w1.heap.size ≤ w2.heap.size := (by first | with_reducible exact Z2 | (simp only [szA, szS, szD] at Z2; omega))
  clear Z2
  have Xo_2 := Lib.hid (below_at hb Xo_1.out)
  clear hb
  obtain ⟨co2_0, co2_1, co2_2, fo2_0, fo2_1, fo2_2⟩ := box3 Xo_2.out; have lo2 := heap_lt Xo_2.out
  have S2 : w.heap.size ≤ w2.heap.size := (by omega)
  clear co1_0 co1_1 co1_2 fo1_0 fo1_1 fo1_2
  go_wp2_with (fail)
  refine (toOp_calls x _).mono ?_
  rintro e w3 ⟨rfl, hb⟩
  have B3 := Lib.hid (Below.trans B2.out (hb.mono (by first | omega | (simp only [szA, szS, szD, World.heap_drewN] at * <;> omega))) : Below w.heap.size w w3)
  have Z3 := hb.size
  have N3 : w2.heap.size ≤ w3.heap.size := (by first | with_reducible exact Z3 | (simp only [szA, szS, szD] at Z3; omega))
  clear Z3
  have Xo_3 := Lib.hid (below_at hb Xo_2.out)
  clear hb
  obtain ⟨co3_0, co3_1, co3_2, fo3_0, fo3_1, fo3_2⟩ := box3 Xo_3.out; have lo3 := heap_lt Xo_3.out
  have S3 : w.heap.size ≤ w3.heap.size := (by omega)
  clear co2_0 co2_1 co2_2 fo2_0 fo2_1 fo2_2
  go_wp2_with (fail)
  refine (FormatOp_calls x _ (HL.out.below B3.out) H1.out H2.out).mono ?_
  rw [HS.out]
  rintro e w4 ⟨rfl, hb⟩
  have B4 := Lib.hid (Below.trans B3.out (hb.mono (by first | omega | (simp only [szA, szS, szD, World.heap_drewN] at * <;> omega))) : Below w.heap.size w w4)
  have Z4 := hb.size
  have N4 : w3.heap.size ≤ w4.heap.size := (by first | with_reducible exact Z4 | (simp only [szA, szS, szD] at Z4; omega))
  clear Z4
  have Xo_4 := Lib.hid (below_at hb Xo_3.out)
  clear hb
  obtain ⟨co4_0, co4_1, co4_2, fo4_0, fo4_1, fo4_2⟩ := box3 Xo_4.out; have lo4 := heap_lt Xo_4.out
  have S4 : w.heap.size ≤ w4.heap.size := (by omega)
  clear co3_0 co3_1 co3_2 fo3_0 fo3_1 fo3_2
  go_wp2
  go_ret
  exact ⟨rfl, B4.out⟩
end Go.Proofs.YtchlacepeckeaaaDoor
