/- FnExactParseOp: the law's walk (made by gen_parselaw.py). -/
import Derived.Test.YthbnbofoefdneaaDoorParseI
import Derived.Test.YthbnbofoefdneaaDoorElOp
namespace Go.Proofs.YthbnbofoefdneaaDoor
open Go.RowKit
set_option linter.unusedSimpArgs false
set_option linter.unusedVariables false
set_option maxHeartbeats 3200000 in
theorem FnExactParseOp_calls (text : ByteArray) (w : World) (hL : LaidP w) :
    Calls Tryd.prog 3 #[.string text] w fun e w' => e = .returned (.bool true) ∧ Below w.heap.size w w' := by
  have HL := Lib.hid hL; clear hL
  by_cases hsz : text.size ≤ 1048576
  · have d0 : decide (1048576 < (text.size : Int)) = false := decide_eq_false (by omega)
    go_enter Tryd.func3, Tryd.ntmps3
    go_wp2_with (fail)
    refine (sParseOp_calls text _ (by omega)).mono ?_
    rintro e w1 ⟨r, rfl, hr, hb⟩
    have B1 := Lib.hid (Below.trans (Below.refl _ _) (hb.mono (by first | omega | (simp only [szA, szS, szD, World.heap_drewN] at * <;> omega))) : Below w.heap.size w w1)
    have Z1 := hb.size
    have N1 : w.heap.size ≤ w1.heap.size := (by first | with_reducible exact Z1 | (simp only [szA, szS, szD] at Z1; omega))
    clear Z1
    clear hb
    have S1 : w.heap.size ≤ w1.heap.size := (by omega)
    have HR := Lib.hid hr; clear hr
    obtain ⟨y, hy⟩ : ∃ y, optO r = y := ⟨_, rfl⟩
    obtain ⟨y0, y1, y2⟩ := y
    have HY := Lib.hid hy; clear hy
    obtain ⟨bb, hbb⟩ : ∃ bb, r.isSome = bb := ⟨_, rfl⟩
    have HBB := Lib.hid hbb; clear hbb
    rw [HY.out, HBB.out]
    go_wp2_with (fail)
    refine (ParseOp_calls text _ (HL.out.below (Below.alloc B1.out (by first | omega | (simp only [szA, szS, szD, World.heap_drewN] at * <;> omega)) _)) (by omega)).mono ?_
    rintro e w2 ⟨r2, rfl, hr, hb⟩
    have B2 := Lib.hid (Below.trans (Below.alloc B1.out (by first | omega | (simp only [szA, szS, szD, World.heap_drewN] at * <;> omega)) _) (hb.mono (by first | omega | (simp only [szA, szS, szD, World.heap_drewN] at * <;> omega))) : Below w.heap.size w w2)
    have Z2 := hb.size
    have N2 : w1.heap.size + 1 ≤ w2.heap.size := (by first | with_reducible exact Z2 | (simp only [szA, szS, szD] at Z2; omega))
    clear Z2
    have Xa_2 : Hid (w2.heap[w1.heap.size]? = some (.cells #[.int .i64 y0, .int .i64 y1, .int .i64 y2] 23 (0, 0))) := below_at hb (heap_at' (n := w1.heap.size) (by first | omega | (simp only [szA, szS, szD, World.heap_drewN] at * <;> omega)))
    clear hb
    obtain ⟨ca2_0, ca2_1, ca2_2, fa2_0, fa2_1, fa2_2⟩ := box3 Xa_2.out; have la2 := heap_lt Xa_2.out
    have S2 : w.heap.size ≤ w2.heap.size := (by omega)
    obtain rfl := ParEnd.one HR.out hr
    clear hr
    rw [HY.out, HBB.out]
    go_wp2_with (fail)
    refine (eqOp_calls (y0, y1, y2) (y0, y1, y2) _).mono ?_
    rw [decide_eq_true (rfl : ((y0, y1, y2) : OpT) = (y0, y1, y2))]
    rintro e w3 ⟨rfl, hb⟩
    have B3 := Lib.hid (Below.trans (Below.alloc B2.out (by first | omega | (simp only [szA, szS, szD, World.heap_drewN] at * <;> omega)) _) (hb.mono (by first | omega | (simp only [szA, szS, szD, World.heap_drewN] at * <;> omega))) : Below w.heap.size w w3)
    have Z3 := hb.size
    have N3 : w2.heap.size + 1 ≤ w3.heap.size := (by first | with_reducible exact Z3 | (simp only [szA, szS, szD] at Z3; omega))
    clear Z3
    have Xa_3 := Lib.hid (below_at hb (heap_up Xa_2.out))
    have Xb_3 : Hid (w3.heap[w2.heap.size]? = some (.cells #[.int .i64 y0, .int .i64 y1, .int .i64 y2] 23 (0, 0))) := below_at hb (heap_at' (n := w2.heap.size) (by first | omega | (simp only [szA, szS, szD, World.heap_drewN] at * <;> omega)))
    clear hb
    obtain ⟨ca3_0, ca3_1, ca3_2, fa3_0, fa3_1, fa3_2⟩ := box3 Xa_3.out; have la3 := heap_lt Xa_3.out
    obtain ⟨cb3_0, cb3_1, cb3_2, fb3_0, fb3_1, fb3_2⟩ := box3 Xb_3.out; have lb3 := heap_lt Xb_3.out
    have S3 : w.heap.size ≤ w3.heap.size := (by omega)
    clear ca2_0 ca2_1 ca2_2 fa2_0 fa2_1 fa2_2
    cases bb
    · go_wp2
      go_ret
      exact ⟨rfl, B3.out⟩
    · go_wp2
      go_ret
      exact ⟨rfl, B3.out⟩
  · have d0 : decide (1048576 < (text.size : Int)) = true := decide_eq_true (by omega)
    go_enter Tryd.func3, Tryd.ntmps3
    go_wp2
    go_ret
    exact ⟨rfl, Below.refl _ _⟩
end Go.Proofs.YthbnbofoefdneaaDoor
