/- LockSame of both: what they return (made by gen_same.py). -/
import Derived.Test.YtbnfhnfnbhigoaaDoorStLock
import Derived.Test.YtbnfhnfnbhigoaaDoorEq
namespace Go.Proofs.YtbnfhnfnbhigoaaDoor
open Go.RowKit
set_option linter.unusedSimpArgs false
set_option linter.unusedVariables false
set_option maxHeartbeats 3200000 in
theorem LockSameO (v1 v2 : Value) (c d : LockD) (w : World) (h1 : LockRow w v1 c) (h2 : LockRow w v2 d) :
    Calls Tryd.prog 13 #[v1, v2] w fun e w' => e = .returned (.bool (decide (c = d))) ∧ Below w.heap.size w w' := by
  obtain ⟨c0, c1, c2⟩ := c
  obtain ⟨d0, d1, d2⟩ := d
  obtain ⟨a0, p0, a2, p2, rfl, r0, r2⟩ := h1
  obtain ⟨b0, q0, b2, q2, rfl, s0, s2⟩ := h2
  dsimp only at r0 s0 r2 s2 ⊢
  have R0 := Lib.hid r0; clear r0; have S0 := Lib.hid s0; clear s0
  have R2 := Lib.hid r2; clear r2; have S2 := Lib.hid s2; clear s2
  have hb0 : Below w.heap.size w ((w.alloc (.cells #[.slice a0 c0.length p0, .int .i64 c1, .slice a2 c2.length p2] 30)).alloc (.cells #[.slice b0 d0.length q0, .int .i64 d1, .slice b2 d2.length q2] 30)) := ((Below.refl _ _).alloc (Nat.le_refl _) _).alloc (by simp) _
  have B0 := Lib.hid hb0; clear hb0
  have X0 := Lib.hid (heap_up (B := .cells #[.slice b0 d0.length q0, .int .i64 d1, .slice b2 d2.length q2] 30) (heap_at w (.cells #[.slice a0 c0.length p0, .int .i64 c1, .slice a2 c2.length p2] 30)))
  have Y0 := Lib.hid (heap_at1 w (.cells #[.slice a0 c0.length p0, .int .i64 c1, .slice a2 c2.length p2] 30) (.cells #[.slice b0 d0.length q0, .int .i64 d1, .slice b2 d2.length q2] 30))
  by_cases g1 : c1 = d1
  · have t1 : (c1 == d1) = true := by simpa using g1
    have G1 := Lib.hid g1; clear g1
    go_enter Tryd.func13, Tryd.ntmps13
    go_wp2_with (fail)
    refine (EqualI_calls _ _ c0 d0 _ (Row.below R0.out B0.out) (Row.below S0.out B0.out)).mono ?_
    rintro e w1 ⟨rfl, hb⟩
    have B1 := Lib.hid (B0.out.trans (hb.mono B0.out.size)); have X1 := Lib.hid (below_at hb X0.out); have Y1 := Lib.hid (below_at hb Y0.out); clear hb
    obtain ⟨x1c0, x1c1, x1c2, x1f0, x1f1, x1f2⟩ := box3 X1.out; obtain ⟨y1c0, y1c1, y1c2, y1f0, y1f1, y1f2⟩ := box3 Y1.out; have l1 := heap_lt X1.out; have m1 := heap_lt Y1.out
    by_cases g0 : c0 = d0
    · rw [decide_eq_true g0]
      have G0 := Lib.hid g0; clear g0
      go_wp2_with (fail)
      refine (EqualWant_calls _ _ c2 d2 _ (Row.below R2.out B1.out) (Row.below S2.out B1.out)).mono ?_
      rintro e w2 ⟨rfl, hb⟩
      have B2 := Lib.hid (B1.out.trans (hb.mono B1.out.size)); have X2 := Lib.hid (below_at hb X1.out); have Y2 := Lib.hid (below_at hb Y1.out); clear hb
      obtain ⟨x2c0, x2c1, x2c2, x2f0, x2f1, x2f2⟩ := box3 X2.out; obtain ⟨y2c0, y2c1, y2c2, y2f0, y2f1, y2f2⟩ := box3 Y2.out; have l2 := heap_lt X2.out; have m2 := heap_lt Y2.out
      by_cases g2 : c2 = d2
      · rw [decide_eq_true g2]
        have G2 := Lib.hid g2; clear g2
        go_wp2
        go_ret
        exact ⟨ret_bool (decide_eq_true (by rw [G0.out, G1.out, G2.out])).symm, B2.out⟩
      · rw [decide_eq_false g2]
        go_wp2
        go_ret
        exact ⟨ret_bool (decide_eq_false fun e => g2 (by injection e)).symm, B2.out⟩
    · rw [decide_eq_false g0]
      go_wp2
      go_ret
      exact ⟨ret_bool (decide_eq_false fun e => g0 (by injection e)).symm, B1.out⟩
  · have t1 : (c1 == d1) = false := by simpa using g1
    go_enter Tryd.func13, Tryd.ntmps13
    go_wp2
    go_ret
    exact ⟨ret_bool (decide_eq_false fun e => g1 (by injection e)).symm, B0.out⟩
end Go.Proofs.YtbnfhnfnbhigoaaDoor
