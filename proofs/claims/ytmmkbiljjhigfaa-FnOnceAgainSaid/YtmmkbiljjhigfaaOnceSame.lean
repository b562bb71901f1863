/- OnceSame of both: what they return (made by gen_same.py). -/
import Derived.Test.YtmmkbiljjhigfaaStOnce
import Derived.Test.YtmmkbiljjhigfaaEq
namespace Go.Proofs.Ytmmkbiljjhigfaa
open Go.RowKit
set_option linter.unusedSimpArgs false
set_option linter.unusedVariables false
set_option maxHeartbeats 3200000 in
theorem OnceSameO (v1 v2 : Value) (c d : OnceD) (w : World) (h1 : OnceRow w v1 c) (h2 : OnceRow w v2 d) :
    Calls Try.prog 16 #[v1, v2] w fun e w' => e = .returned (.bool (decide (c = d))) ∧ Below w.heap.size w w' := by
  obtain ⟨c0, c1, c2, c3⟩ := c
  obtain ⟨d0, d1, d2, d3⟩ := d
  obtain ⟨a3, p3, rfl, r3⟩ := h1
  obtain ⟨b3, q3, rfl, s3⟩ := h2
  dsimp only at r3 s3 ⊢
  have R3 := Lib.hid r3; clear r3; have S3 := Lib.hid s3; clear s3
  have hb0 : Below w.heap.size w ((w.alloc (.cells #[.int .i64 c0, .int .i64 c1, .int .i64 c2, .slice a3 c3.length p3] 25)).alloc (.cells #[.int .i64 d0, .int .i64 d1, .int .i64 d2, .slice b3 d3.length q3] 25)) := ((Below.refl _ _).alloc (Nat.le_refl _) _).alloc (by simp) _
  have B0 := Lib.hid hb0; clear hb0
  have X0 := Lib.hid (heap_up (B := .cells #[.int .i64 d0, .int .i64 d1, .int .i64 d2, .slice b3 d3.length q3] 25) (heap_at w (.cells #[.int .i64 c0, .int .i64 c1, .int .i64 c2, .slice a3 c3.length p3] 25)))
  have Y0 := Lib.hid (heap_at1 w (.cells #[.int .i64 c0, .int .i64 c1, .int .i64 c2, .slice a3 c3.length p3] 25) (.cells #[.int .i64 d0, .int .i64 d1, .int .i64 d2, .slice b3 d3.length q3] 25))
  by_cases g0 : c0 = d0
  · have t0 : (c0 == d0) = true := by simpa using g0
    have G0 := Lib.hid g0; clear g0
    by_cases g1 : c1 = d1
    · have t1 : (c1 == d1) = true := by simpa using g1
      have G1 := Lib.hid g1; clear g1
      by_cases g2 : c2 = d2
      · have t2 : (c2 == d2) = true := by simpa using g2
        have G2 := Lib.hid g2; clear g2
        go_enter Try.func16, Try.ntmps16
        go_wp2_with (fail)
        refine (EqualI_calls _ _ c3 d3 _ (Row.below R3.out B0.out) (Row.below S3.out B0.out)).mono ?_
        rintro e w1 ⟨rfl, hb⟩
        have B1 := Lib.hid (B0.out.trans (hb.mono B0.out.size)); have X1 := Lib.hid (below_at hb X0.out); have Y1 := Lib.hid (below_at hb Y0.out); clear hb
        obtain ⟨x1c0, x1c1, x1c2, x1c3, x1f0, x1f1, x1f2, x1f3⟩ := box4 X1.out; obtain ⟨y1c0, y1c1, y1c2, y1c3, y1f0, y1f1, y1f2, y1f3⟩ := box4 Y1.out; have l1 := heap_lt X1.out; have m1 := heap_lt Y1.out
        by_cases g3 : c3 = d3
        · rw [decide_eq_true g3]
          have G3 := Lib.hid g3; clear g3
          go_wp2
          go_ret
          exact ⟨ret_bool (decide_eq_true (by rw [G0.out, G1.out, G2.out, G3.out])).symm, B1.out⟩
        · rw [decide_eq_false g3]
          go_wp2
          go_ret
          exact ⟨ret_bool (decide_eq_false fun e => g3 (by injection e)).symm, B1.out⟩
      · have t2 : (c2 == d2) = false := by simpa using g2
        go_enter Try.func16, Try.ntmps16
        go_wp2
        go_ret
        exact ⟨ret_bool (decide_eq_false fun e => g2 (by injection e)).symm, B0.out⟩
    · have t1 : (c1 == d1) = false := by simpa using g1
      go_enter Try.func16, Try.ntmps16
      go_wp2
      go_ret
      exact ⟨ret_bool (decide_eq_false fun e => g1 (by injection e)).symm, B0.out⟩
  · have t0 : (c0 == d0) = false := by simpa using g0
    go_enter Try.func16, Try.ntmps16
    go_wp2
    go_ret
    exact ⟨ret_bool (decide_eq_false fun e => g0 (by injection e)).symm, B0.out⟩
end Go.Proofs.Ytmmkbiljjhigfaa
