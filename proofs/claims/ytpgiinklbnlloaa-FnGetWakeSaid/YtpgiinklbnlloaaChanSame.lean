/- ChanSame of both: what they return (made by gen_same.py). -/
import Derived.Test.YtpgiinklbnlloaaStChan
import Derived.Test.YtpgiinklbnlloaaEq
namespace Go.Proofs.Ytpgiinklbnlloaa
open Go.RowKit
set_option linter.unusedSimpArgs false
set_option linter.unusedVariables false
set_option maxHeartbeats 3200000 in
theorem ChanSameO (v1 v2 : Value) (c d : ChanD) (w : World) (h1 : ChanRow w v1 c) (h2 : ChanRow w v2 d) :
    Calls Try.prog 20 #[v1, v2] w fun e w' => e = .returned (.bool (decide (c = d))) ∧ Below w.heap.size w w' := by
  obtain ⟨c0, c1, c2, c3, c4⟩ := c
  obtain ⟨d0, d1, d2, d3, d4⟩ := d
  obtain ⟨a1, p1, a2, p2, a3, p3, rfl, r1, r2, r3⟩ := h1
  obtain ⟨b1, q1, b2, q2, b3, q3, rfl, s1, s2, s3⟩ := h2
  dsimp only at r1 s1 r2 s2 r3 s3 ⊢
  have R1 := Lib.hid r1; clear r1; have S1 := Lib.hid s1; clear s1
  have R2 := Lib.hid r2; clear r2; have S2 := Lib.hid s2; clear s2
  have R3 := Lib.hid r3; clear r3; have S3 := Lib.hid s3; clear s3
  have hb0 : Below w.heap.size w ((w.alloc (.cells #[.int .i64 c0, .slice a1 c1.length p1, .slice a2 c2.length p2, .slice a3 c3.length p3, .bool c4] 25)).alloc (.cells #[.int .i64 d0, .slice b1 d1.length q1, .slice b2 d2.length q2, .slice b3 d3.length q3, .bool d4] 25)) := ((Below.refl _ _).alloc (Nat.le_refl _) _).alloc (by simp) _
  have B0 := Lib.hid hb0; clear hb0
  have X0 := Lib.hid (heap_up (B := .cells #[.int .i64 d0, .slice b1 d1.length q1, .slice b2 d2.length q2, .slice b3 d3.length q3, .bool d4] 25) (heap_at w (.cells #[.int .i64 c0, .slice a1 c1.length p1, .slice a2 c2.length p2, .slice a3 c3.length p3, .bool c4] 25)))
  have Y0 := Lib.hid (heap_at1 w (.cells #[.int .i64 c0, .slice a1 c1.length p1, .slice a2 c2.length p2, .slice a3 c3.length p3, .bool c4] 25) (.cells #[.int .i64 d0, .slice b1 d1.length q1, .slice b2 d2.length q2, .slice b3 d3.length q3, .bool d4] 25))
  by_cases g0 : c0 = d0
  · have t0 : (c0 == d0) = true := by simpa using g0
    have G0 := Lib.hid g0; clear g0
    by_cases g4 : c4 = d4
    · subst g4
      go_enter Try.func20, Try.ntmps20
      go_wp2_with (fail)
      refine (EqualI_calls _ _ c1 d1 _ (Row.below R1.out B0.out) (Row.below S1.out B0.out)).mono ?_
      rintro e w1 ⟨rfl, hb⟩
      have B1 := Lib.hid (B0.out.trans (hb.mono B0.out.size)); have X1 := Lib.hid (below_at hb X0.out); have Y1 := Lib.hid (below_at hb Y0.out); clear hb
      obtain ⟨x1c0, x1c1, x1c2, x1c3, x1c4, x1f0, x1f1, x1f2, x1f3, x1f4⟩ := box5 X1.out; obtain ⟨y1c0, y1c1, y1c2, y1c3, y1c4, y1f0, y1f1, y1f2, y1f3, y1f4⟩ := box5 Y1.out; have l1 := heap_lt X1.out; have m1 := heap_lt Y1.out
      by_cases g1 : c1 = d1
      · rw [decide_eq_true g1]
        have G1 := Lib.hid g1; clear g1
        go_wp2_with (fail)
        refine (EqualLetter_calls _ _ c2 d2 _ (Row.below R2.out B1.out) (Row.below S2.out B1.out)).mono ?_
        rintro e w2 ⟨rfl, hb⟩
        have B2 := Lib.hid (B1.out.trans (hb.mono B1.out.size)); have X2 := Lib.hid (below_at hb X1.out); have Y2 := Lib.hid (below_at hb Y1.out); clear hb
        obtain ⟨x2c0, x2c1, x2c2, x2c3, x2c4, x2f0, x2f1, x2f2, x2f3, x2f4⟩ := box5 X2.out; obtain ⟨y2c0, y2c1, y2c2, y2c3, y2c4, y2f0, y2f1, y2f2, y2f3, y2f4⟩ := box5 Y2.out; have l2 := heap_lt X2.out; have m2 := heap_lt Y2.out
        by_cases g2 : c2 = d2
        · rw [decide_eq_true g2]
          have G2 := Lib.hid g2; clear g2
          go_wp2_with (fail)
          refine (EqualI_calls _ _ c3 d3 _ (Row.below R3.out B2.out) (Row.below S3.out B2.out)).mono ?_
          rintro e w3 ⟨rfl, hb⟩
          have B3 := Lib.hid (B2.out.trans (hb.mono B2.out.size)); have X3 := Lib.hid (below_at hb X2.out); have Y3 := Lib.hid (below_at hb Y2.out); clear hb
          obtain ⟨x3c0, x3c1, x3c2, x3c3, x3c4, x3f0, x3f1, x3f2, x3f3, x3f4⟩ := box5 X3.out; obtain ⟨y3c0, y3c1, y3c2, y3c3, y3c4, y3f0, y3f1, y3f2, y3f3, y3f4⟩ := box5 Y3.out; have l3 := heap_lt X3.out; have m3 := heap_lt Y3.out
          by_cases g3 : c3 = d3
          · rw [decide_eq_true g3]
            have G3 := Lib.hid g3; clear g3
            go_wp2
            go_ret
            exact ⟨ret_bool (decide_eq_true (by rw [G0.out, G1.out, G2.out, G3.out])).symm, B3.out⟩
          · rw [decide_eq_false g3]
            go_wp2
            go_ret
            exact ⟨ret_bool (decide_eq_false fun e => g3 (by injection e)).symm, B3.out⟩
        · rw [decide_eq_false g2]
          go_wp2
          go_ret
          exact ⟨ret_bool (decide_eq_false fun e => g2 (by injection e)).symm, B2.out⟩
      · rw [decide_eq_false g1]
        go_wp2
        go_ret
        exact ⟨ret_bool (decide_eq_false fun e => g1 (by injection e)).symm, B1.out⟩
    · cases c4 <;> cases d4
      · exact absurd rfl g4
      · clear g4
        go_enter Try.func20, Try.ntmps20
        go_wp2
        go_ret
        exact ⟨ret_bool (decide_eq_false fun e => by injections).symm, B0.out⟩
      · clear g4
        go_enter Try.func20, Try.ntmps20
        go_wp2
        go_ret
        exact ⟨ret_bool (decide_eq_false fun e => by injections).symm, B0.out⟩
      · exact absurd rfl g4
  · have t0 : (c0 == d0) = false := by simpa using g0
    go_enter Try.func20, Try.ntmps20
    go_wp2
    go_ret
    exact ⟨ret_bool (decide_eq_false fun e => g0 (by injection e)).symm, B0.out⟩
set_option maxHeartbeats 3200000 in
theorem sChanSameO (v1 v2 : Value) (c d : ChanD) (w : World) (h1 : ChanRow w v1 c) (h2 : ChanRow w v2 d) :
    Calls Try.prog 24 #[v1, v2] w fun e w' => e = .returned (.bool (decide (c = d))) ∧ Below w.heap.size w w' := by
  obtain ⟨c0, c1, c2, c3, c4⟩ := c
  obtain ⟨d0, d1, d2, d3, d4⟩ := d
  obtain ⟨a1, p1, a2, p2, a3, p3, rfl, r1, r2, r3⟩ := h1
  obtain ⟨b1, q1, b2, q2, b3, q3, rfl, s1, s2, s3⟩ := h2
  dsimp only at r1 s1 r2 s2 r3 s3 ⊢
  have R1 := Lib.hid r1; clear r1; have S1 := Lib.hid s1; clear s1
  have R2 := Lib.hid r2; clear r2; have S2 := Lib.hid s2; clear s2
  have R3 := Lib.hid r3; clear r3; have S3 := Lib.hid s3; clear s3
  have hb0 : Below w.heap.size w ((w.alloc (.cells #[.int .i64 c0, .slice a1 c1.length p1, .slice a2 c2.length p2, .slice a3 c3.length p3, .bool c4] 25)).alloc (.cells #[.int .i64 d0, .slice b1 d1.length q1, .slice b2 d2.length q2, .slice b3 d3.length q3, .bool d4] 25)) := ((Below.refl _ _).alloc (Nat.le_refl _) _).alloc (by simp) _
  have B0 := Lib.hid hb0; clear hb0
  have X0 := Lib.hid (heap_up (B := .cells #[.int .i64 d0, .slice b1 d1.length q1, .slice b2 d2.length q2, .slice b3 d3.length q3, .bool d4] 25) (heap_at w (.cells #[.int .i64 c0, .slice a1 c1.length p1, .slice a2 c2.length p2, .slice a3 c3.length p3, .bool c4] 25)))
  have Y0 := Lib.hid (heap_at1 w (.cells #[.int .i64 c0, .slice a1 c1.length p1, .slice a2 c2.length p2, .slice a3 c3.length p3, .bool c4] 25) (.cells #[.int .i64 d0, .slice b1 d1.length q1, .slice b2 d2.length q2, .slice b3 d3.length q3, .bool d4] 25))
  by_cases g0 : c0 = d0
  · have t0 : (c0 == d0) = true := by simpa using g0
    have G0 := Lib.hid g0; clear g0
    by_cases g4 : c4 = d4
    · subst g4
      go_enter Try.func24, Try.ntmps24
      go_wp2_with (fail)
      refine (l2Ints_calls _ _ c1 d1 _ (Row.below R1.out B0.out) (Row.below S1.out B0.out)).mono ?_
      rintro e w1 ⟨rfl, hb⟩
      have B1 := Lib.hid (B0.out.trans (hb.mono B0.out.size)); have X1 := Lib.hid (below_at hb X0.out); have Y1 := Lib.hid (below_at hb Y0.out); clear hb
      obtain ⟨x1c0, x1c1, x1c2, x1c3, x1c4, x1f0, x1f1, x1f2, x1f3, x1f4⟩ := box5 X1.out; obtain ⟨y1c0, y1c1, y1c2, y1c3, y1c4, y1f0, y1f1, y1f2, y1f3, y1f4⟩ := box5 Y1.out; have l1 := heap_lt X1.out; have m1 := heap_lt Y1.out
      by_cases g1 : c1 = d1
      · rw [decide_eq_true g1]
        have G1 := Lib.hid g1; clear g1
        go_wp2_with (fail)
        refine (l5Letters_calls _ _ c2 d2 _ (Row.below R2.out B1.out) (Row.below S2.out B1.out)).mono ?_
        rintro e w2 ⟨rfl, hb⟩
        have B2 := Lib.hid (B1.out.trans (hb.mono B1.out.size)); have X2 := Lib.hid (below_at hb X1.out); have Y2 := Lib.hid (below_at hb Y1.out); clear hb
        obtain ⟨x2c0, x2c1, x2c2, x2c3, x2c4, x2f0, x2f1, x2f2, x2f3, x2f4⟩ := box5 X2.out; obtain ⟨y2c0, y2c1, y2c2, y2c3, y2c4, y2f0, y2f1, y2f2, y2f3, y2f4⟩ := box5 Y2.out; have l2 := heap_lt X2.out; have m2 := heap_lt Y2.out
        by_cases g2 : c2 = d2
        · rw [decide_eq_true g2]
          have G2 := Lib.hid g2; clear g2
          go_wp2_with (fail)
          refine (l2Ints_calls _ _ c3 d3 _ (Row.below R3.out B2.out) (Row.below S3.out B2.out)).mono ?_
          rintro e w3 ⟨rfl, hb⟩
          have B3 := Lib.hid (B2.out.trans (hb.mono B2.out.size)); have X3 := Lib.hid (below_at hb X2.out); have Y3 := Lib.hid (below_at hb Y2.out); clear hb
          obtain ⟨x3c0, x3c1, x3c2, x3c3, x3c4, x3f0, x3f1, x3f2, x3f3, x3f4⟩ := box5 X3.out; obtain ⟨y3c0, y3c1, y3c2, y3c3, y3c4, y3f0, y3f1, y3f2, y3f3, y3f4⟩ := box5 Y3.out; have l3 := heap_lt X3.out; have m3 := heap_lt Y3.out
          by_cases g3 : c3 = d3
          · rw [decide_eq_true g3]
            have G3 := Lib.hid g3; clear g3
            go_wp2
            go_ret
            exact ⟨ret_bool (decide_eq_true (by rw [G0.out, G1.out, G2.out, G3.out])).symm, B3.out⟩
          · rw [decide_eq_false g3]
            go_wp2
            go_ret
            exact ⟨ret_bool (decide_eq_false fun e => g3 (by injection e)).symm, B3.out⟩
        · rw [decide_eq_false g2]
          go_wp2
          go_ret
          exact ⟨ret_bool (decide_eq_false fun e => g2 (by injection e)).symm, B2.out⟩
      · rw [decide_eq_false g1]
        go_wp2
        go_ret
        exact ⟨ret_bool (decide_eq_false fun e => g1 (by injection e)).symm, B1.out⟩
    · cases c4 <;> cases d4
      · exact absurd rfl g4
      · clear g4
        go_enter Try.func24, Try.ntmps24
        go_wp2
        go_ret
        exact ⟨ret_bool (decide_eq_false fun e => by injections).symm, B0.out⟩
      · clear g4
        go_enter Try.func24, Try.ntmps24
        go_wp2
        go_ret
        exact ⟨ret_bool (decide_eq_false fun e => by injections).symm, B0.out⟩
      · exact absurd rfl g4
  · have t0 : (c0 == d0) = false := by simpa using g0
    go_enter Try.func24, Try.ntmps24
    go_wp2
    go_ret
    exact ⟨ret_bool (decide_eq_false fun e => g0 (by injection e)).symm, B0.out⟩
end Go.Proofs.Ytpgiinklbnlloaa
