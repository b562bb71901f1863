/- spec.LockSame: what it returns. -/
import Derived.Test.YtbnfhnfnbhigoaaDoorStLock
import Derived.Test.YtbnfhnfnbhigoaaDoorEq
namespace Go.Proofs.YtbnfhnfnbhigoaaDoor
open Go.RowKit
set_option linter.unusedSimpArgs false
set_option linter.unusedVariables false
set_option maxHeartbeats 2000000 in
theorem sLockSameO (v1 v2 : Value) (c d : LockD) (w : World) (h1 : LockRow w v1 c) (h2 : LockRow w v2 d) :
    Calls Tryd.prog 14 #[v1, v2] w fun e w' => e = .returned (.bool (decide (c = d))) ∧ Below w.heap.size w w' := by
  obtain ⟨c0, c1, p⟩ := c
  obtain ⟨d0, d1, q⟩ := d
  obtain ⟨a0, p0, a2, p2, rfl, r0, r2⟩ := h1
  obtain ⟨b0, q0, b2, q2, rfl, s0, s2⟩ := h2
  dsimp only at r0 r2 s0 s2 ⊢
  have R0 := Lib.hid r0; clear r0
  have S0 := Lib.hid s0; clear s0
  obtain ⟨x2, y2, e, l2, m2, r⟩ := WRow.look r2
  injection e with e1 e2 e3
  subst e1 e3
  obtain ⟨x3, y3, e, l3, m3, s⟩ := WRow.look s2
  injection e with e1 e2 e3
  subst e1 e3
  have R2 := Lib.hid r; clear r
  have S2 := Lib.hid s; clear s
  have hm : p.length ≤ 9223372036854775807 := by omega
  have hm2 : q.length ≤ 9223372036854775807 := by omega
  have hb0 : Below w.heap.size w ((w.alloc (.cells #[.slice a0 c0.length p0, .int .i64 c1, .slice a2 p.length p2] 30)).alloc (.cells #[.slice b0 d0.length q0, .int .i64 d1, .slice b2 q.length q2] 30)) := ((Below.refl _ _).alloc (Nat.le_refl _) _).alloc (by simp) _
  have B0 := Lib.hid hb0; clear hb0
  have X0 := Lib.hid (heap_up (B := .cells #[.slice b0 d0.length q0, .int .i64 d1, .slice b2 q.length q2] 30) (heap_at w (.cells #[.slice a0 c0.length p0, .int .i64 c1, .slice a2 p.length p2] 30)))
  have Y0 := Lib.hid (heap_at1 w (.cells #[.slice a0 c0.length p0, .int .i64 c1, .slice a2 p.length p2] 30) (.cells #[.slice b0 d0.length q0, .int .i64 d1, .slice b2 q.length q2] 30))
  by_cases g1 : c1 = d1
  · have t1 : (c1 != d1) = false := by simpa using g1
    have G1 := Lib.hid g1; clear g1
    go_enter Tryd.func14, Tryd.ntmps14
    go_wp2_with (fail)
    refine (l2Ints_calls _ _ c0 d0 _ (Row.below R0.out B0.out) (Row.below S0.out B0.out)).mono ?_
    rintro e w1 ⟨rfl, hb⟩
    have B1 := Lib.hid (B0.out.trans (hb.mono B0.out.size)); have X1 := Lib.hid (below_at hb X0.out); have Y1 := Lib.hid (below_at hb Y0.out); clear hb
    obtain ⟨x1c0, x1c1, x1c2, x1f0, x1f1, x1f2⟩ := box3 X1.out; obtain ⟨y1c0, y1c1, y1c2, y1f0, y1f1, y1f2⟩ := box3 Y1.out; have z1 := heap_lt X1.out; have z2 := heap_lt Y1.out
    by_cases g0 : c0 = d0
    · rw [decide_eq_true g0]
      have G0 := Lib.hid g0; clear g0
      by_cases hl : p.length = q.length
      · have hd := len_bne hl
        have HL := Lib.hid hl; clear hl
        go_wp2
        go_loopw [5] (fun i wr => ∃ k : Nat, k ≤ p.length ∧ i = .int .i64 k ∧ p.take k = q.take k ∧ ∃ n, wr = w1.drewN n) (fun i _ => p.length - (intOf i).toNat)
        case atStart => exact ⟨0, Nat.zero_le _, rfl, rfl, 0, rfl⟩
        case round =>
          obtain ⟨k, hk, rfl, he, n0, rfl⟩ := hrel
          have HE := Lib.hid he; clear he
          by_cases hlt : k < p.length
          · have hlt2 : k < q.length := by have := HL.out; omega
            obtain ⟨b1, o1, rfl, hb1, hc1⟩ := R2.out (by omega)
            obtain ⟨b2, o2, rfl, hb2, hc2⟩ := S2.out (by omega)
            obtain ⟨x, hx⟩ := get_ex hlt
            obtain ⟨y, hy⟩ := get_ex hlt2
            have k1 := (B1.out.cell (p := ⟨b1, o1 + k * 2, none⟩) hb1).trans (hc1 k x hx).1
            have k2 := (B1.out.cell (p := ⟨b1, o1 + k * 2 + 1, none⟩) hb1).trans (hc1 k x hx).2
            have k3 := (B1.out.cell (p := ⟨b2, o2 + k * 2, none⟩) hb2).trans (hc2 k y hy).1
            have k4 := (B1.out.cell (p := ⟨b2, o2 + k * 2 + 1, none⟩) hb2).trans (hc2 k y hy).2
            have ke := eqWn x y
            have HX := Lib.hid hx; clear hx hc1
            have HY := Lib.hid hy; clear hy hc2
            go_wp2
            go_quiet (fail)
            go_wp2
            · go_ret
              exact ⟨ret_bool (decide_eq_false (by intro e; injection e with _ _ e; subst e; have h1 := HX.out; rw [HY.out] at h1; injection h1 with h1; subst h1; simp at *)).symm, below_drewN (below_drewN B1.out _) _⟩
            · go_roundw
              case rel => exact ⟨k + 1, by omega, by go_num, take_eq HE.out HX.out HY.out (by simpa using ‹(!decide (x = y)) = false›), _, rfl⟩
              case measure => simp [intOf]; omega
          · go_wp2
            go_ret
            have hpq : p = q := by have h := HE.out; rw [take_all (by omega), take_all (by have := HL.out; omega)] at h; exact h
            exact ⟨ret_bool (decide_eq_true (by rw [G0.out, G1.out, hpq])).symm, below_drewN B1.out _⟩
      · have hd := len_bne' hl
        have HL := Lib.hid hl; clear hl
        go_wp2
        go_ret
        exact ⟨ret_bool (by first | rfl | exact (decide_eq_false (by intro e; injection e with _ _ e; exact HL.out (by rw [e]))).symm), B1.out⟩
    · rw [decide_eq_false g0]
      have G0 := Lib.hid g0; clear g0
      go_wp2
      go_ret
      first | exact ⟨rfl, B1.out⟩ | exact ⟨ret_bool (decide_eq_false (by intro e; injection e with e; exact G0.out e)).symm, B1.out⟩
  · have t1 : (c1 != d1) = true := by simpa using g1
    have G1 := Lib.hid g1; clear g1
    go_enter Tryd.func14, Tryd.ntmps14
    go_wp2
    go_ret
    exact ⟨ret_bool (by have h := G1.out; simp [h]), B0.out⟩
end Go.Proofs.YtbnfhnfnbhigoaaDoor
