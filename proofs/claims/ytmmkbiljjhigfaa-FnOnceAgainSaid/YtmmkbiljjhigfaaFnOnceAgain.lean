/- FnOnceAgain: the law's walk (made by gen_oncelaws.py). -/
import Derived.Test.YtmmkbiljjhigfaaDrawFail
namespace Go.Proofs.Ytmmkbiljjhigfaa
open Go.RowKit
set_option linter.unusedSimpArgs false
set_option linter.unusedVariables false
set_option maxHeartbeats 8000000 in
theorem FnOnceAgain_calls (v : Value) (bs : List Int) (w : World) (h : Row 1 encB w v bs) (hbs : ∀ x ∈ bs, 0 ≤ x ∧ x ≤ 255) :
    Calls Try.prog 8 #[v] w fun e w' => e = .returned (.bool true) ∧ Below w.heap.size w w' := by
  have HB := Lib.hid hbs; clear hbs
  have H0 := Lib.hid h
  obtain ⟨a, c, rfl, l1, l2, l3⟩ := h
  clear l3
  by_cases hl : bs.length ≤ 1048576
  · go_enter Try.func8, Try.ntmps8
    go_wp2_with (fail)
    refine (DrawFailOnce_calls _ bs _ (Row.below H0.out (Below.refl _ _)) HB.out).mono ?_
    rintro e w1 ⟨vs, cs, y0, rfl, ho_s, hfs, hb⟩
    have B1 := Lib.hid (Below.trans (Below.refl _ _) (hb.mono (by first | omega | (simp only [szA, szS, szD, World.heap_drewN] at * <;> omega))) : Below w.heap.size w w1)
    have Z1 := hb.size
    have N1 : w.heap.size ≤ w1.heap.size := (by first | exact Z1 | (simp only [szA, szS, szD] at Z1; omega))
    clear Z1
    have Os_1 := Lib.hid (ho_s.mono (lo' := w.heap.size) (by first | omega | (simp only [szA, szS, szD, World.heap_drewN] at * <;> omega)) (Nat.le_refl _)); obtain ⟨as3, ps3, rfl, hx_s⟩ := ho_s; clear hx_s
    clear hb
    have S1 : w.heap.size ≤ w1.heap.size := (by omega)
    obtain ⟨r, b1, hr⟩ : ∃ r b1, failD cs y0 = (r, b1) := ⟨_, _, rfl⟩
    have HR := Lib.hid hr; clear hr
    go_wp2_with (fail)
    refine (FailOnceO _ cs y0 r b1 _ ((Os_1.out.alloc _).row) HR.out).mono ?_
    rintro e w2 ⟨vx, rfl, ho_x, hb⟩
    have B2 := Lib.hid (Below.trans (Below.alloc B1.out (by first | omega | (simp only [szA, szS, szD, World.heap_drewN] at * <;> omega)) _) (hb.mono (by first | omega | (simp only [szA, szS, szD, World.heap_drewN] at * <;> omega))) : Below w.heap.size w w2)
    have Z2 := hb.size
    have N2 : w1.heap.size + 1 ≤ w2.heap.size := (by first | exact Z2 | (simp only [szA, szS, szD] at Z2; omega))
    clear Z2
    have Xs_2 : Hid (w2.heap[w1.heap.size]? = some (.cells #[.int .i64 cs.state, .int .i64 cs.owner, .int .i64 cs.value, .slice as3 cs.waits.length ps3] 25 (0, 0))) := below_at hb (heap_at' (n := w1.heap.size) (by first | omega | (simp only [szA, szS, szD, World.heap_drewN] at * <;> omega)))
    have Os_2 := Lib.hid ((Os_1.out.alloc _).kept hb)
    have Ox_2 := Lib.hid (ho_x.mono (lo' := w.heap.size) (by first | omega | (simp only [szA, szS, szD, World.heap_drewN] at * <;> omega)) (Nat.le_refl _)); obtain ⟨ax3, px3, rfl, hx_x⟩ := ho_x; clear hx_x
    clear hb
    obtain ⟨cs2_0, cs2_1, cs2_2, cs2_3, fs2_0, fs2_1, fs2_2, fs2_3⟩ := box4 Xs_2.out; have ls2 := heap_lt Xs_2.out
    have S2 : w.heap.size ≤ w2.heap.size := (by omega)
    go_wp2_with (fail)
    refine (sFailOnceO _ cs y0 r b1 _ ((Os_2.out.alloc _).row) HR.out).mono ?_
    rintro e w3 ⟨vt, rfl, ho_t, hb⟩
    have B3 := Lib.hid (Below.trans (Below.alloc B2.out (by first | omega | (simp only [szA, szS, szD, World.heap_drewN] at * <;> omega)) _) (hb.mono (by first | omega | (simp only [szA, szS, szD, World.heap_drewN] at * <;> omega))) : Below w.heap.size w w3)
    have Z3 := hb.size
    have N3 : w2.heap.size + 1 ≤ w3.heap.size := (by first | exact Z3 | (simp only [szA, szS, szD] at Z3; omega))
    clear Z3
    have Xs_3 := Lib.hid (below_at hb (heap_up Xs_2.out))
    have Xx_3 : Hid (w3.heap[w2.heap.size]? = some (.cells #[.int .i64 r.state, .int .i64 r.owner, .int .i64 r.value, .slice ax3 r.waits.length px3] 25 (0, 0))) := below_at hb (heap_at' (n := w2.heap.size) (by first | omega | (simp only [szA, szS, szD, World.heap_drewN] at * <;> omega)))
    have Os_3 := Lib.hid ((Os_2.out.alloc _).kept hb)
    have Ox_3 := Lib.hid ((Ox_2.out.alloc _).kept hb)
    have Ot_3 := Lib.hid (ho_t.mono (lo' := w.heap.size) (by first | omega | (simp only [szA, szS, szD, World.heap_drewN] at * <;> omega)) (Nat.le_refl _)); obtain ⟨at3, pt3, rfl, hx_t⟩ := ho_t; clear hx_t
    clear hb
    obtain ⟨cs3_0, cs3_1, cs3_2, cs3_3, fs3_0, fs3_1, fs3_2, fs3_3⟩ := box4 Xs_3.out; have ls3 := heap_lt Xs_3.out
    obtain ⟨cx3_0, cx3_1, cx3_2, cx3_3, fx3_0, fx3_1, fx3_2, fx3_3⟩ := box4 Xx_3.out; have lx3 := heap_lt Xx_3.out
    have S3 : w.heap.size ≤ w3.heap.size := (by omega)
    clear cs2_0 cs2_1 cs2_2 cs2_3 fs2_0 fs2_1 fs2_2 fs2_3
    go_wp2_with (fail)
    refine (OnceSameO _ _ r r _ ((Ox_3.out.alloc _).row) ((Ot_3.out.alloc _).row)).mono ?_
    rw [decide_eq_true rfl]
    rintro e w4 ⟨rfl, hb⟩
    have B4 := Lib.hid (Below.trans (Below.alloc B3.out (by first | omega | (simp only [szA, szS, szD, World.heap_drewN] at * <;> omega)) _) (hb.mono (by first | omega | (simp only [szA, szS, szD, World.heap_drewN] at * <;> omega))) : Below w.heap.size w w4)
    have Z4 := hb.size
    have N4 : w3.heap.size + 1 ≤ w4.heap.size := (by first | exact Z4 | (simp only [szA, szS, szD] at Z4; omega))
    clear Z4
    have Xs_4 := Lib.hid (below_at hb (heap_up Xs_3.out))
    have Xx_4 := Lib.hid (below_at hb (heap_up Xx_3.out))
    have Xt_4 : Hid (w4.heap[w3.heap.size]? = some (.cells #[.int .i64 r.state, .int .i64 r.owner, .int .i64 r.value, .slice at3 r.waits.length pt3] 25 (0, 0))) := below_at hb (heap_at' (n := w3.heap.size) (by first | omega | (simp only [szA, szS, szD, World.heap_drewN] at * <;> omega)))
    have Os_4 := Lib.hid ((Os_3.out.alloc _).kept hb)
    have Ox_4 := Lib.hid ((Ox_3.out.alloc _).kept hb)
    have Ot_4 := Lib.hid ((Ot_3.out.alloc _).kept hb)
    clear hb
    obtain ⟨cs4_0, cs4_1, cs4_2, cs4_3, fs4_0, fs4_1, fs4_2, fs4_3⟩ := box4 Xs_4.out; have ls4 := heap_lt Xs_4.out
    obtain ⟨cx4_0, cx4_1, cx4_2, cx4_3, fx4_0, fx4_1, fx4_2, fx4_3⟩ := box4 Xx_4.out; have lx4 := heap_lt Xx_4.out
    obtain ⟨ct4_0, ct4_1, ct4_2, ct4_3, ft4_0, ft4_1, ft4_2, ft4_3⟩ := box4 Xt_4.out; have lt4 := heap_lt Xt_4.out
    have S4 : w.heap.size ≤ w4.heap.size := (by omega)
    clear cs3_0 cs3_1 cs3_2 cs3_3 fs3_0 fs3_1 fs3_2 fs3_3 cx3_0 cx3_1 cx3_2 cx3_3 fx3_0 fx3_1 fx3_2 fx3_3
    cases b1
    · go_wp2_with (fail)
      refine (OnceSameO _ _ r r _ (Ox_4.out.row) (Ot_4.out.row)).mono ?_
      rw [decide_eq_true rfl]
      rintro e w5 ⟨rfl, hb⟩
      have B5 := Lib.hid (Below.trans B4.out (hb.mono (by first | omega | (simp only [szA, szS, szD, World.heap_drewN] at * <;> omega))) : Below w.heap.size w w5)
      have Z5 := hb.size
      have N5 : w4.heap.size ≤ w5.heap.size := (by first | exact Z5 | (simp only [szA, szS, szD] at Z5; omega))
      clear Z5
      have Xs_5 := Lib.hid (below_at hb Xs_4.out)
      have Xx_5 := Lib.hid (below_at hb Xx_4.out)
      have Xt_5 := Lib.hid (below_at hb Xt_4.out)
      have Os_5 := Lib.hid (Os_4.out.kept hb)
      have Ox_5 := Lib.hid (Ox_4.out.kept hb)
      have Ot_5 := Lib.hid (Ot_4.out.kept hb)
      clear hb
      obtain ⟨cs5_0, cs5_1, cs5_2, cs5_3, fs5_0, fs5_1, fs5_2, fs5_3⟩ := box4 Xs_5.out; have ls5 := heap_lt Xs_5.out
      obtain ⟨cx5_0, cx5_1, cx5_2, cx5_3, fx5_0, fx5_1, fx5_2, fx5_3⟩ := box4 Xx_5.out; have lx5 := heap_lt Xx_5.out
      obtain ⟨ct5_0, ct5_1, ct5_2, ct5_3, ft5_0, ft5_1, ft5_2, ft5_3⟩ := box4 Xt_5.out; have lt5 := heap_lt Xt_5.out
      have S5 : w.heap.size ≤ w5.heap.size := (by omega)
      clear cs4_0 cs4_1 cs4_2 cs4_3 fs4_0 fs4_1 fs4_2 fs4_3 cx4_0 cx4_1 cx4_2 cx4_3 fx4_0 fx4_1 fx4_2 fx4_3 ct4_0 ct4_1 ct4_2 ct4_3 ft4_0 ft4_1 ft4_2 ft4_3
      go_wp2_with (fail)
      go_ret
      exact ⟨rfl, B5.out⟩
    · by_cases hq : 0 < cs.waits.length
      · have d1 := len_ne hq
        obtain ⟨yy, ys, hyl, he⟩ := again_next HR.out hq
        clear hq
        obtain ⟨zs, hzs⟩ : ∃ zs, zs = ys ++ [y0] := ⟨_, rfl⟩
        rw [← hzs] at he
        have hzn : zs.length = ys.length + 1 := by rw [hzs]; simp
        have HZ := Lib.hid hzs; have HE := Lib.hid he; clear hzs he
        go_wp2_with (fail)
        refine (EnterOnceO _ r y0 ⟨1, yy, 0, zs⟩ 1 true _ (Ox_4.out.row) HE.out).mono ?_
        rintro e w5 ⟨vy, rfl, ho_y, hb⟩
        have B5 := Lib.hid (Below.trans B4.out (hb.mono (by first | omega | (simp only [szA, szS, szD, World.heap_drewN] at * <;> omega))) : Below w.heap.size w w5)
        have Z5 := hb.size
        have N5 : w4.heap.size ≤ w5.heap.size := (by first | exact Z5 | (simp only [szA, szS, szD] at Z5; omega))
        clear Z5
        have Xs_5 := Lib.hid (below_at hb Xs_4.out)
        have Xx_5 := Lib.hid (below_at hb Xx_4.out)
        have Xt_5 := Lib.hid (below_at hb Xt_4.out)
        have Os_5 := Lib.hid (Os_4.out.kept hb)
        have Ox_5 := Lib.hid (Ox_4.out.kept hb)
        have Ot_5 := Lib.hid (Ot_4.out.kept hb)
        have Oy_5 := Lib.hid (ho_y.mono (lo' := w.heap.size) (by first | omega | (simp only [szA, szS, szD, World.heap_drewN] at * <;> omega)) (Nat.le_refl _)); obtain ⟨ay3, py3, rfl, hx_y⟩ := ho_y; clear hx_y
        clear hb
        obtain ⟨cs5_0, cs5_1, cs5_2, cs5_3, fs5_0, fs5_1, fs5_2, fs5_3⟩ := box4 Xs_5.out; have ls5 := heap_lt Xs_5.out
        obtain ⟨cx5_0, cx5_1, cx5_2, cx5_3, fx5_0, fx5_1, fx5_2, fx5_3⟩ := box4 Xx_5.out; have lx5 := heap_lt Xx_5.out
        obtain ⟨ct5_0, ct5_1, ct5_2, ct5_3, ft5_0, ft5_1, ft5_2, ft5_3⟩ := box4 Xt_5.out; have lt5 := heap_lt Xt_5.out
        have S5 : w.heap.size ≤ w5.heap.size := (by omega)
        clear cs4_0 cs4_1 cs4_2 cs4_3 fs4_0 fs4_1 fs4_2 fs4_3 cx4_0 cx4_1 cx4_2 cx4_3 fx4_0 fx4_1 fx4_2 fx4_3 ct4_0 ct4_1 ct4_2 ct4_3 ft4_0 ft4_1 ft4_2 ft4_3
        obtain ⟨bb, off, hab, hlt, hc⟩ := IRow.at1 (w := w5) (OnceRow.at1 (Oy_5.out.row)) (by show 0 < zs.length; omega)
        have c1 := hc ys.length y0 (by show zs[ys.length]? = some y0; rw [HZ.out]; simp)
        clear hc
        subst hab
        go_wp2_with (fail)
        go_ret
        exact ⟨rfl, (Below.alloc B5.out (by first | omega | (simp only [szA, szS, szD, World.heap_drewN] at * <;> omega)) _)⟩
      · have d1 := len_eq hq
        have HE := Lib.hid (again_nil HR.out hq)
        clear hq
        go_wp2_with (fail)
        refine (EnterOnceO _ r y0 ⟨1, y0, 0, []⟩ 0 true _ (Ox_4.out.row) HE.out).mono ?_
        rintro e w5 ⟨vy, rfl, ho_y, hb⟩
        have B5 := Lib.hid (Below.trans B4.out (hb.mono (by first | omega | (simp only [szA, szS, szD, World.heap_drewN] at * <;> omega))) : Below w.heap.size w w5)
        have Z5 := hb.size
        have N5 : w4.heap.size ≤ w5.heap.size := (by first | exact Z5 | (simp only [szA, szS, szD] at Z5; omega))
        clear Z5
        have Xs_5 := Lib.hid (below_at hb Xs_4.out)
        have Xx_5 := Lib.hid (below_at hb Xx_4.out)
        have Xt_5 := Lib.hid (below_at hb Xt_4.out)
        have Os_5 := Lib.hid (Os_4.out.kept hb)
        have Ox_5 := Lib.hid (Ox_4.out.kept hb)
        have Ot_5 := Lib.hid (Ot_4.out.kept hb)
        have Oy_5 := Lib.hid (ho_y.mono (lo' := w.heap.size) (by first | omega | (simp only [szA, szS, szD, World.heap_drewN] at * <;> omega)) (Nat.le_refl _)); obtain ⟨ay3, py3, rfl, hx_y⟩ := ho_y; clear hx_y
        clear hb
        obtain ⟨cs5_0, cs5_1, cs5_2, cs5_3, fs5_0, fs5_1, fs5_2, fs5_3⟩ := box4 Xs_5.out; have ls5 := heap_lt Xs_5.out
        obtain ⟨cx5_0, cx5_1, cx5_2, cx5_3, fx5_0, fx5_1, fx5_2, fx5_3⟩ := box4 Xx_5.out; have lx5 := heap_lt Xx_5.out
        obtain ⟨ct5_0, ct5_1, ct5_2, ct5_3, ft5_0, ft5_1, ft5_2, ft5_3⟩ := box4 Xt_5.out; have lt5 := heap_lt Xt_5.out
        have S5 : w.heap.size ≤ w5.heap.size := (by omega)
        clear cs4_0 cs4_1 cs4_2 cs4_3 fs4_0 fs4_1 fs4_2 fs4_3 cx4_0 cx4_1 cx4_2 cx4_3 fx4_0 fx4_1 fx4_2 fx4_3 ct4_0 ct4_1 ct4_2 ct4_3 ft4_0 ft4_1 ft4_2 ft4_3
        go_wp2_with (fail)
        go_ret
        exact ⟨rfl, (Below.alloc B5.out (by first | omega | (simp only [szA, szS, szD, World.heap_drewN] at * <;> omega)) _)⟩

  · go_enter Try.func8, Try.ntmps8
    go_wp2
    go_ret
    exact ⟨rfl, Below.refl _ _⟩
end Go.Proofs.Ytmmkbiljjhigfaa
