/- FnAcquire: the law's walk (made by gen_cancellaws.py). -/
import Derived.Test.YtmmkbiljjhigfaaDrawsSem
import Derived.Test.YtmmkbiljjhigfaaDrawsCancel
import Derived.Test.YtmmkbiljjhigfaaLawSem
import Derived.Test.YtmmkbiljjhigfaaLawCancel
namespace Go.Proofs.Ytmmkbiljjhigfaa
open Go.RowKit
set_option linter.unusedSimpArgs false
set_option linter.unusedVariables false
set_option maxHeartbeats 8000000 in
theorem FnAcquire_calls (v : Value) (bs : List Int) (w : World) (h : Row 1 encB w v bs) (hbs : ∀ x ∈ bs, 0 ≤ x ∧ x ≤ 255) :
    Calls Try.prog 9 #[v] w fun e w' => e = .returned (.bool true) ∧ Below w.heap.size w w' := by
  have HB := Lib.hid hbs; clear hbs
  have H0 := Lib.hid h
  obtain ⟨a, c, rfl, l1, l2, l3⟩ := h
  clear l3
  by_cases hl : bs.length ≤ 1048576
  · go_enter Try.func9, Try.ntmps9
    go_wp2_with (fail)
    refine (DrawAcquire_calls _ bs _ (Row.below H0.out (Below.refl _ _)) HB.out).mono ?_
    rintro e w1 ⟨vs, cs, y0, y1, rfl, ho_s, hfs, ⟨hy00, hy01⟩, ⟨hy10, hy11⟩, hb⟩
    have B1 := Lib.hid (Below.trans (Below.refl _ _) (hb.mono (by first | omega | (simp only [szA, szS, szD, World.heap_drewN] at * <;> omega))) : Below w.heap.size w w1)
    have Z1 := hb.size
    have N1 : w.heap.size ≤ w1.heap.size := (by first | exact Z1 | (simp only [szA, szS, szD] at Z1; omega))
    clear Z1
    have Os_1 := Lib.hid (ho_s.mono (lo' := w.heap.size) (by first | omega | (simp only [szA, szS, szD, World.heap_drewN] at * <;> omega)) (Nat.le_refl _)); obtain ⟨as2, ps2, rfl, hx_s⟩ := ho_s; clear hx_s
    clear hb
    have S1 : w.heap.size ≤ w1.heap.size := (by omega)
    obtain ⟨r, b1, b2, hr⟩ : ∃ r b1 b2, acq cs y0 y1 = (r, b1, b2) := ⟨_, _, _, rfl⟩
    have HR := Lib.hid hr; clear hr
    go_wp2_with (fail)
    refine (AcquireO _ cs y0 y1 r b1 b2 _ ((Os_1.out.alloc _).row) HR.out).mono ?_
    rintro e w2 ⟨vx, rfl, ho_x, hb⟩
    have B2 := Lib.hid (Below.trans (Below.alloc B1.out (by first | omega | (simp only [szA, szS, szD, World.heap_drewN] at * <;> omega)) _) (hb.mono (by first | omega | (simp only [szA, szS, szD, World.heap_drewN] at * <;> omega))) : Below w.heap.size w w2)
    have Z2 := hb.size
    have N2 : w1.heap.size + 1 ≤ w2.heap.size := (by first | exact Z2 | (simp only [szA, szS, szD] at Z2; omega))
    clear Z2
    have Xs_2 : Hid (w2.heap[w1.heap.size]? = some (.cells #[.int .i64 cs.free, .int .i64 cs.limit, .slice as2 cs.q.length ps2] 48 (0, 0))) := below_at hb (heap_at' (n := w1.heap.size) (by first | omega | (simp only [szA, szS, szD, World.heap_drewN] at * <;> omega)))
    have Os_2 := Lib.hid ((Os_1.out.alloc _).kept hb)
    have Ox_2 := Lib.hid (ho_x.mono (lo' := w.heap.size) (by first | omega | (simp only [szA, szS, szD, World.heap_drewN] at * <;> omega)) (Nat.le_refl _)); obtain ⟨ax2, px2, rfl, hx_x⟩ := ho_x; clear hx_x
    clear hb
    obtain ⟨cs2_0, cs2_1, cs2_2, fs2_0, fs2_1, fs2_2⟩ := box3 Xs_2.out; have ls2 := heap_lt Xs_2.out
    have S2 : w.heap.size ≤ w2.heap.size := (by omega)
    go_wp2_with (fail)
    refine (sAcquireO _ cs y0 y1 r b1 b2 _ ((Os_2.out.alloc _).row) HR.out).mono ?_
    rintro e w3 ⟨vt, rfl, ho_t, hb⟩
    have B3 := Lib.hid (Below.trans (Below.alloc B2.out (by first | omega | (simp only [szA, szS, szD, World.heap_drewN] at * <;> omega)) _) (hb.mono (by first | omega | (simp only [szA, szS, szD, World.heap_drewN] at * <;> omega))) : Below w.heap.size w w3)
    have Z3 := hb.size
    have N3 : w2.heap.size + 1 ≤ w3.heap.size := (by first | exact Z3 | (simp only [szA, szS, szD] at Z3; omega))
    clear Z3
    have Xs_3 := Lib.hid (below_at hb (heap_up Xs_2.out))
    have Xx_3 : Hid (w3.heap[w2.heap.size]? = some (.cells #[.int .i64 r.free, .int .i64 r.limit, .slice ax2 r.q.length px2] 48 (0, 0))) := below_at hb (heap_at' (n := w2.heap.size) (by first | omega | (simp only [szA, szS, szD, World.heap_drewN] at * <;> omega)))
    have Os_3 := Lib.hid ((Os_2.out.alloc _).kept hb)
    have Ox_3 := Lib.hid ((Ox_2.out.alloc _).kept hb)
    have Ot_3 := Lib.hid (ho_t.mono (lo' := w.heap.size) (by first | omega | (simp only [szA, szS, szD, World.heap_drewN] at * <;> omega)) (Nat.le_refl _)); obtain ⟨at2, pt2, rfl, hx_t⟩ := ho_t; clear hx_t
    clear hb
    obtain ⟨cs3_0, cs3_1, cs3_2, fs3_0, fs3_1, fs3_2⟩ := box3 Xs_3.out; have ls3 := heap_lt Xs_3.out
    obtain ⟨cx3_0, cx3_1, cx3_2, fx3_0, fx3_1, fx3_2⟩ := box3 Xx_3.out; have lx3 := heap_lt Xx_3.out
    have S3 : w.heap.size ≤ w3.heap.size := (by omega)
    clear cs2_0 cs2_1 cs2_2 fs2_0 fs2_1 fs2_2
    go_wp2_with (fail)
    refine (SemSameO _ _ r r _ ((Ox_3.out.alloc _).row) ((Ot_3.out.alloc _).row)).mono ?_
    rw [decide_eq_true rfl]
    rintro e w4 ⟨rfl, hb⟩
    have B4 := Lib.hid (Below.trans (Below.alloc B3.out (by first | omega | (simp only [szA, szS, szD, World.heap_drewN] at * <;> omega)) _) (hb.mono (by first | omega | (simp only [szA, szS, szD, World.heap_drewN] at * <;> omega))) : Below w.heap.size w w4)
    have Z4 := hb.size
    have N4 : w3.heap.size + 1 ≤ w4.heap.size := (by first | exact Z4 | (simp only [szA, szS, szD] at Z4; omega))
    clear Z4
    have Xs_4 := Lib.hid (below_at hb (heap_up Xs_3.out))
    have Xx_4 := Lib.hid (below_at hb (heap_up Xx_3.out))
    have Xt_4 : Hid (w4.heap[w3.heap.size]? = some (.cells #[.int .i64 r.free, .int .i64 r.limit, .slice at2 r.q.length pt2] 48 (0, 0))) := below_at hb (heap_at' (n := w3.heap.size) (by first | omega | (simp only [szA, szS, szD, World.heap_drewN] at * <;> omega)))
    have Os_4 := Lib.hid ((Os_3.out.alloc _).kept hb)
    have Ox_4 := Lib.hid ((Ox_3.out.alloc _).kept hb)
    have Ot_4 := Lib.hid ((Ot_3.out.alloc _).kept hb)
    clear hb
    obtain ⟨cs4_0, cs4_1, cs4_2, fs4_0, fs4_1, fs4_2⟩ := box3 Xs_4.out; have ls4 := heap_lt Xs_4.out
    obtain ⟨cx4_0, cx4_1, cx4_2, fx4_0, fx4_1, fx4_2⟩ := box3 Xx_4.out; have lx4 := heap_lt Xx_4.out
    obtain ⟨ct4_0, ct4_1, ct4_2, ft4_0, ft4_1, ft4_2⟩ := box3 Xt_4.out; have lt4 := heap_lt Xt_4.out
    have S4 : w.heap.size ≤ w4.heap.size := (by omega)
    clear cs3_0 cs3_1 cs3_2 fs3_0 fs3_1 fs3_2 cx3_0 cx3_1 cx3_2 fx3_0 fx3_1 fx3_2
    cases b2
    · go_wp2_with (fail)
      refine (SemSameO _ _ r r _ (Ox_4.out.row) (Ot_4.out.row)).mono ?_
      rw [decide_eq_true rfl]
      rintro e w5 ⟨rfl, hb⟩
      have B5 := Lib.hid (Below.trans B4.out (hb.mono (by first | omega | (simp only [szA, szS, szD, World.heap_drewN] at * <;> omega))) : Below w.heap.size w w5)
      have Z5 := hb.size
      have N5 : w4.heap.size ≤ w5.heap.size := (by first | exact Z5 | (simp only [szA, szS, szD] at Z5; omega))
      clear Z5
      have Xs_5 := Lib.hid (below_at hb Xs_4.out)
      have Xx_5 := Lib.hid (below_at hb Xx_4.out)
      have Xt_5 := Lib.hid (below_at hb Xt_4.out)
      have Os_5 := Lib.hid (Os_4.out.kept hb)
      have Ox_5 := Lib.hid (Ox_4.out.kept hb)
      have Ot_5 := Lib.hid (Ot_4.out.kept hb)
      clear hb
      obtain ⟨cs5_0, cs5_1, cs5_2, fs5_0, fs5_1, fs5_2⟩ := box3 Xs_5.out; have ls5 := heap_lt Xs_5.out
      obtain ⟨cx5_0, cx5_1, cx5_2, fx5_0, fx5_1, fx5_2⟩ := box3 Xx_5.out; have lx5 := heap_lt Xx_5.out
      obtain ⟨ct5_0, ct5_1, ct5_2, ft5_0, ft5_1, ft5_2⟩ := box3 Xt_5.out; have lt5 := heap_lt Xt_5.out
      have S5 : w.heap.size ≤ w5.heap.size := (by omega)
      clear cs4_0 cs4_1 cs4_2 fs4_0 fs4_1 fs4_2 cx4_0 cx4_1 cx4_2 fx4_0 fx4_1 fx4_2 ct4_0 ct4_1 ct4_2 ft4_0 ft4_1 ft4_2
      go_wp2_with (fail)
      go_ret
      exact ⟨rfl, B5.out⟩
    · cases b1
      · have HP := Lib.hid (acq_waits HR.out).1; have HK := Lib.hid (acq_waits HR.out).2.1; have HV := Lib.hid (acq_waits HR.out).2.2.1; have hql := (acq_waits HR.out).2.2.2
        go_wp2_with (fail)
        refine (PlaceOfO _ r y0 (cs.q.length : Int) true _ (Ox_4.out.row) HP.out).mono ?_
        rintro e w5 ⟨rfl, hb⟩
        have B5 := Lib.hid (Below.trans B4.out (hb.mono (by first | omega | (simp only [szA, szS, szD, World.heap_drewN] at * <;> omega))) : Below w.heap.size w w5)
        have Z5 := hb.size
        have N5 : w4.heap.size ≤ w5.heap.size := (by first | exact Z5 | (simp only [szA, szS, szD] at Z5; omega))
        clear Z5
        have Xs_5 := Lib.hid (below_at hb Xs_4.out)
        have Xx_5 := Lib.hid (below_at hb Xx_4.out)
        have Xt_5 := Lib.hid (below_at hb Xt_4.out)
        have Os_5 := Lib.hid (Os_4.out.kept hb)
        have Ox_5 := Lib.hid (Ox_4.out.kept hb)
        have Ot_5 := Lib.hid (Ot_4.out.kept hb)
        clear hb
        obtain ⟨cs5_0, cs5_1, cs5_2, fs5_0, fs5_1, fs5_2⟩ := box3 Xs_5.out; have ls5 := heap_lt Xs_5.out
        obtain ⟨cx5_0, cx5_1, cx5_2, fx5_0, fx5_1, fx5_2⟩ := box3 Xx_5.out; have lx5 := heap_lt Xx_5.out
        obtain ⟨ct5_0, ct5_1, ct5_2, ft5_0, ft5_1, ft5_2⟩ := box3 Xt_5.out; have lt5 := heap_lt Xt_5.out
        have S5 : w.heap.size ≤ w5.heap.size := (by omega)
        clear cs4_0 cs4_1 cs4_2 fs4_0 fs4_1 fs4_2 cx4_0 cx4_1 cx4_2 fx4_0 fx4_1 fx4_2 ct4_0 ct4_1 ct4_2 ft4_0 ft4_1 ft4_2
        go_wp2_with (fail)
        refine (CancelWaitO _ r y0 cs [] true _ (Ox_5.out.row) HK.out).mono ?_
        rintro e w6 ⟨vz, vy, rfl, ho_z, ho_y, hap, hb⟩
        have B6 := Lib.hid (Below.trans B5.out (hb.mono (by first | omega | (simp only [szA, szS, szD, World.heap_drewN] at * <;> omega))) : Below w.heap.size w w6)
        have Z6 := hb.size
        have N6 : w5.heap.size ≤ w6.heap.size := (by first | exact Z6 | (simp only [szA, szS, szD] at Z6; omega))
        clear Z6
        have Xs_6 := Lib.hid (below_at hb Xs_5.out)
        have Xx_6 := Lib.hid (below_at hb Xx_5.out)
        have Xt_6 := Lib.hid (below_at hb Xt_5.out)
        have Os_6 := Lib.hid (Os_5.out.kept hb)
        have Ox_6 := Lib.hid (Ox_5.out.kept hb)
        have Ot_6 := Lib.hid (Ot_5.out.kept hb)
        have Oz_6 := Lib.hid (ho_z.mono (lo' := w.heap.size) (by first | omega | (simp only [szA, szS, szD, World.heap_drewN] at * <;> omega)) (Nat.le_refl _)); obtain ⟨az2, pz2, rfl, hx_z⟩ := ho_z; clear hx_z
        have Oy_6 := Lib.hid (Own.mono (base' := w.heap.size) ho_y.own (by first | omega | (simp only [szA, szS, szD, World.heap_drewN] at * <;> omega))); obtain ⟨ay, py, rfl, hx_y⟩ := ho_y; clear hx_y
        clear hb
        obtain ⟨cs6_0, cs6_1, cs6_2, fs6_0, fs6_1, fs6_2⟩ := box3 Xs_6.out; have ls6 := heap_lt Xs_6.out
        obtain ⟨cx6_0, cx6_1, cx6_2, fx6_0, fx6_1, fx6_2⟩ := box3 Xx_6.out; have lx6 := heap_lt Xx_6.out
        obtain ⟨ct6_0, ct6_1, ct6_2, ft6_0, ft6_1, ft6_2⟩ := box3 Xt_6.out; have lt6 := heap_lt Xt_6.out
        have S6 : w.heap.size ≤ w6.heap.size := (by omega)
        clear cs5_0 cs5_1 cs5_2 fs5_0 fs5_1 fs5_2 cx5_0 cx5_1 cx5_2 fx5_0 fx5_1 fx5_2 ct5_0 ct5_1 ct5_2 ft5_0 ft5_1 ft5_2
        clear hap
        go_wp2_with (fail)
        refine (SemValidO _ r _ ((Ox_6.out.alloc _).row)).mono ?_
        rw [HV.out]
        rintro e w7 ⟨rfl, hb⟩
        have B7 := Lib.hid (Below.trans (Below.alloc B6.out (by first | omega | (simp only [szA, szS, szD, World.heap_drewN] at * <;> omega)) _) (hb.mono (by first | omega | (simp only [szA, szS, szD, World.heap_drewN] at * <;> omega))) : Below w.heap.size w w7)
        have Z7 := hb.size
        have N7 : w6.heap.size + 1 ≤ w7.heap.size := (by first | exact Z7 | (simp only [szA, szS, szD] at Z7; omega))
        clear Z7
        have Xs_7 := Lib.hid (below_at hb (heap_up Xs_6.out))
        have Xx_7 := Lib.hid (below_at hb (heap_up Xx_6.out))
        have Xt_7 := Lib.hid (below_at hb (heap_up Xt_6.out))
        have Xz_7 : Hid (w7.heap[w6.heap.size]? = some (.cells #[.int .i64 cs.free, .int .i64 cs.limit, .slice az2 cs.q.length pz2] 48 (0, 0))) := below_at hb (heap_at' (n := w6.heap.size) (by first | omega | (simp only [szA, szS, szD, World.heap_drewN] at * <;> omega)))
        have Os_7 := Lib.hid ((Os_6.out.alloc _).kept hb)
        have Ox_7 := Lib.hid ((Ox_6.out.alloc _).kept hb)
        have Ot_7 := Lib.hid ((Ot_6.out.alloc _).kept hb)
        have Oz_7 := Lib.hid ((Oz_6.out.alloc _).kept hb)
        have Oy_7 := Lib.hid ((Oy_6.out.alloc _).kept hb)
        clear hb
        obtain ⟨cs7_0, cs7_1, cs7_2, fs7_0, fs7_1, fs7_2⟩ := box3 Xs_7.out; have ls7 := heap_lt Xs_7.out
        obtain ⟨cx7_0, cx7_1, cx7_2, fx7_0, fx7_1, fx7_2⟩ := box3 Xx_7.out; have lx7 := heap_lt Xx_7.out
        obtain ⟨ct7_0, ct7_1, ct7_2, ft7_0, ft7_1, ft7_2⟩ := box3 Xt_7.out; have lt7 := heap_lt Xt_7.out
        obtain ⟨cz7_0, cz7_1, cz7_2, fz7_0, fz7_1, fz7_2⟩ := box3 Xz_7.out; have lz7 := heap_lt Xz_7.out
        have S7 : w.heap.size ≤ w7.heap.size := (by omega)
        clear cs6_0 cs6_1 cs6_2 fs6_0 fs6_1 fs6_2 cx6_0 cx6_1 cx6_2 fx6_0 fx6_1 fx6_2 ct6_0 ct6_1 ct6_2 ft6_0 ft6_1 ft6_2
        go_wp2_with (fail)
        refine (SemSameO _ _ cs cs _ (Oz_7.out.row) (Os_7.out.row)).mono ?_
        rw [decide_eq_true rfl]
        rintro e w8 ⟨rfl, hb⟩
        have B8 := Lib.hid (Below.trans B7.out (hb.mono (by first | omega | (simp only [szA, szS, szD, World.heap_drewN] at * <;> omega))) : Below w.heap.size w w8)
        have Z8 := hb.size
        have N8 : w7.heap.size ≤ w8.heap.size := (by first | exact Z8 | (simp only [szA, szS, szD] at Z8; omega))
        clear Z8
        have Xs_8 := Lib.hid (below_at hb Xs_7.out)
        have Xx_8 := Lib.hid (below_at hb Xx_7.out)
        have Xt_8 := Lib.hid (below_at hb Xt_7.out)
        have Xz_8 := Lib.hid (below_at hb Xz_7.out)
        have Os_8 := Lib.hid (Os_7.out.kept hb)
        have Ox_8 := Lib.hid (Ox_7.out.kept hb)
        have Ot_8 := Lib.hid (Ot_7.out.kept hb)
        have Oz_8 := Lib.hid (Oz_7.out.kept hb)
        have Oy_8 := Lib.hid (Oy_7.out.kept hb)
        clear hb
        obtain ⟨cs8_0, cs8_1, cs8_2, fs8_0, fs8_1, fs8_2⟩ := box3 Xs_8.out; have ls8 := heap_lt Xs_8.out
        obtain ⟨cx8_0, cx8_1, cx8_2, fx8_0, fx8_1, fx8_2⟩ := box3 Xx_8.out; have lx8 := heap_lt Xx_8.out
        obtain ⟨ct8_0, ct8_1, ct8_2, ft8_0, ft8_1, ft8_2⟩ := box3 Xt_8.out; have lt8 := heap_lt Xt_8.out
        obtain ⟨cz8_0, cz8_1, cz8_2, fz8_0, fz8_1, fz8_2⟩ := box3 Xz_8.out; have lz8 := heap_lt Xz_8.out
        have S8 : w.heap.size ≤ w8.heap.size := (by omega)
        clear cs7_0 cs7_1 cs7_2 fs7_0 fs7_1 fs7_2 cx7_0 cx7_1 cx7_2 fx7_0 fx7_1 fx7_2 ct7_0 ct7_1 ct7_2 ft7_0 ft7_1 ft7_2 cz7_0 cz7_1 cz7_2 fz7_0 fz7_1 fz7_2
        go_wp2_with (fail)
        go_ret
        exact ⟨rfl, B8.out⟩
      · have HK := Lib.hid (acq_yes HR.out).1; have HV := Lib.hid (acq_yes HR.out).2
        go_wp2_with (fail)
        refine (ReleaseO _ r y1 cs [] true _ (Ox_4.out.row) HK.out).mono ?_
        rintro e w5 ⟨vz, vy, rfl, ho_z, ho_y, hap, hb⟩
        have B5 := Lib.hid (Below.trans B4.out (hb.mono (by first | omega | (simp only [szA, szS, szD, World.heap_drewN] at * <;> omega))) : Below w.heap.size w w5)
        have Z5 := hb.size
        have N5 : w4.heap.size ≤ w5.heap.size := (by first | exact Z5 | (simp only [szA, szS, szD] at Z5; omega))
        clear Z5
        have Xs_5 := Lib.hid (below_at hb Xs_4.out)
        have Xx_5 := Lib.hid (below_at hb Xx_4.out)
        have Xt_5 := Lib.hid (below_at hb Xt_4.out)
        have Os_5 := Lib.hid (Os_4.out.kept hb)
        have Ox_5 := Lib.hid (Ox_4.out.kept hb)
        have Ot_5 := Lib.hid (Ot_4.out.kept hb)
        have Oz_5 := Lib.hid (ho_z.mono (lo' := w.heap.size) (by first | omega | (simp only [szA, szS, szD, World.heap_drewN] at * <;> omega)) (Nat.le_refl _)); obtain ⟨az2, pz2, rfl, hx_z⟩ := ho_z; clear hx_z
        have Oy_5 := Lib.hid (Own.mono (base' := w.heap.size) ho_y.own (by first | omega | (simp only [szA, szS, szD, World.heap_drewN] at * <;> omega))); obtain ⟨ay, py, rfl, hx_y⟩ := ho_y; clear hx_y
        clear hb
        obtain ⟨cs5_0, cs5_1, cs5_2, fs5_0, fs5_1, fs5_2⟩ := box3 Xs_5.out; have ls5 := heap_lt Xs_5.out
        obtain ⟨cx5_0, cx5_1, cx5_2, fx5_0, fx5_1, fx5_2⟩ := box3 Xx_5.out; have lx5 := heap_lt Xx_5.out
        obtain ⟨ct5_0, ct5_1, ct5_2, ft5_0, ft5_1, ft5_2⟩ := box3 Xt_5.out; have lt5 := heap_lt Xt_5.out
        have S5 : w.heap.size ≤ w5.heap.size := (by omega)
        clear cs4_0 cs4_1 cs4_2 fs4_0 fs4_1 fs4_2 cx4_0 cx4_1 cx4_2 fx4_0 fx4_1 fx4_2 ct4_0 ct4_1 ct4_2 ft4_0 ft4_1 ft4_2
        clear hap
        go_wp2_with (fail)
        refine (SemValidO _ r _ ((Ox_5.out.alloc _).row)).mono ?_
        rw [HV.out]
        rintro e w6 ⟨rfl, hb⟩
        have B6 := Lib.hid (Below.trans (Below.alloc B5.out (by first | omega | (simp only [szA, szS, szD, World.heap_drewN] at * <;> omega)) _) (hb.mono (by first | omega | (simp only [szA, szS, szD, World.heap_drewN] at * <;> omega))) : Below w.heap.size w w6)
        have Z6 := hb.size
        have N6 : w5.heap.size + 1 ≤ w6.heap.size := (by first | exact Z6 | (simp only [szA, szS, szD] at Z6; omega))
        clear Z6
        have Xs_6 := Lib.hid (below_at hb (heap_up Xs_5.out))
        have Xx_6 := Lib.hid (below_at hb (heap_up Xx_5.out))
        have Xt_6 := Lib.hid (below_at hb (heap_up Xt_5.out))
        have Xz_6 : Hid (w6.heap[w5.heap.size]? = some (.cells #[.int .i64 cs.free, .int .i64 cs.limit, .slice az2 cs.q.length pz2] 48 (0, 0))) := below_at hb (heap_at' (n := w5.heap.size) (by first | omega | (simp only [szA, szS, szD, World.heap_drewN] at * <;> omega)))
        have Os_6 := Lib.hid ((Os_5.out.alloc _).kept hb)
        have Ox_6 := Lib.hid ((Ox_5.out.alloc _).kept hb)
        have Ot_6 := Lib.hid ((Ot_5.out.alloc _).kept hb)
        have Oz_6 := Lib.hid ((Oz_5.out.alloc _).kept hb)
        have Oy_6 := Lib.hid ((Oy_5.out.alloc _).kept hb)
        clear hb
        obtain ⟨cs6_0, cs6_1, cs6_2, fs6_0, fs6_1, fs6_2⟩ := box3 Xs_6.out; have ls6 := heap_lt Xs_6.out
        obtain ⟨cx6_0, cx6_1, cx6_2, fx6_0, fx6_1, fx6_2⟩ := box3 Xx_6.out; have lx6 := heap_lt Xx_6.out
        obtain ⟨ct6_0, ct6_1, ct6_2, ft6_0, ft6_1, ft6_2⟩ := box3 Xt_6.out; have lt6 := heap_lt Xt_6.out
        obtain ⟨cz6_0, cz6_1, cz6_2, fz6_0, fz6_1, fz6_2⟩ := box3 Xz_6.out; have lz6 := heap_lt Xz_6.out
        have S6 : w.heap.size ≤ w6.heap.size := (by omega)
        clear cs5_0 cs5_1 cs5_2 fs5_0 fs5_1 fs5_2 cx5_0 cx5_1 cx5_2 fx5_0 fx5_1 fx5_2 ct5_0 ct5_1 ct5_2 ft5_0 ft5_1 ft5_2
        go_wp2_with (fail)
        refine (SemSameO _ _ cs cs _ (Oz_6.out.row) (Os_6.out.row)).mono ?_
        rw [decide_eq_true rfl]
        rintro e w7 ⟨rfl, hb⟩
        have B7 := Lib.hid (Below.trans B6.out (hb.mono (by first | omega | (simp only [szA, szS, szD, World.heap_drewN] at * <;> omega))) : Below w.heap.size w w7)
        have Z7 := hb.size
        have N7 : w6.heap.size ≤ w7.heap.size := (by first | exact Z7 | (simp only [szA, szS, szD] at Z7; omega))
        clear Z7
        have Xs_7 := Lib.hid (below_at hb Xs_6.out)
        have Xx_7 := Lib.hid (below_at hb Xx_6.out)
        have Xt_7 := Lib.hid (below_at hb Xt_6.out)
        have Xz_7 := Lib.hid (below_at hb Xz_6.out)
        have Os_7 := Lib.hid (Os_6.out.kept hb)
        have Ox_7 := Lib.hid (Ox_6.out.kept hb)
        have Ot_7 := Lib.hid (Ot_6.out.kept hb)
        have Oz_7 := Lib.hid (Oz_6.out.kept hb)
        have Oy_7 := Lib.hid (Oy_6.out.kept hb)
        clear hb
        obtain ⟨cs7_0, cs7_1, cs7_2, fs7_0, fs7_1, fs7_2⟩ := box3 Xs_7.out; have ls7 := heap_lt Xs_7.out
        obtain ⟨cx7_0, cx7_1, cx7_2, fx7_0, fx7_1, fx7_2⟩ := box3 Xx_7.out; have lx7 := heap_lt Xx_7.out
        obtain ⟨ct7_0, ct7_1, ct7_2, ft7_0, ft7_1, ft7_2⟩ := box3 Xt_7.out; have lt7 := heap_lt Xt_7.out
        obtain ⟨cz7_0, cz7_1, cz7_2, fz7_0, fz7_1, fz7_2⟩ := box3 Xz_7.out; have lz7 := heap_lt Xz_7.out
        have S7 : w.heap.size ≤ w7.heap.size := (by omega)
        clear cs6_0 cs6_1 cs6_2 fs6_0 fs6_1 fs6_2 cx6_0 cx6_1 cx6_2 fx6_0 fx6_1 fx6_2 ct6_0 ct6_1 ct6_2 ft6_0 ft6_1 ft6_2 cz6_0 cz6_1 cz6_2 fz6_0 fz6_1 fz6_2
        go_wp2_with (fail)
        go_ret
        exact ⟨rfl, B7.out⟩

  · go_enter Try.func9, Try.ntmps9
    go_wp2
    go_ret
    exact ⟨rfl, Below.refl _ _⟩
end Go.Proofs.Ytmmkbiljjhigfaa
