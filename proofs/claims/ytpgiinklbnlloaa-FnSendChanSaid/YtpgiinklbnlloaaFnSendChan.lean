/- FnSendChan: the law's walk (made by gen_chanlaws.py). -/
import Derived.Test.YtpgiinklbnlloaaDrawSendChan
import Derived.Test.YtpgiinklbnlloaaLawChan
import Derived.Test.YtpgiinklbnlloaaBytes
import Derived.Test.YtpgiinklbnlloaaRgA
import Derived.Test.YtpgiinklbnlloaaFree
namespace Go.Proofs.Ytpgiinklbnlloaa
open Go.RowKit
set_option linter.unusedSimpArgs false
set_option linter.unusedVariables false
set_option maxRecDepth 100000 in
set_option maxHeartbeats 8000000 in
theorem FnSendChan_calls (v : Value) (bs : List Int) (w : World) (h : Row 1 encB w v bs) (hbs : ∀ x ∈ bs, 0 ≤ x ∧ x ≤ 255) :
    Calls Try.prog 13 #[v] w fun e w' => e = .returned (.bool true) ∧ Below w.heap.size w w' := by
  have HB := Lib.hid hbs; clear hbs
  have H0 := Lib.hid h
  obtain ⟨a, c, rfl, l1, l2, l3⟩ := h
  clear l3
  by_cases hl : bs.length ≤ 1048576
  · go_enter Try.func13, Try.ntmps13
    go_wp2_with (fail)
    refine (DrawSendChan_calls _ bs _ (Row.below H0.out (Below.refl _ _)) HB.out).mono ?_
    rintro e w1 ⟨vs, cs, y0, y1, rfl, ho_s, hfs, hb⟩
    have B1 := Lib.hid (Below.trans (Below.refl _ _) (hb.mono (by first | omega | (simp only [szA, szS, szD, World.heap_drewN] at * <;> omega))) : Below w.heap.size w w1)
    have Z1 := hb.size
    have N1 : w.heap.size ≤ w1.heap.size := (by first | with_reducible exact Z1 | (simp only [szA, szS, szD] at Z1; omega))
    clear Z1
    have Os_1 := Lib.hid (ho_s.mono (lo' := w.heap.size) (by first | omega | (simp only [szA, szS, szD, World.heap_drewN] at * <;> omega)) (Nat.le_refl _)); obtain ⟨as1, ps1, as2, ps2, as3, ps3, rfl, hx_s⟩ := ho_s; clear hx_s
    clear hb
    have S1 : w.heap.size ≤ w1.heap.size := (by omega)
    have HN := Lib.hid (few_small hfs (by decide)); clear hfs
    obtain ⟨r, y, b1, b2, hr⟩ : ∃ r y b1 b2, send cs y0 y1 = (r, y, b1, b2) := ⟨_, _, _, _, rfl⟩
    have HR := Lib.hid hr; clear hr
    have HM := Lib.hid (few_small (send_few HR.out) (by decide))
    go_wp2_with (fail)
    refine (SendChanO _ cs y0 y1 r y b1 b2 _ ((Os_1.out.alloc _).row) HN.out HR.out).mono ?_
    rintro e w2 ⟨vx, va, rfl, ho_x, ho_ya, hb⟩
    have B2 := Lib.hid (Below.trans (Below.alloc B1.out (by first | omega | (simp only [szA, szS, szD, World.heap_drewN] at * <;> omega)) _) (hb.mono (by first | omega | (simp only [szA, szS, szD, World.heap_drewN] at * <;> omega))) : Below w.heap.size w w2)
    have Z2 := hb.size
    have N2 : w1.heap.size + 1 ≤ w2.heap.size := (by first | with_reducible exact Z2 | (simp only [szA, szS, szD] at Z2; omega))
    clear Z2
    have Xs_2 : Hid (w2.heap[w1.heap.size]? = some (.cells #[.int .i64 cs.room, .slice as1 cs.items.length ps1, .slice as2 cs.senders.length ps2, .slice as3 cs.getters.length ps3, .bool cs.closed] 25 (0, 0))) := below_at hb (heap_at' (n := w1.heap.size) (by first | omega | (simp only [szA, szS, szD, World.heap_drewN] at * <;> omega)))
    have Os_2 := Lib.hid ((Os_1.out.alloc _).kept hb)
    have Ox_2 := Lib.hid (ho_x.mono (lo' := w.heap.size) (by first | omega | (simp only [szA, szS, szD, World.heap_drewN] at * <;> omega)) (Nat.le_refl _)); obtain ⟨ax1, px1, ax2, px2, ax3, px3, rfl, hx_x⟩ := ho_x; clear hx_x
    have Oya_2 := Lib.hid (Own.mono (base' := w.heap.size) ho_ya.own (by first | omega | (simp only [szA, szS, szD, World.heap_drewN] at * <;> omega))); obtain ⟨aya, pya, rfl, hx_ya⟩ := ho_ya; clear hx_ya
    clear hb
    obtain ⟨cs2_0, cs2_1, cs2_2, cs2_3, cs2_4, fs2_0, fs2_1, fs2_2, fs2_3, fs2_4⟩ := box5 Xs_2.out; have ls2 := heap_lt Xs_2.out
    have S2 : w.heap.size ≤ w2.heap.size := (by omega)
    go_wp2_with (fail)
    refine (sSendChanO _ cs y0 y1 r y b1 b2 _ ((Os_2.out.alloc _).row) HN.out HR.out).mono ?_
    rintro e w3 ⟨vt, vb, rfl, ho_t, ho_yb, hb⟩
    have B3 := Lib.hid (Below.trans (Below.alloc B2.out (by first | omega | (simp only [szA, szS, szD, World.heap_drewN] at * <;> omega)) _) (hb.mono (by first | omega | (simp only [szA, szS, szD, World.heap_drewN] at * <;> omega))) : Below w.heap.size w w3)
    have Z3 := hb.size
    have N3 : w2.heap.size + 1 ≤ w3.heap.size := (by first | with_reducible exact Z3 | (simp only [szA, szS, szD] at Z3; omega))
    clear Z3
    have Xs_3 := Lib.hid (below_at hb (heap_up Xs_2.out))
    have Xx_3 : Hid (w3.heap[w2.heap.size]? = some (.cells #[.int .i64 r.room, .slice ax1 r.items.length px1, .slice ax2 r.senders.length px2, .slice ax3 r.getters.length px3, .bool r.closed] 25 (0, 0))) := below_at hb (heap_at' (n := w2.heap.size) (by first | omega | (simp only [szA, szS, szD, World.heap_drewN] at * <;> omega)))
    have Os_3 := Lib.hid ((Os_2.out.alloc _).kept hb)
    have Ox_3 := Lib.hid ((Ox_2.out.alloc _).kept hb)
    have Oya_3 := Lib.hid ((Oya_2.out.alloc _).kept hb)
    have Ot_3 := Lib.hid (ho_t.mono (lo' := w.heap.size) (by first | omega | (simp only [szA, szS, szD, World.heap_drewN] at * <;> omega)) (Nat.le_refl _)); obtain ⟨at1, pt1, at2, pt2, at3, pt3, rfl, hx_t⟩ := ho_t; clear hx_t
    have Oyb_3 := Lib.hid (Own.mono (base' := w.heap.size) ho_yb.own (by first | omega | (simp only [szA, szS, szD, World.heap_drewN] at * <;> omega))); obtain ⟨ayb, pyb, rfl, hx_yb⟩ := ho_yb; clear hx_yb
    clear hb
    obtain ⟨cs3_0, cs3_1, cs3_2, cs3_3, cs3_4, fs3_0, fs3_1, fs3_2, fs3_3, fs3_4⟩ := box5 Xs_3.out; have ls3 := heap_lt Xs_3.out
    obtain ⟨cx3_0, cx3_1, cx3_2, cx3_3, cx3_4, fx3_0, fx3_1, fx3_2, fx3_3, fx3_4⟩ := box5 Xx_3.out; have lx3 := heap_lt Xx_3.out
    have S3 : w.heap.size ≤ w3.heap.size := (by omega)
    clear cs2_0 cs2_1 cs2_2 cs2_3 cs2_4 fs2_0 fs2_1 fs2_2 fs2_3 fs2_4
    go_wp2_with (fail)
    refine (ChanSameO _ _ r r _ ((Ox_3.out.alloc _).row) ((Ot_3.out.alloc _).row)).mono ?_
    rw [decide_eq_true rfl]
    rintro e w4 ⟨rfl, hb⟩
    have B4 := Lib.hid (Below.trans (Below.alloc B3.out (by first | omega | (simp only [szA, szS, szD, World.heap_drewN] at * <;> omega)) _) (hb.mono (by first | omega | (simp only [szA, szS, szD, World.heap_drewN] at * <;> omega))) : Below w.heap.size w w4)
    have Z4 := hb.size
    have N4 : w3.heap.size + 1 ≤ w4.heap.size := (by first | with_reducible exact Z4 | (simp only [szA, szS, szD] at Z4; omega))
    clear Z4
    have Xs_4 := Lib.hid (below_at hb (heap_up Xs_3.out))
    have Xx_4 := Lib.hid (below_at hb (heap_up Xx_3.out))
    have Xt_4 : Hid (w4.heap[w3.heap.size]? = some (.cells #[.int .i64 r.room, .slice at1 r.items.length pt1, .slice at2 r.senders.length pt2, .slice at3 r.getters.length pt3, .bool r.closed] 25 (0, 0))) := below_at hb (heap_at' (n := w3.heap.size) (by first | omega | (simp only [szA, szS, szD, World.heap_drewN] at * <;> omega)))
    have Os_4 := Lib.hid ((Os_3.out.alloc _).kept hb)
    have Ox_4 := Lib.hid ((Ox_3.out.alloc _).kept hb)
    have Oya_4 := Lib.hid ((Oya_3.out.alloc _).kept hb)
    have Ot_4 := Lib.hid ((Ot_3.out.alloc _).kept hb)
    have Oyb_4 := Lib.hid ((Oyb_3.out.alloc _).kept hb)
    clear hb
    obtain ⟨cs4_0, cs4_1, cs4_2, cs4_3, cs4_4, fs4_0, fs4_1, fs4_2, fs4_3, fs4_4⟩ := box5 Xs_4.out; have ls4 := heap_lt Xs_4.out
    obtain ⟨cx4_0, cx4_1, cx4_2, cx4_3, cx4_4, fx4_0, fx4_1, fx4_2, fx4_3, fx4_4⟩ := box5 Xx_4.out; have lx4 := heap_lt Xx_4.out
    obtain ⟨ct4_0, ct4_1, ct4_2, ct4_3, ct4_4, ft4_0, ft4_1, ft4_2, ft4_3, ft4_4⟩ := box5 Xt_4.out; have lt4 := heap_lt Xt_4.out
    have S4 : w.heap.size ≤ w4.heap.size := (by omega)
    clear cs3_0 cs3_1 cs3_2 cs3_3 cs3_4 fs3_0 fs3_1 fs3_2 fs3_3 fs3_4 cx3_0 cx3_1 cx3_2 cx3_3 cx3_4 fx3_0 fx3_1 fx3_2 fx3_3 fx3_4
    go_wp2_with (fail)
    refine (wkInts_calls _ _ y y _ (Oya_4.out.row encI_len) (Oyb_4.out.row encI_len)).mono ?_
    rw [decide_eq_true rfl]
    rintro e w5 ⟨rfl, hb⟩
    have B5 := Lib.hid (Below.trans B4.out (hb.mono (by first | omega | (simp only [szA, szS, szD, World.heap_drewN] at * <;> omega))) : Below w.heap.size w w5)
    have Z5 := hb.size
    have N5 : w4.heap.size ≤ w5.heap.size := (by first | with_reducible exact Z5 | (simp only [szA, szS, szD] at Z5; omega))
    clear Z5
    have Xs_5 := Lib.hid (below_at hb Xs_4.out)
    have Xx_5 := Lib.hid (below_at hb Xx_4.out)
    have Xt_5 := Lib.hid (below_at hb Xt_4.out)
    have Os_5 := Lib.hid (Os_4.out.kept hb)
    have Ox_5 := Lib.hid (Ox_4.out.kept hb)
    have Oya_5 := Lib.hid (Oya_4.out.kept hb)
    have Ot_5 := Lib.hid (Ot_4.out.kept hb)
    have Oyb_5 := Lib.hid (Oyb_4.out.kept hb)
    clear hb
    obtain ⟨cs5_0, cs5_1, cs5_2, cs5_3, cs5_4, fs5_0, fs5_1, fs5_2, fs5_3, fs5_4⟩ := box5 Xs_5.out; have ls5 := heap_lt Xs_5.out
    obtain ⟨cx5_0, cx5_1, cx5_2, cx5_3, cx5_4, fx5_0, fx5_1, fx5_2, fx5_3, fx5_4⟩ := box5 Xx_5.out; have lx5 := heap_lt Xx_5.out
    obtain ⟨ct5_0, ct5_1, ct5_2, ct5_3, ct5_4, ft5_0, ft5_1, ft5_2, ft5_3, ft5_4⟩ := box5 Xt_5.out; have lt5 := heap_lt Xt_5.out
    have S5 : w.heap.size ≤ w5.heap.size := (by omega)
    clear cs4_0 cs4_1 cs4_2 cs4_3 cs4_4 fs4_0 fs4_1 fs4_2 fs4_3 fs4_4 cx4_0 cx4_1 cx4_2 cx4_3 cx4_4 fx4_0 fx4_1 fx4_2 fx4_3 fx4_4 ct4_0 ct4_1 ct4_2 ct4_3 ct4_4 ft4_0 ft4_1 ft4_2 ft4_3 ft4_4
    cases b2
    · cases b1
      · go_wp2_with (fail)
        refine (ChanSameO _ _ r r _ (Ox_5.out.row) (Ot_5.out.row)).mono ?_
        rw [decide_eq_true rfl]
        rintro e w6 ⟨rfl, hb⟩
        have B6 := Lib.hid (Below.trans B5.out (hb.mono (by first | omega | (simp only [szA, szS, szD, World.heap_drewN] at * <;> omega))) : Below w.heap.size w w6)
        have Z6 := hb.size
        have N6 : w5.heap.size ≤ w6.heap.size := (by first | with_reducible exact Z6 | (simp only [szA, szS, szD] at Z6; omega))
        clear Z6
        have Xs_6 := Lib.hid (below_at hb Xs_5.out)
        have Xx_6 := Lib.hid (below_at hb Xx_5.out)
        have Xt_6 := Lib.hid (below_at hb Xt_5.out)
        have Os_6 := Lib.hid (Os_5.out.kept hb)
        have Ox_6 := Lib.hid (Ox_5.out.kept hb)
        have Oya_6 := Lib.hid (Oya_5.out.kept hb)
        have Ot_6 := Lib.hid (Ot_5.out.kept hb)
        have Oyb_6 := Lib.hid (Oyb_5.out.kept hb)
        clear hb
        obtain ⟨cs6_0, cs6_1, cs6_2, cs6_3, cs6_4, fs6_0, fs6_1, fs6_2, fs6_3, fs6_4⟩ := box5 Xs_6.out; have ls6 := heap_lt Xs_6.out
        obtain ⟨cx6_0, cx6_1, cx6_2, cx6_3, cx6_4, fx6_0, fx6_1, fx6_2, fx6_3, fx6_4⟩ := box5 Xx_6.out; have lx6 := heap_lt Xx_6.out
        obtain ⟨ct6_0, ct6_1, ct6_2, ct6_3, ct6_4, ft6_0, ft6_1, ft6_2, ft6_3, ft6_4⟩ := box5 Xt_6.out; have lt6 := heap_lt Xt_6.out
        have S6 : w.heap.size ≤ w6.heap.size := (by omega)
        clear cs5_0 cs5_1 cs5_2 cs5_3 cs5_4 fs5_0 fs5_1 fs5_2 fs5_3 fs5_4 cx5_0 cx5_1 cx5_2 cx5_3 cx5_4 fx5_0 fx5_1 fx5_2 fx5_3 fx5_4 ct5_0 ct5_1 ct5_2 ct5_3 ct5_4 ft5_0 ft5_1 ft5_2 ft5_3 ft5_4
        go_wp2_with (fail)
        refine (wkInts_calls _ _ y y _ (Oya_6.out.row encI_len) (Oyb_6.out.row encI_len)).mono ?_
        rw [decide_eq_true rfl]
        rintro e w7 ⟨rfl, hb⟩
        have B7 := Lib.hid (Below.trans B6.out (hb.mono (by first | omega | (simp only [szA, szS, szD, World.heap_drewN] at * <;> omega))) : Below w.heap.size w w7)
        have Z7 := hb.size
        have N7 : w6.heap.size ≤ w7.heap.size := (by first | with_reducible exact Z7 | (simp only [szA, szS, szD] at Z7; omega))
        clear Z7
        have Xs_7 := Lib.hid (below_at hb Xs_6.out)
        have Xx_7 := Lib.hid (below_at hb Xx_6.out)
        have Xt_7 := Lib.hid (below_at hb Xt_6.out)
        have Os_7 := Lib.hid (Os_6.out.kept hb)
        have Ox_7 := Lib.hid (Ox_6.out.kept hb)
        have Oya_7 := Lib.hid (Oya_6.out.kept hb)
        have Ot_7 := Lib.hid (Ot_6.out.kept hb)
        have Oyb_7 := Lib.hid (Oyb_6.out.kept hb)
        clear hb
        obtain ⟨cs7_0, cs7_1, cs7_2, cs7_3, cs7_4, fs7_0, fs7_1, fs7_2, fs7_3, fs7_4⟩ := box5 Xs_7.out; have ls7 := heap_lt Xs_7.out
        obtain ⟨cx7_0, cx7_1, cx7_2, cx7_3, cx7_4, fx7_0, fx7_1, fx7_2, fx7_3, fx7_4⟩ := box5 Xx_7.out; have lx7 := heap_lt Xx_7.out
        obtain ⟨ct7_0, ct7_1, ct7_2, ct7_3, ct7_4, ft7_0, ft7_1, ft7_2, ft7_3, ft7_4⟩ := box5 Xt_7.out; have lt7 := heap_lt Xt_7.out
        have S7 : w.heap.size ≤ w7.heap.size := (by omega)
        clear cs6_0 cs6_1 cs6_2 cs6_3 cs6_4 fs6_0 fs6_1 fs6_2 fs6_3 fs6_4 cx6_0 cx6_1 cx6_2 cx6_3 cx6_4 fx6_0 fx6_1 fx6_2 fx6_3 fx6_4 ct6_0 ct6_1 ct6_2 ct6_3 ct6_4 ft6_0 ft6_1 ft6_2 ft6_3 ft6_4
        go_wp2_with (fail)
        go_ret
        exact ⟨rfl, B7.out⟩
      · go_wp2_with (fail)
        refine (ChanSameO _ _ r r _ (Ox_5.out.row) (Ot_5.out.row)).mono ?_
        rw [decide_eq_true rfl]
        rintro e w6 ⟨rfl, hb⟩
        have B6 := Lib.hid (Below.trans B5.out (hb.mono (by first | omega | (simp only [szA, szS, szD, World.heap_drewN] at * <;> omega))) : Below w.heap.size w w6)
        have Z6 := hb.size
        have N6 : w5.heap.size ≤ w6.heap.size := (by first | with_reducible exact Z6 | (simp only [szA, szS, szD] at Z6; omega))
        clear Z6
        have Xs_6 := Lib.hid (below_at hb Xs_5.out)
        have Xx_6 := Lib.hid (below_at hb Xx_5.out)
        have Xt_6 := Lib.hid (below_at hb Xt_5.out)
        have Os_6 := Lib.hid (Os_5.out.kept hb)
        have Ox_6 := Lib.hid (Ox_5.out.kept hb)
        have Oya_6 := Lib.hid (Oya_5.out.kept hb)
        have Ot_6 := Lib.hid (Ot_5.out.kept hb)
        have Oyb_6 := Lib.hid (Oyb_5.out.kept hb)
        clear hb
        obtain ⟨cs6_0, cs6_1, cs6_2, cs6_3, cs6_4, fs6_0, fs6_1, fs6_2, fs6_3, fs6_4⟩ := box5 Xs_6.out; have ls6 := heap_lt Xs_6.out
        obtain ⟨cx6_0, cx6_1, cx6_2, cx6_3, cx6_4, fx6_0, fx6_1, fx6_2, fx6_3, fx6_4⟩ := box5 Xx_6.out; have lx6 := heap_lt Xx_6.out
        obtain ⟨ct6_0, ct6_1, ct6_2, ct6_3, ct6_4, ft6_0, ft6_1, ft6_2, ft6_3, ft6_4⟩ := box5 Xt_6.out; have lt6 := heap_lt Xt_6.out
        have S6 : w.heap.size ≤ w6.heap.size := (by omega)
        clear cs5_0 cs5_1 cs5_2 cs5_3 cs5_4 fs5_0 fs5_1 fs5_2 fs5_3 fs5_4 cx5_0 cx5_1 cx5_2 cx5_3 cx5_4 fx5_0 fx5_1 fx5_2 fx5_3 fx5_4 ct5_0 ct5_1 ct5_2 ct5_3 ct5_4 ft5_0 ft5_1 ft5_2 ft5_3 ft5_4
        go_wp2_with (fail)
        refine (wkInts_calls _ _ y y _ (Oya_6.out.row encI_len) (Oyb_6.out.row encI_len)).mono ?_
        rw [decide_eq_true rfl]
        rintro e w7 ⟨rfl, hb⟩
        have B7 := Lib.hid (Below.trans B6.out (hb.mono (by first | omega | (simp only [szA, szS, szD, World.heap_drewN] at * <;> omega))) : Below w.heap.size w w7)
        have Z7 := hb.size
        have N7 : w6.heap.size ≤ w7.heap.size := (by first | with_reducible exact Z7 | (simp only [szA, szS, szD] at Z7; omega))
        clear Z7
        have Xs_7 := Lib.hid (below_at hb Xs_6.out)
        have Xx_7 := Lib.hid (below_at hb Xx_6.out)
        have Xt_7 := Lib.hid (below_at hb Xt_6.out)
        have Os_7 := Lib.hid (Os_6.out.kept hb)
        have Ox_7 := Lib.hid (Ox_6.out.kept hb)
        have Oya_7 := Lib.hid (Oya_6.out.kept hb)
        have Ot_7 := Lib.hid (Ot_6.out.kept hb)
        have Oyb_7 := Lib.hid (Oyb_6.out.kept hb)
        clear hb
        obtain ⟨cs7_0, cs7_1, cs7_2, cs7_3, cs7_4, fs7_0, fs7_1, fs7_2, fs7_3, fs7_4⟩ := box5 Xs_7.out; have ls7 := heap_lt Xs_7.out
        obtain ⟨cx7_0, cx7_1, cx7_2, cx7_3, cx7_4, fx7_0, fx7_1, fx7_2, fx7_3, fx7_4⟩ := box5 Xx_7.out; have lx7 := heap_lt Xx_7.out
        obtain ⟨ct7_0, ct7_1, ct7_2, ct7_3, ct7_4, ft7_0, ft7_1, ft7_2, ft7_3, ft7_4⟩ := box5 Xt_7.out; have lt7 := heap_lt Xt_7.out
        have S7 : w.heap.size ≤ w7.heap.size := (by omega)
        clear cs6_0 cs6_1 cs6_2 cs6_3 cs6_4 fs6_0 fs6_1 fs6_2 fs6_3 fs6_4 cx6_0 cx6_1 cx6_2 cx6_3 cx6_4 fx6_0 fx6_1 fx6_2 fx6_3 fx6_4 ct6_0 ct6_1 ct6_2 ct6_3 ct6_4 ft6_0 ft6_1 ft6_2 ft6_3 ft6_4
        go_wp2_with (fail)
        go_ret
        exact ⟨rfl, B7.out⟩
    · obtain ⟨h1, h2, h3⟩ := send_ok HR.out
      have H1 := Lib.hid h1; have H2 := Lib.hid h2; clear h1 h2
      obtain ⟨p, hp⟩ : ∃ p, (pend cs).1 = p := ⟨_, rfl⟩
      have HPC := Lib.hid (show pend cs = (p, true) by rw [← hp, pend_yes H2.out])
      have hpl := pend_small HPC.out
      rcases h3 with ⟨h4, h5, h6, rfl, h7⟩ | ⟨h4, rfl, h5, h7⟩
      · obtain ⟨g0, hg0⟩ := get_ex h4
        have HG := Lib.hid hg0; have HG4 := Lib.hid h4
        have hy := h5.trans (take_one hg0)
        have HPR := Lib.hid (show pend r = (p, true) by rw [← hp, ← h7, pend_yes H1.out])
        have HY := Lib.hid hy
        have hyl := Lib.hid h6
        clear hg0 h5 h6 h7 hy hp h4
        go_wp2_with (fail)
        refine (PendingOfO _ cs p true _ (Os_5.out.row) HN.out HPC.out).mono ?_
        rintro e w6 ⟨vp, rfl, ho_p, hb⟩
        have B6 := Lib.hid (Below.trans B5.out (hb.mono (by first | omega | (simp only [szA, szS, szD, World.heap_drewN] at * <;> omega))) : Below w.heap.size w w6)
        have Z6 := hb.size
        have N6 : w5.heap.size ≤ w6.heap.size := (by first | with_reducible exact Z6 | (simp only [szA, szS, szD] at Z6; omega))
        clear Z6
        have Xs_6 := Lib.hid (below_at hb Xs_5.out)
        have Xx_6 := Lib.hid (below_at hb Xx_5.out)
        have Xt_6 := Lib.hid (below_at hb Xt_5.out)
        have Os_6 := Lib.hid (Os_5.out.kept hb)
        have Ox_6 := Lib.hid (Ox_5.out.kept hb)
        have Oya_6 := Lib.hid (Oya_5.out.kept hb)
        have Ot_6 := Lib.hid (Ot_5.out.kept hb)
        have Oyb_6 := Lib.hid (Oyb_5.out.kept hb)
        have Op_6 := Lib.hid (Own.mono (base' := w.heap.size) ho_p.own (by first | omega | (simp only [szA, szS, szD, World.heap_drewN] at * <;> omega))); obtain ⟨ap, pp, rfl, hx_p⟩ := ho_p; clear hx_p
        clear hb
        obtain ⟨cs6_0, cs6_1, cs6_2, cs6_3, cs6_4, fs6_0, fs6_1, fs6_2, fs6_3, fs6_4⟩ := box5 Xs_6.out; have ls6 := heap_lt Xs_6.out
        obtain ⟨cx6_0, cx6_1, cx6_2, cx6_3, cx6_4, fx6_0, fx6_1, fx6_2, fx6_3, fx6_4⟩ := box5 Xx_6.out; have lx6 := heap_lt Xx_6.out
        obtain ⟨ct6_0, ct6_1, ct6_2, ct6_3, ct6_4, ft6_0, ft6_1, ft6_2, ft6_3, ft6_4⟩ := box5 Xt_6.out; have lt6 := heap_lt Xt_6.out
        have S6 : w.heap.size ≤ w6.heap.size := (by omega)
        clear cs5_0 cs5_1 cs5_2 cs5_3 cs5_4 fs5_0 fs5_1 fs5_2 fs5_3 fs5_4 cx5_0 cx5_1 cx5_2 cx5_3 cx5_4 fx5_0 fx5_1 fx5_2 fx5_3 fx5_4 ct5_0 ct5_1 ct5_2 ct5_3 ct5_4 ft5_0 ft5_1 ft5_2 ft5_3 ft5_4
        go_wp2_with (fail)
        refine (PendingOfO _ r p true _ (Ox_6.out.row) HM.out HPR.out).mono ?_
        rintro e w7 ⟨vq, rfl, ho_q, hb⟩
        have B7 := Lib.hid (Below.trans B6.out (hb.mono (by first | omega | (simp only [szA, szS, szD, World.heap_drewN] at * <;> omega))) : Below w.heap.size w w7)
        have Z7 := hb.size
        have N7 : w6.heap.size ≤ w7.heap.size := (by first | with_reducible exact Z7 | (simp only [szA, szS, szD] at Z7; omega))
        clear Z7
        have Xs_7 := Lib.hid (below_at hb Xs_6.out)
        have Xx_7 := Lib.hid (below_at hb Xx_6.out)
        have Xt_7 := Lib.hid (below_at hb Xt_6.out)
        have Os_7 := Lib.hid (Os_6.out.kept hb)
        have Ox_7 := Lib.hid (Ox_6.out.kept hb)
        have Oya_7 := Lib.hid (Oya_6.out.kept hb)
        have Ot_7 := Lib.hid (Ot_6.out.kept hb)
        have Oyb_7 := Lib.hid (Oyb_6.out.kept hb)
        have Op_7 := Lib.hid (Op_6.out.kept hb)
        have Oq_7 := Lib.hid (Own.mono (base' := w.heap.size) ho_q.own (by first | omega | (simp only [szA, szS, szD, World.heap_drewN] at * <;> omega))); obtain ⟨aq, pq, rfl, hx_q⟩ := ho_q; clear hx_q
        clear hb
        obtain ⟨cs7_0, cs7_1, cs7_2, cs7_3, cs7_4, fs7_0, fs7_1, fs7_2, fs7_3, fs7_4⟩ := box5 Xs_7.out; have ls7 := heap_lt Xs_7.out
        obtain ⟨cx7_0, cx7_1, cx7_2, cx7_3, cx7_4, fx7_0, fx7_1, fx7_2, fx7_3, fx7_4⟩ := box5 Xx_7.out; have lx7 := heap_lt Xx_7.out
        obtain ⟨ct7_0, ct7_1, ct7_2, ct7_3, ct7_4, ft7_0, ft7_1, ft7_2, ft7_3, ft7_4⟩ := box5 Xt_7.out; have lt7 := heap_lt Xt_7.out
        have S7 : w.heap.size ≤ w7.heap.size := (by omega)
        clear cs6_0 cs6_1 cs6_2 cs6_3 cs6_4 fs6_0 fs6_1 fs6_2 fs6_3 fs6_4 cx6_0 cx6_1 cx6_2 cx6_3 cx6_4 fx6_0 fx6_1 fx6_2 fx6_3 fx6_4 ct6_0 ct6_1 ct6_2 ct6_3 ct6_4 ft6_0 ft6_1 ft6_2 ft6_3 ft6_4
        have e1 : ((y.length : Int) == 1) = true := beq_iff_eq.2 (by have := hyl.out; omega)
        have e2 : (y.length == 1) = true := beq_iff_eq.2 hyl.out
        have e3 : (0 : Int) < (y.length : Int) := (by have := hyl.out; omega)
        have e4 : (0 : Int) < (cs.getters.length : Int) := (by have := HG4.out; omega)
        have e5 : 0 < y.length := (by have := hyl.out; omega)
        have e6 := HG4.out
        obtain ⟨yb, yo, hya, hylt, hyc⟩ := irow_at (Own.row encI_len Oya_7.out) (by have := hyl.out; omega)
        subst hya
        have c_0_0 := hyc 0 g0 (by rw [HY.out]; rfl)
        obtain ⟨gb, go, hga, hglt, hgc⟩ := irow_at (ChanRow.parts Os_7.out.row).2.2 HG4.out
        subst hga
        have c_1_0 := hgc 0 g0 HG.out
        rw [Nat.add_zero] at c_0_0 c_1_0
        clear hyc hgc
        go_wp2_with (fail)
        obtain ⟨hi_s, HI_s⟩ : ∃ hi, ChanOwn w.heap.size hi w7 (.agg #[.int .i64 cs.room, .slice as1 cs.items.length ps1, .slice as2 cs.senders.length ps2, .slice (some ⟨gb, go, none⟩) cs.getters.length ps3, .bool cs.closed]) cs := ⟨_, Os_7.out⟩
        obtain ⟨hi_x, HI_x⟩ : ∃ hi, ChanOwn w.heap.size hi w7 (.agg #[.int .i64 r.room, .slice ax1 r.items.length px1, .slice ax2 r.senders.length px2, .slice ax3 r.getters.length px3, .bool r.closed]) r := ⟨_, Ox_7.out⟩
        have hN0 : w7.heap.size ≤ w7.heap.size := (by first | omega | (simp only [szA, szS, szD, World.heap_drewN] at * <;> omega))
        have c0_0 := c_0_0; have c1_0 := c_1_0
        refine wp_region_L [⟨0, false, [], fun _ v _ => v = .agg #[.int .i64 r.room, .slice ax1 r.items.length px1, .slice ax2 r.senders.length px2, .slice ax3 r.getters.length px3, .bool r.closed]⟩, ⟨1, false, [0], fun _ v _ => v = .bool true⟩, ⟨2, false, [0, 1], fun _ v _ => v = .bool true⟩, ⟨3, false, [0, 1, 2], fun _ v _ => v = .bool true⟩, ⟨4, false, [0, 1, 2, 3], fun _ v _ => v = .bool true⟩, ⟨5, false, [0, 1, 2, 3, 4], fun _ v _ => v = .bool true⟩, ⟨6, false, [0, 1, 2, 3, 4, 5], fun _ v _ => v = .slice (some ⟨yb, yo, none⟩) y.length pya⟩, ⟨7, false, [0, 1, 2, 3, 4, 5, 6], fun _ v _ => v = .pointer (some ⟨yb, yo, none⟩)⟩, ⟨8, false, [0, 1, 2, 3, 4, 5, 6, 7], fun _ v _ => v = .int .i64 g0⟩, ⟨9, false, [0, 1, 2, 3, 4, 5], fun _ v _ => v = .pointer (some ⟨w1.heap.size, 3, none⟩)⟩, ⟨10, false, [0, 1, 2, 3, 4, 5, 9], fun _ v _ => v = .slice (some ⟨gb, go, none⟩) cs.getters.length ps3⟩, ⟨11, false, [0, 1, 2, 3, 4, 5, 9, 10], fun _ v _ => v = .pointer (some ⟨gb, go, none⟩)⟩, ⟨12, false, [0, 1, 2, 3, 4, 5, 9, 10, 11], fun _ v _ => v = .int .i64 g0⟩, ⟨13, false, [0, 1, 2, 3, 4, 5, 6, 7, 8, 9, 10, 11, 12], fun _ v _ => v = .bool true⟩, ⟨14, false, [0, 1, 2, 3, 4, 5, 6, 7, 8, 9, 10, 11, 12, 13], fun _ v _ => v = .bool true⟩, ⟨15, false, [0, 1, 2, 3, 4, 5, 6, 7, 8, 9, 10, 11, 12, 13, 14], fun _ v _ => v = .bool true⟩, ⟨16, false, [0, 1, 2, 3, 4, 5, 6, 7, 8, 9, 10, 11, 12, 13, 14, 15], fun _ v _ => v = .bool true⟩, ⟨17, false, [0, 1, 2, 3, 4, 5, 6, 7, 8, 9, 10, 11, 12, 13, 14, 15, 16], fun _ v _ => v = .bool true⟩, ⟨18, false, [0, 1, 2, 3, 4, 5, 6, 7, 8, 9, 10, 11, 12, 13, 14, 15, 16, 17], fun _ v _ => v = .bool true⟩, ⟨19, false, [0, 1, 2, 3, 4, 5, 6, 7, 8, 9, 10, 11, 12, 13, 14, 15, 16, 17, 18], fun _ v _ => v = .slice ap p.length pp⟩, ⟨20, false, [0, 1, 2, 3, 4, 5, 6, 7, 8, 9, 10, 11, 12, 13, 14, 15, 16, 17, 18], fun _ v _ => v = .slice aq p.length pq⟩, ⟨21, false, [0, 1, 2, 3, 4, 5, 6, 7, 8, 9, 10, 11, 12, 13, 14, 15, 16, 17, 18, 19, 20], fun _ v _ => v = .bool true⟩, ⟨22, false, [0, 1, 2, 3, 4, 5, 6, 7, 8, 9, 10, 11, 12, 13, 14, 15, 16, 17, 18, 19, 20, 21], fun _ v _ => v = .bool true⟩, ⟨23, false, [0, 1, 2, 3, 4, 5, 6, 7, 8, 9, 10, 11, 12, 13, 14, 15, 16, 17, 18, 19, 20, 21, 22], fun _ v _ => v = .bool true⟩] [(0, some 100), (1, some 101), (2, some 102), (3, some 103), (4, some 104), (5, some 105), (6, some 106), (7, some 107), (8, some 108), (9, some 109), (10, some 110), (11, some 111), (12, some 112), (13, some 113), (14, some 114), (15, some 115), (16, some 116), (17, some 117), (18, some 118), (19, some 119), (20, some 120), (21, some 121), (22, some 122), (23, some 2)] (fun _ w' => Below w.heap.size w w' ∧ w7.heap.size ≤ w'.heap.size ∧ w'.heap[w1.heap.size]? = some (.cells #[.int .i64 cs.room, .slice as1 cs.items.length ps1, .slice as2 cs.senders.length ps2, .slice (some ⟨gb, go, none⟩) cs.getters.length ps3, .bool cs.closed] 25 (0, 0)) ∧ w'.heap[w2.heap.size]? = some (.cells #[.int .i64 r.room, .slice ax1 r.items.length px1, .slice ax2 r.senders.length px2, .slice ax3 r.getters.length px3, .bool r.closed] 25 (0, 0)) ∧ w'.heap[w3.heap.size]? = some (.cells #[.int .i64 r.room, .slice at1 r.items.length pt1, .slice at2 r.senders.length pt2, .slice at3 r.getters.length pt3, .bool r.closed] 25 (0, 0)) ∧ ChanOwn w.heap.size hi_s w' (.agg #[.int .i64 cs.room, .slice as1 cs.items.length ps1, .slice as2 cs.senders.length ps2, .slice (some ⟨gb, go, none⟩) cs.getters.length ps3, .bool cs.closed]) cs ∧ ChanOwn w.heap.size hi_x w' (.agg #[.int .i64 r.room, .slice ax1 r.items.length px1, .slice ax2 r.senders.length px2, .slice ax3 r.getters.length px3, .bool r.closed]) r ∧ Own w.heap.size 3 1 encI w' (.slice (some ⟨yb, yo, none⟩) y.length pya) y ∧ Own w.heap.size 3 1 encI w' (.slice ap p.length pp) p ∧ Own w.heap.size 3 1 encI w' (.slice aq p.length pq) p ∧ w'.cell? ⟨yb, yo, none⟩ = some (.int .i64 g0) ∧ w'.cell? ⟨gb, go, none⟩ = some (.int .i64 g0)) (fun _ _ _ => True) (by kernel_rfl) (by rfl) (by kernel_rfl) (by kernel_rfl) ⟨(B7.out).drew, hN0, (heap_drew Xs_7.out), (heap_drew Xx_7.out), (heap_drew Xt_7.out), HI_s, HI_x, Oya_7.out, Op_7.out, Oq_7.out, c0_0, c1_0⟩ (GoalsL.cons ?_ (GoalsL.cons ?_ (GoalsL.cons ?_ (GoalsL.cons ?_ (GoalsL.cons ?_ (GoalsL.cons ?_ (GoalsL.cons ?_ (GoalsL.cons ?_ (GoalsL.cons ?_ (GoalsL.cons ?_ (GoalsL.cons ?_ (GoalsL.cons ?_ (GoalsL.cons ?_ (GoalsL.cons ?_ (GoalsL.cons ?_ (GoalsL.cons ?_ (GoalsL.cons ?_ (GoalsL.cons ?_ (GoalsL.cons ?_ (GoalsL.cons ?_ (GoalsL.cons ?_ (GoalsL.cons ?_ (GoalsL.cons ?_ (GoalsL.cons ?_ (GoalsL.nil))))))))))))))))))))))))) ?_
        · refine GoalL.mk (by rfl) ⟨fun _ _ _ _ _ h => h, fun _ _ _ _ _ _ h => h⟩ ?_
          intro f u wq hf hC hD K hK
          have hA := hC.1; have hN := hC.2.1; have x_s := hC.2.2.1; have x_x := hC.2.2.2.1; have x_t := hC.2.2.2.2.1; have o_s := hC.2.2.2.2.2.1; have o_x := hC.2.2.2.2.2.2.1; have o_ya := hC.2.2.2.2.2.2.2.1; have o_p := hC.2.2.2.2.2.2.2.2.1; have o_q := hC.2.2.2.2.2.2.2.2.2.1; have c_0 := hC.2.2.2.2.2.2.2.2.2.2.1; have c_1 := hC.2.2.2.2.2.2.2.2.2.2.2; clear hC
          clear hD
          simp only [putL, Act.put, List.setIfInBounds_toArray, List.set_cons_zero, List.set_cons_succ] at hK ⊢
          obtain ⟨kx_0, kx_1, kx_2, kx_3, kx_4, fx_0, fx_1, fx_2, fx_3, fx_4⟩ := box5 x_x
          refine Closed.mk ?_
          go_simp
          exact hK.out _ _ ⟨hA, hN, x_s, x_x, x_t, o_s, o_x, o_ya, o_p, o_q, c_0, c_1⟩ trivial rfl
        · refine GoalL.mk (by rfl) ⟨fun _ _ _ _ _ h => h, fun _ _ _ _ _ _ h => h⟩ ?_
          intro f u wq hf hC hD K hK
          have hA := hC.1; have hN := hC.2.1; have x_s := hC.2.2.1; have x_x := hC.2.2.2.1; have x_t := hC.2.2.2.2.1; have o_s := hC.2.2.2.2.2.1; have o_x := hC.2.2.2.2.2.2.1; have o_ya := hC.2.2.2.2.2.2.2.1; have o_p := hC.2.2.2.2.2.2.2.2.1; have o_q := hC.2.2.2.2.2.2.2.2.2.1; have c_0 := hC.2.2.2.2.2.2.2.2.2.2.1; have c_1 := hC.2.2.2.2.2.2.2.2.2.2.2; clear hC
          have d0 := hD.1; clear hD
          have e0 : u 0 = .agg #[.int .i64 r.room, .slice ax1 r.items.length px1, .slice ax2 r.senders.length px2, .slice ax3 r.getters.length px3, .bool r.closed] := d0; clear d0
          simp only [putL, Act.put, List.setIfInBounds_toArray, List.set_cons_zero, List.set_cons_succ, e0] at hK ⊢
          refine Closed.mk ?_
          go_simp
          refine (ChanValid_calls _ r _ (o_x.row) HM.out).mono ?_
          rw [H1.out]
          rintro e wr ⟨rfl, hb⟩
          exact hK.out _ _ ⟨Below.trans hA (hb.mono hA.size), Nat.le_trans hN hb.size, (below_at hb x_s), (below_at hb x_x), (below_at hb x_t), (o_s.kept hb), (o_x.kept hb), (o_ya.kept hb), (o_p.kept hb), (o_q.kept hb), ((hb.cell (p := ⟨yb, yo, none⟩) (Nat.lt_of_lt_of_le (hylt) hN)).trans c_0), ((hb.cell (p := ⟨gb, go, none⟩) (Nat.lt_of_lt_of_le (hglt) hN)).trans c_1)⟩ trivial rfl
        · refine GoalL.mk (by rfl) ⟨fun _ _ _ _ _ h => h, fun _ _ _ _ _ _ h => h⟩ ?_
          intro f u wq hf hC hD K hK
          have hA := hC.1; have hN := hC.2.1; have x_s := hC.2.2.1; have x_x := hC.2.2.2.1; have x_t := hC.2.2.2.2.1; have o_s := hC.2.2.2.2.2.1; have o_x := hC.2.2.2.2.2.2.1; have o_ya := hC.2.2.2.2.2.2.2.1; have o_p := hC.2.2.2.2.2.2.2.2.1; have o_q := hC.2.2.2.2.2.2.2.2.2.1; have c_0 := hC.2.2.2.2.2.2.2.2.2.2.1; have c_1 := hC.2.2.2.2.2.2.2.2.2.2.2; clear hC
          have d0 := hD.1; have d1 := hD.2.1; clear hD
          have e0 : u 0 = .agg #[.int .i64 r.room, .slice ax1 r.items.length px1, .slice ax2 r.senders.length px2, .slice ax3 r.getters.length px3, .bool r.closed] := d0; clear d0
          have e1 : u 1 = .bool true := d1; clear d1
          simp only [putL, Act.put, List.setIfInBounds_toArray, List.set_cons_zero, List.set_cons_succ, e0, e1] at hK ⊢
          refine Closed.mk ?_
          go_simp
          exact hK.out _ _ ⟨hA, hN, x_s, x_x, x_t, o_s, o_x, o_ya, o_p, o_q, c_0, c_1⟩ trivial rfl
        · refine GoalL.mk (by rfl) ⟨fun _ _ _ _ _ h => h, fun _ _ _ _ _ _ h => h⟩ ?_
          intro f u wq hf hC hD K hK
          have hA := hC.1; have hN := hC.2.1; have x_s := hC.2.2.1; have x_x := hC.2.2.2.1; have x_t := hC.2.2.2.2.1; have o_s := hC.2.2.2.2.2.1; have o_x := hC.2.2.2.2.2.2.1; have o_ya := hC.2.2.2.2.2.2.2.1; have o_p := hC.2.2.2.2.2.2.2.2.1; have o_q := hC.2.2.2.2.2.2.2.2.2.1; have c_0 := hC.2.2.2.2.2.2.2.2.2.2.1; have c_1 := hC.2.2.2.2.2.2.2.2.2.2.2; clear hC
          have d0 := hD.1; have d1 := hD.2.1; have d2 := hD.2.2.1; clear hD
          have e0 : u 0 = .agg #[.int .i64 r.room, .slice ax1 r.items.length px1, .slice ax2 r.senders.length px2, .slice ax3 r.getters.length px3, .bool r.closed] := d0; clear d0
          have e1 : u 1 = .bool true := d1; clear d1
          have e2 : u 2 = .bool true := d2; clear d2
          simp only [putL, Act.put, List.setIfInBounds_toArray, List.set_cons_zero, List.set_cons_succ, e0, e1, e2] at hK ⊢
          refine Closed.mk ?_
          go_simp
          exact hK.out _ _ ⟨hA, hN, x_s, x_x, x_t, o_s, o_x, o_ya, o_p, o_q, c_0, c_1⟩ trivial rfl
        · refine GoalL.mk (by rfl) ⟨fun _ _ _ _ _ h => h, fun _ _ _ _ _ _ h => h⟩ ?_
          intro f u wq hf hC hD K hK
          have hA := hC.1; have hN := hC.2.1; have x_s := hC.2.2.1; have x_x := hC.2.2.2.1; have x_t := hC.2.2.2.2.1; have o_s := hC.2.2.2.2.2.1; have o_x := hC.2.2.2.2.2.2.1; have o_ya := hC.2.2.2.2.2.2.2.1; have o_p := hC.2.2.2.2.2.2.2.2.1; have o_q := hC.2.2.2.2.2.2.2.2.2.1; have c_0 := hC.2.2.2.2.2.2.2.2.2.2.1; have c_1 := hC.2.2.2.2.2.2.2.2.2.2.2; clear hC
          have d0 := hD.1; have d1 := hD.2.1; have d2 := hD.2.2.1; have d3 := hD.2.2.2.1; clear hD
          have e0 : u 0 = .agg #[.int .i64 r.room, .slice ax1 r.items.length px1, .slice ax2 r.senders.length px2, .slice ax3 r.getters.length px3, .bool r.closed] := d0; clear d0
          have e1 : u 1 = .bool true := d1; clear d1
          have e2 : u 2 = .bool true := d2; clear d2
          have e3 : u 3 = .bool true := d3; clear d3
          simp only [putL, Act.put, List.setIfInBounds_toArray, List.set_cons_zero, List.set_cons_succ, e0, e1, e2, e3] at hK ⊢
          refine Closed.mk ?_
          go_simp
          exact hK.out _ _ ⟨hA, hN, x_s, x_x, x_t, o_s, o_x, o_ya, o_p, o_q, c_0, c_1⟩ trivial rfl
        · refine GoalL.mk (by rfl) ⟨fun _ _ _ _ _ h => h, fun _ _ _ _ _ _ h => h⟩ ?_
          intro f u wq hf hC hD K hK
          have hA := hC.1; have hN := hC.2.1; have x_s := hC.2.2.1; have x_x := hC.2.2.2.1; have x_t := hC.2.2.2.2.1; have o_s := hC.2.2.2.2.2.1; have o_x := hC.2.2.2.2.2.2.1; have o_ya := hC.2.2.2.2.2.2.2.1; have o_p := hC.2.2.2.2.2.2.2.2.1; have o_q := hC.2.2.2.2.2.2.2.2.2.1; have c_0 := hC.2.2.2.2.2.2.2.2.2.2.1; have c_1 := hC.2.2.2.2.2.2.2.2.2.2.2; clear hC
          have d0 := hD.1; have d1 := hD.2.1; have d2 := hD.2.2.1; have d3 := hD.2.2.2.1; have d4 := hD.2.2.2.2.1; clear hD
          have e0 : u 0 = .agg #[.int .i64 r.room, .slice ax1 r.items.length px1, .slice ax2 r.senders.length px2, .slice ax3 r.getters.length px3, .bool r.closed] := d0; clear d0
          have e1 : u 1 = .bool true := d1; clear d1
          have e2 : u 2 = .bool true := d2; clear d2
          have e3 : u 3 = .bool true := d3; clear d3
          have e4 : u 4 = .bool true := d4; clear d4
          simp only [putL, Act.put, List.setIfInBounds_toArray, List.set_cons_zero, List.set_cons_succ, e0, e1, e2, e3, e4] at hK ⊢
          refine Closed.mk ?_
          go_simp
          exact hK.out _ _ ⟨hA, hN, x_s, x_x, x_t, o_s, o_x, o_ya, o_p, o_q, c_0, c_1⟩ trivial rfl
        · refine GoalL.mk (by rfl) ⟨fun _ _ _ _ _ h => h, fun _ _ _ _ _ _ h => h⟩ ?_
          intro f u wq hf hC hD K hK
          have hA := hC.1; have hN := hC.2.1; have x_s := hC.2.2.1; have x_x := hC.2.2.2.1; have x_t := hC.2.2.2.2.1; have o_s := hC.2.2.2.2.2.1; have o_x := hC.2.2.2.2.2.2.1; have o_ya := hC.2.2.2.2.2.2.2.1; have o_p := hC.2.2.2.2.2.2.2.2.1; have o_q := hC.2.2.2.2.2.2.2.2.2.1; have c_0 := hC.2.2.2.2.2.2.2.2.2.2.1; have c_1 := hC.2.2.2.2.2.2.2.2.2.2.2; clear hC
          have d0 := hD.1; have d1 := hD.2.1; have d2 := hD.2.2.1; have d3 := hD.2.2.2.1; have d4 := hD.2.2.2.2.1; have d5 := hD.2.2.2.2.2.1; clear hD
          have e0 : u 0 = .agg #[.int .i64 r.room, .slice ax1 r.items.length px1, .slice ax2 r.senders.length px2, .slice ax3 r.getters.length px3, .bool r.closed] := d0; clear d0
          have e1 : u 1 = .bool true := d1; clear d1
          have e2 : u 2 = .bool true := d2; clear d2
          have e3 : u 3 = .bool true := d3; clear d3
          have e4 : u 4 = .bool true := d4; clear d4
          have e5 : u 5 = .bool true := d5; clear d5
          simp only [putL, Act.put, List.setIfInBounds_toArray, List.set_cons_zero, List.set_cons_succ, e0, e1, e2, e3, e4, e5] at hK ⊢
          refine Closed.mk ?_
          go_simp
          exact hK.out _ _ ⟨hA, hN, x_s, x_x, x_t, o_s, o_x, o_ya, o_p, o_q, c_0, c_1⟩ trivial rfl
        · refine GoalL.mk (by rfl) ⟨fun _ _ _ _ _ h => h, fun _ _ _ _ _ _ h => h⟩ ?_
          intro f u wq hf hC hD K hK
          have hA := hC.1; have hN := hC.2.1; have x_s := hC.2.2.1; have x_x := hC.2.2.2.1; have x_t := hC.2.2.2.2.1; have o_s := hC.2.2.2.2.2.1; have o_x := hC.2.2.2.2.2.2.1; have o_ya := hC.2.2.2.2.2.2.2.1; have o_p := hC.2.2.2.2.2.2.2.2.1; have o_q := hC.2.2.2.2.2.2.2.2.2.1; have c_0 := hC.2.2.2.2.2.2.2.2.2.2.1; have c_1 := hC.2.2.2.2.2.2.2.2.2.2.2; clear hC
          have d0 := hD.1; have d1 := hD.2.1; have d2 := hD.2.2.1; have d3 := hD.2.2.2.1; have d4 := hD.2.2.2.2.1; have d5 := hD.2.2.2.2.2.1; have d6 := hD.2.2.2.2.2.2.1; clear hD
          have e0 : u 0 = .agg #[.int .i64 r.room, .slice ax1 r.items.length px1, .slice ax2 r.senders.length px2, .slice ax3 r.getters.length px3, .bool r.closed] := d0; clear d0
          have e1 : u 1 = .bool true := d1; clear d1
          have e2 : u 2 = .bool true := d2; clear d2
          have e3 : u 3 = .bool true := d3; clear d3
          have e4 : u 4 = .bool true := d4; clear d4
          have e5 : u 5 = .bool true := d5; clear d5
          have e6 : u 6 = .slice (some ⟨yb, yo, none⟩) y.length pya := d6; clear d6
          simp only [putL, Act.put, List.setIfInBounds_toArray, List.set_cons_zero, List.set_cons_succ, e0, e1, e2, e3, e4, e5, e6] at hK ⊢
          refine Closed.mk ?_
          go_simp
          exact hK.out _ _ ⟨hA, hN, x_s, x_x, x_t, o_s, o_x, o_ya, o_p, o_q, c_0, c_1⟩ trivial rfl
        · refine GoalL.mk (by rfl) ⟨fun _ _ _ _ _ h => h, fun _ _ _ _ _ _ h => h⟩ ?_
          intro f u wq hf hC hD K hK
          have hA := hC.1; have hN := hC.2.1; have x_s := hC.2.2.1; have x_x := hC.2.2.2.1; have x_t := hC.2.2.2.2.1; have o_s := hC.2.2.2.2.2.1; have o_x := hC.2.2.2.2.2.2.1; have o_ya := hC.2.2.2.2.2.2.2.1; have o_p := hC.2.2.2.2.2.2.2.2.1; have o_q := hC.2.2.2.2.2.2.2.2.2.1; have c_0 := hC.2.2.2.2.2.2.2.2.2.2.1; have c_1 := hC.2.2.2.2.2.2.2.2.2.2.2; clear hC
          have d0 := hD.1; have d1 := hD.2.1; have d2 := hD.2.2.1; have d3 := hD.2.2.2.1; have d4 := hD.2.2.2.2.1; have d5 := hD.2.2.2.2.2.1; have d6 := hD.2.2.2.2.2.2.1; have d7 := hD.2.2.2.2.2.2.2.1; clear hD
          have e0 : u 0 = .agg #[.int .i64 r.room, .slice ax1 r.items.length px1, .slice ax2 r.senders.length px2, .slice ax3 r.getters.length px3, .bool r.closed] := d0; clear d0
          have e1 : u 1 = .bool true := d1; clear d1
          have e2 : u 2 = .bool true := d2; clear d2
          have e3 : u 3 = .bool true := d3; clear d3
          have e4 : u 4 = .bool true := d4; clear d4
          have e5 : u 5 = .bool true := d5; clear d5
          have e6 : u 6 = .slice (some ⟨yb, yo, none⟩) y.length pya := d6; clear d6
          have e7 : u 7 = .pointer (some ⟨yb, yo, none⟩) := d7; clear d7
          simp only [putL, Act.put, List.setIfInBounds_toArray, List.set_cons_zero, List.set_cons_succ, e0, e1, e2, e3, e4, e5, e6, e7] at hK ⊢
          refine Closed.mk ?_
          go_simp
          exact hK.out _ _ ⟨hA, hN, x_s, x_x, x_t, o_s, o_x, o_ya, o_p, o_q, c_0, c_1⟩ trivial rfl
        · refine GoalL.mk (by rfl) ⟨fun _ _ _ _ _ h => h, fun _ _ _ _ _ _ h => h⟩ ?_
          intro f u wq hf hC hD K hK
          have hA := hC.1; have hN := hC.2.1; have x_s := hC.2.2.1; have x_x := hC.2.2.2.1; have x_t := hC.2.2.2.2.1; have o_s := hC.2.2.2.2.2.1; have o_x := hC.2.2.2.2.2.2.1; have o_ya := hC.2.2.2.2.2.2.2.1; have o_p := hC.2.2.2.2.2.2.2.2.1; have o_q := hC.2.2.2.2.2.2.2.2.2.1; have c_0 := hC.2.2.2.2.2.2.2.2.2.2.1; have c_1 := hC.2.2.2.2.2.2.2.2.2.2.2; clear hC
          have d0 := hD.1; have d1 := hD.2.1; have d2 := hD.2.2.1; have d3 := hD.2.2.2.1; have d4 := hD.2.2.2.2.1; have d5 := hD.2.2.2.2.2.1; clear hD
          have e0 : u 0 = .agg #[.int .i64 r.room, .slice ax1 r.items.length px1, .slice ax2 r.senders.length px2, .slice ax3 r.getters.length px3, .bool r.closed] := d0; clear d0
          have e1 : u 1 = .bool true := d1; clear d1
          have e2 : u 2 = .bool true := d2; clear d2
          have e3 : u 3 = .bool true := d3; clear d3
          have e4 : u 4 = .bool true := d4; clear d4
          have e5 : u 5 = .bool true := d5; clear d5
          simp only [putL, Act.put, List.setIfInBounds_toArray, List.set_cons_zero, List.set_cons_succ, e0, e1, e2, e3, e4, e5] at hK ⊢
          refine Closed.mk ?_
          go_simp
          exact hK.out _ _ ⟨hA, hN, x_s, x_x, x_t, o_s, o_x, o_ya, o_p, o_q, c_0, c_1⟩ trivial rfl
        · refine GoalL.mk (by rfl) ⟨fun _ _ _ _ _ h => h, fun _ _ _ _ _ _ h => h⟩ ?_
          intro f u wq hf hC hD K hK
          have hA := hC.1; have hN := hC.2.1; have x_s := hC.2.2.1; have x_x := hC.2.2.2.1; have x_t := hC.2.2.2.2.1; have o_s := hC.2.2.2.2.2.1; have o_x := hC.2.2.2.2.2.2.1; have o_ya := hC.2.2.2.2.2.2.2.1; have o_p := hC.2.2.2.2.2.2.2.2.1; have o_q := hC.2.2.2.2.2.2.2.2.2.1; have c_0 := hC.2.2.2.2.2.2.2.2.2.2.1; have c_1 := hC.2.2.2.2.2.2.2.2.2.2.2; clear hC
          have d0 := hD.1; have d1 := hD.2.1; have d2 := hD.2.2.1; have d3 := hD.2.2.2.1; have d4 := hD.2.2.2.2.1; have d5 := hD.2.2.2.2.2.1; have d9 := hD.2.2.2.2.2.2.1; clear hD
          have e0 : u 0 = .agg #[.int .i64 r.room, .slice ax1 r.items.length px1, .slice ax2 r.senders.length px2, .slice ax3 r.getters.length px3, .bool r.closed] := d0; clear d0
          have e1 : u 1 = .bool true := d1; clear d1
          have e2 : u 2 = .bool true := d2; clear d2
          have e3 : u 3 = .bool true := d3; clear d3
          have e4 : u 4 = .bool true := d4; clear d4
          have e5 : u 5 = .bool true := d5; clear d5
          have e9 : u 9 = .pointer (some ⟨w1.heap.size, 3, none⟩) := d9; clear d9
          simp only [putL, Act.put, List.setIfInBounds_toArray, List.set_cons_zero, List.set_cons_succ, e0, e1, e2, e3, e4, e5, e9] at hK ⊢
          obtain ⟨ks_0, ks_1, ks_2, ks_3, ks_4, fs_0, fs_1, fs_2, fs_3, fs_4⟩ := box5 x_s
          refine Closed.mk ?_
          go_simp
          exact hK.out _ _ ⟨hA, hN, x_s, x_x, x_t, o_s, o_x, o_ya, o_p, o_q, c_0, c_1⟩ trivial rfl
        · refine GoalL.mk (by rfl) ⟨fun _ _ _ _ _ h => h, fun _ _ _ _ _ _ h => h⟩ ?_
          intro f u wq hf hC hD K hK
          have hA := hC.1; have hN := hC.2.1; have x_s := hC.2.2.1; have x_x := hC.2.2.2.1; have x_t := hC.2.2.2.2.1; have o_s := hC.2.2.2.2.2.1; have o_x := hC.2.2.2.2.2.2.1; have o_ya := hC.2.2.2.2.2.2.2.1; have o_p := hC.2.2.2.2.2.2.2.2.1; have o_q := hC.2.2.2.2.2.2.2.2.2.1; have c_0 := hC.2.2.2.2.2.2.2.2.2.2.1; have c_1 := hC.2.2.2.2.2.2.2.2.2.2.2; clear hC
          have d0 := hD.1; have d1 := hD.2.1; have d2 := hD.2.2.1; have d3 := hD.2.2.2.1; have d4 := hD.2.2.2.2.1; have d5 := hD.2.2.2.2.2.1; have d9 := hD.2.2.2.2.2.2.1; have d10 := hD.2.2.2.2.2.2.2.1; clear hD
          have e0 : u 0 = .agg #[.int .i64 r.room, .slice ax1 r.items.length px1, .slice ax2 r.senders.length px2, .slice ax3 r.getters.length px3, .bool r.closed] := d0; clear d0
          have e1 : u 1 = .bool true := d1; clear d1
          have e2 : u 2 = .bool true := d2; clear d2
          have e3 : u 3 = .bool true := d3; clear d3
          have e4 : u 4 = .bool true := d4; clear d4
          have e5 : u 5 = .bool true := d5; clear d5
          have e9 : u 9 = .pointer (some ⟨w1.heap.size, 3, none⟩) := d9; clear d9
          have e10 : u 10 = .slice (some ⟨gb, go, none⟩) cs.getters.length ps3 := d10; clear d10
          simp only [putL, Act.put, List.setIfInBounds_toArray, List.set_cons_zero, List.set_cons_succ, e0, e1, e2, e3, e4, e5, e9, e10] at hK ⊢
          refine Closed.mk ?_
          go_simp
          exact hK.out _ _ ⟨hA, hN, x_s, x_x, x_t, o_s, o_x, o_ya, o_p, o_q, c_0, c_1⟩ trivial rfl
        · refine GoalL.mk (by rfl) ⟨fun _ _ _ _ _ h => h, fun _ _ _ _ _ _ h => h⟩ ?_
          intro f u wq hf hC hD K hK
          have hA := hC.1; have hN := hC.2.1; have x_s := hC.2.2.1; have x_x := hC.2.2.2.1; have x_t := hC.2.2.2.2.1; have o_s := hC.2.2.2.2.2.1; have o_x := hC.2.2.2.2.2.2.1; have o_ya := hC.2.2.2.2.2.2.2.1; have o_p := hC.2.2.2.2.2.2.2.2.1; have o_q := hC.2.2.2.2.2.2.2.2.2.1; have c_0 := hC.2.2.2.2.2.2.2.2.2.2.1; have c_1 := hC.2.2.2.2.2.2.2.2.2.2.2; clear hC
          have d0 := hD.1; have d1 := hD.2.1; have d2 := hD.2.2.1; have d3 := hD.2.2.2.1; have d4 := hD.2.2.2.2.1; have d5 := hD.2.2.2.2.2.1; have d9 := hD.2.2.2.2.2.2.1; have d10 := hD.2.2.2.2.2.2.2.1; have d11 := hD.2.2.2.2.2.2.2.2.1; clear hD
          have e0 : u 0 = .agg #[.int .i64 r.room, .slice ax1 r.items.length px1, .slice ax2 r.senders.length px2, .slice ax3 r.getters.length px3, .bool r.closed] := d0; clear d0
          have e1 : u 1 = .bool true := d1; clear d1
          have e2 : u 2 = .bool true := d2; clear d2
          have e3 : u 3 = .bool true := d3; clear d3
          have e4 : u 4 = .bool true := d4; clear d4
          have e5 : u 5 = .bool true := d5; clear d5
          have e9 : u 9 = .pointer (some ⟨w1.heap.size, 3, none⟩) := d9; clear d9
          have e10 : u 10 = .slice (some ⟨gb, go, none⟩) cs.getters.length ps3 := d10; clear d10
          have e11 : u 11 = .pointer (some ⟨gb, go, none⟩) := d11; clear d11
          simp only [putL, Act.put, List.setIfInBounds_toArray, List.set_cons_zero, List.set_cons_succ, e0, e1, e2, e3, e4, e5, e9, e10, e11] at hK ⊢
          refine Closed.mk ?_
          go_simp
          exact hK.out _ _ ⟨hA, hN, x_s, x_x, x_t, o_s, o_x, o_ya, o_p, o_q, c_0, c_1⟩ trivial rfl
        · refine GoalL.mk (by rfl) ⟨fun _ _ _ _ _ h => h, fun _ _ _ _ _ _ h => h⟩ ?_
          intro f u wq hf hC hD K hK
          have hA := hC.1; have hN := hC.2.1; have x_s := hC.2.2.1; have x_x := hC.2.2.2.1; have x_t := hC.2.2.2.2.1; have o_s := hC.2.2.2.2.2.1; have o_x := hC.2.2.2.2.2.2.1; have o_ya := hC.2.2.2.2.2.2.2.1; have o_p := hC.2.2.2.2.2.2.2.2.1; have o_q := hC.2.2.2.2.2.2.2.2.2.1; have c_0 := hC.2.2.2.2.2.2.2.2.2.2.1; have c_1 := hC.2.2.2.2.2.2.2.2.2.2.2; clear hC
          have d0 := hD.1; have d1 := hD.2.1; have d2 := hD.2.2.1; have d3 := hD.2.2.2.1; have d4 := hD.2.2.2.2.1; have d5 := hD.2.2.2.2.2.1; have d6 := hD.2.2.2.2.2.2.1; have d7 := hD.2.2.2.2.2.2.2.1; have d8 := hD.2.2.2.2.2.2.2.2.1; have d9 := hD.2.2.2.2.2.2.2.2.2.1; have d10 := hD.2.2.2.2.2.2.2.2.2.2.1; have d11 := hD.2.2.2.2.2.2.2.2.2.2.2.1; have d12 := hD.2.2.2.2.2.2.2.2.2.2.2.2.1; clear hD
          have e0 : u 0 = .agg #[.int .i64 r.room, .slice ax1 r.items.length px1, .slice ax2 r.senders.length px2, .slice ax3 r.getters.length px3, .bool r.closed] := d0; clear d0
          have e1 : u 1 = .bool true := d1; clear d1
          have e2 : u 2 = .bool true := d2; clear d2
          have e3 : u 3 = .bool true := d3; clear d3
          have e4 : u 4 = .bool true := d4; clear d4
          have e5 : u 5 = .bool true := d5; clear d5
          have e6 : u 6 = .slice (some ⟨yb, yo, none⟩) y.length pya := d6; clear d6
          have e7 : u 7 = .pointer (some ⟨yb, yo, none⟩) := d7; clear d7
          have e8 : u 8 = .int .i64 g0 := d8; clear d8
          have e9 : u 9 = .pointer (some ⟨w1.heap.size, 3, none⟩) := d9; clear d9
          have e10 : u 10 = .slice (some ⟨gb, go, none⟩) cs.getters.length ps3 := d10; clear d10
          have e11 : u 11 = .pointer (some ⟨gb, go, none⟩) := d11; clear d11
          have e12 : u 12 = .int .i64 g0 := d12; clear d12
          simp only [putL, Act.put, List.setIfInBounds_toArray, List.set_cons_zero, List.set_cons_succ, e0, e1, e2, e3, e4, e5, e6, e7, e8, e9, e10, e11, e12] at hK ⊢
          refine Closed.mk ?_
          go_simp
          exact hK.out _ _ ⟨hA, hN, x_s, x_x, x_t, o_s, o_x, o_ya, o_p, o_q, c_0, c_1⟩ trivial rfl
        · refine GoalL.mk (by rfl) ⟨fun _ _ _ _ _ h => h, fun _ _ _ _ _ _ h => h⟩ ?_
          intro f u wq hf hC hD K hK
          have hA := hC.1; have hN := hC.2.1; have x_s := hC.2.2.1; have x_x := hC.2.2.2.1; have x_t := hC.2.2.2.2.1; have o_s := hC.2.2.2.2.2.1; have o_x := hC.2.2.2.2.2.2.1; have o_ya := hC.2.2.2.2.2.2.2.1; have o_p := hC.2.2.2.2.2.2.2.2.1; have o_q := hC.2.2.2.2.2.2.2.2.2.1; have c_0 := hC.2.2.2.2.2.2.2.2.2.2.1; have c_1 := hC.2.2.2.2.2.2.2.2.2.2.2; clear hC
          have d0 := hD.1; have d1 := hD.2.1; have d2 := hD.2.2.1; have d3 := hD.2.2.2.1; have d4 := hD.2.2.2.2.1; have d5 := hD.2.2.2.2.2.1; have d6 := hD.2.2.2.2.2.2.1; have d7 := hD.2.2.2.2.2.2.2.1; have d8 := hD.2.2.2.2.2.2.2.2.1; have d9 := hD.2.2.2.2.2.2.2.2.2.1; have d10 := hD.2.2.2.2.2.2.2.2.2.2.1; have d11 := hD.2.2.2.2.2.2.2.2.2.2.2.1; have d12 := hD.2.2.2.2.2.2.2.2.2.2.2.2.1; have d13 := hD.2.2.2.2.2.2.2.2.2.2.2.2.2.1; clear hD
          have e0 : u 0 = .agg #[.int .i64 r.room, .slice ax1 r.items.length px1, .slice ax2 r.senders.length px2, .slice ax3 r.getters.length px3, .bool r.closed] := d0; clear d0
          have e1 : u 1 = .bool true := d1; clear d1
          have e2 : u 2 = .bool true := d2; clear d2
          have e3 : u 3 = .bool true := d3; clear d3
          have e4 : u 4 = .bool true := d4; clear d4
          have e5 : u 5 = .bool true := d5; clear d5
          have e6 : u 6 = .slice (some ⟨yb, yo, none⟩) y.length pya := d6; clear d6
          have e7 : u 7 = .pointer (some ⟨yb, yo, none⟩) := d7; clear d7
          have e8 : u 8 = .int .i64 g0 := d8; clear d8
          have e9 : u 9 = .pointer (some ⟨w1.heap.size, 3, none⟩) := d9; clear d9
          have e10 : u 10 = .slice (some ⟨gb, go, none⟩) cs.getters.length ps3 := d10; clear d10
          have e11 : u 11 = .pointer (some ⟨gb, go, none⟩) := d11; clear d11
          have e12 : u 12 = .int .i64 g0 := d12; clear d12
          have e13 : u 13 = .bool true := d13; clear d13
          simp only [putL, Act.put, List.setIfInBounds_toArray, List.set_cons_zero, List.set_cons_succ, e0, e1, e2, e3, e4, e5, e6, e7, e8, e9, e10, e11, e12, e13] at hK ⊢
          refine Closed.mk ?_
          go_simp
          exact hK.out _ _ ⟨hA, hN, x_s, x_x, x_t, o_s, o_x, o_ya, o_p, o_q, c_0, c_1⟩ trivial rfl
        · refine GoalL.mk (by rfl) ⟨fun _ _ _ _ _ h => h, fun _ _ _ _ _ _ h => h⟩ ?_
          intro f u wq hf hC hD K hK
          have hA := hC.1; have hN := hC.2.1; have x_s := hC.2.2.1; have x_x := hC.2.2.2.1; have x_t := hC.2.2.2.2.1; have o_s := hC.2.2.2.2.2.1; have o_x := hC.2.2.2.2.2.2.1; have o_ya := hC.2.2.2.2.2.2.2.1; have o_p := hC.2.2.2.2.2.2.2.2.1; have o_q := hC.2.2.2.2.2.2.2.2.2.1; have c_0 := hC.2.2.2.2.2.2.2.2.2.2.1; have c_1 := hC.2.2.2.2.2.2.2.2.2.2.2; clear hC
          have d0 := hD.1; have d1 := hD.2.1; have d2 := hD.2.2.1; have d3 := hD.2.2.2.1; have d4 := hD.2.2.2.2.1; have d5 := hD.2.2.2.2.2.1; have d6 := hD.2.2.2.2.2.2.1; have d7 := hD.2.2.2.2.2.2.2.1; have d8 := hD.2.2.2.2.2.2.2.2.1; have d9 := hD.2.2.2.2.2.2.2.2.2.1; have d10 := hD.2.2.2.2.2.2.2.2.2.2.1; have d11 := hD.2.2.2.2.2.2.2.2.2.2.2.1; have d12 := hD.2.2.2.2.2.2.2.2.2.2.2.2.1; have d13 := hD.2.2.2.2.2.2.2.2.2.2.2.2.2.1; have d14 := hD.2.2.2.2.2.2.2.2.2.2.2.2.2.2.1; clear hD
          have e0 : u 0 = .agg #[.int .i64 r.room, .slice ax1 r.items.length px1, .slice ax2 r.senders.length px2, .slice ax3 r.getters.length px3, .bool r.closed] := d0; clear d0
          have e1 : u 1 = .bool true := d1; clear d1
          have e2 : u 2 = .bool true := d2; clear d2
          have e3 : u 3 = .bool true := d3; clear d3
          have e4 : u 4 = .bool true := d4; clear d4
          have e5 : u 5 = .bool true := d5; clear d5
          have e6 : u 6 = .slice (some ⟨yb, yo, none⟩) y.length pya := d6; clear d6
          have e7 : u 7 = .pointer (some ⟨yb, yo, none⟩) := d7; clear d7
          have e8 : u 8 = .int .i64 g0 := d8; clear d8
          have e9 : u 9 = .pointer (some ⟨w1.heap.size, 3, none⟩) := d9; clear d9
          have e10 : u 10 = .slice (some ⟨gb, go, none⟩) cs.getters.length ps3 := d10; clear d10
          have e11 : u 11 = .pointer (some ⟨gb, go, none⟩) := d11; clear d11
          have e12 : u 12 = .int .i64 g0 := d12; clear d12
          have e13 : u 13 = .bool true := d13; clear d13
          have e14 : u 14 = .bool true := d14; clear d14
          simp only [putL, Act.put, List.setIfInBounds_toArray, List.set_cons_zero, List.set_cons_succ, e0, e1, e2, e3, e4, e5, e6, e7, e8, e9, e10, e11, e12, e13, e14] at hK ⊢
          refine Closed.mk ?_
          go_simp
          exact hK.out _ _ ⟨hA, hN, x_s, x_x, x_t, o_s, o_x, o_ya, o_p, o_q, c_0, c_1⟩ trivial rfl
        · refine GoalL.mk (by rfl) ⟨fun _ _ _ _ _ h => h, fun _ _ _ _ _ _ h => h⟩ ?_
          intro f u wq hf hC hD K hK
          have hA := hC.1; have hN := hC.2.1; have x_s := hC.2.2.1; have x_x := hC.2.2.2.1; have x_t := hC.2.2.2.2.1; have o_s := hC.2.2.2.2.2.1; have o_x := hC.2.2.2.2.2.2.1; have o_ya := hC.2.2.2.2.2.2.2.1; have o_p := hC.2.2.2.2.2.2.2.2.1; have o_q := hC.2.2.2.2.2.2.2.2.2.1; have c_0 := hC.2.2.2.2.2.2.2.2.2.2.1; have c_1 := hC.2.2.2.2.2.2.2.2.2.2.2; clear hC
          have d0 := hD.1; have d1 := hD.2.1; have d2 := hD.2.2.1; have d3 := hD.2.2.2.1; have d4 := hD.2.2.2.2.1; have d5 := hD.2.2.2.2.2.1; have d6 := hD.2.2.2.2.2.2.1; have d7 := hD.2.2.2.2.2.2.2.1; have d8 := hD.2.2.2.2.2.2.2.2.1; have d9 := hD.2.2.2.2.2.2.2.2.2.1; have d10 := hD.2.2.2.2.2.2.2.2.2.2.1; have d11 := hD.2.2.2.2.2.2.2.2.2.2.2.1; have d12 := hD.2.2.2.2.2.2.2.2.2.2.2.2.1; have d13 := hD.2.2.2.2.2.2.2.2.2.2.2.2.2.1; have d14 := hD.2.2.2.2.2.2.2.2.2.2.2.2.2.2.1; have d15 := hD.2.2.2.2.2.2.2.2.2.2.2.2.2.2.2.1; clear hD
          have e0 : u 0 = .agg #[.int .i64 r.room, .slice ax1 r.items.length px1, .slice ax2 r.senders.length px2, .slice ax3 r.getters.length px3, .bool r.closed] := d0; clear d0
          have e1 : u 1 = .bool true := d1; clear d1
          have e2 : u 2 = .bool true := d2; clear d2
          have e3 : u 3 = .bool true := d3; clear d3
          have e4 : u 4 = .bool true := d4; clear d4
          have e5 : u 5 = .bool true := d5; clear d5
          have e6 : u 6 = .slice (some ⟨yb, yo, none⟩) y.length pya := d6; clear d6
          have e7 : u 7 = .pointer (some ⟨yb, yo, none⟩) := d7; clear d7
          have e8 : u 8 = .int .i64 g0 := d8; clear d8
          have e9 : u 9 = .pointer (some ⟨w1.heap.size, 3, none⟩) := d9; clear d9
          have e10 : u 10 = .slice (some ⟨gb, go, none⟩) cs.getters.length ps3 := d10; clear d10
          have e11 : u 11 = .pointer (some ⟨gb, go, none⟩) := d11; clear d11
          have e12 : u 12 = .int .i64 g0 := d12; clear d12
          have e13 : u 13 = .bool true := d13; clear d13
          have e14 : u 14 = .bool true := d14; clear d14
          have e15 : u 15 = .bool true := d15; clear d15
          simp only [putL, Act.put, List.setIfInBounds_toArray, List.set_cons_zero, List.set_cons_succ, e0, e1, e2, e3, e4, e5, e6, e7, e8, e9, e10, e11, e12, e13, e14, e15] at hK ⊢
          refine Closed.mk ?_
          go_simp
          exact hK.out _ _ ⟨hA, hN, x_s, x_x, x_t, o_s, o_x, o_ya, o_p, o_q, c_0, c_1⟩ trivial rfl
        · refine GoalL.mk (by rfl) ⟨fun _ _ _ _ _ h => h, fun _ _ _ _ _ _ h => h⟩ ?_
          intro f u wq hf hC hD K hK
          have hA := hC.1; have hN := hC.2.1; have x_s := hC.2.2.1; have x_x := hC.2.2.2.1; have x_t := hC.2.2.2.2.1; have o_s := hC.2.2.2.2.2.1; have o_x := hC.2.2.2.2.2.2.1; have o_ya := hC.2.2.2.2.2.2.2.1; have o_p := hC.2.2.2.2.2.2.2.2.1; have o_q := hC.2.2.2.2.2.2.2.2.2.1; have c_0 := hC.2.2.2.2.2.2.2.2.2.2.1; have c_1 := hC.2.2.2.2.2.2.2.2.2.2.2; clear hC
          have d0 := hD.1; have d1 := hD.2.1; have d2 := hD.2.2.1; have d3 := hD.2.2.2.1; have d4 := hD.2.2.2.2.1; have d5 := hD.2.2.2.2.2.1; have d6 := hD.2.2.2.2.2.2.1; have d7 := hD.2.2.2.2.2.2.2.1; have d8 := hD.2.2.2.2.2.2.2.2.1; have d9 := hD.2.2.2.2.2.2.2.2.2.1; have d10 := hD.2.2.2.2.2.2.2.2.2.2.1; have d11 := hD.2.2.2.2.2.2.2.2.2.2.2.1; have d12 := hD.2.2.2.2.2.2.2.2.2.2.2.2.1; have d13 := hD.2.2.2.2.2.2.2.2.2.2.2.2.2.1; have d14 := hD.2.2.2.2.2.2.2.2.2.2.2.2.2.2.1; have d15 := hD.2.2.2.2.2.2.2.2.2.2.2.2.2.2.2.1; have d16 := hD.2.2.2.2.2.2.2.2.2.2.2.2.2.2.2.2.1; clear hD
          have e0 : u 0 = .agg #[.int .i64 r.room, .slice ax1 r.items.length px1, .slice ax2 r.senders.length px2, .slice ax3 r.getters.length px3, .bool r.closed] := d0; clear d0
          have e1 : u 1 = .bool true := d1; clear d1
          have e2 : u 2 = .bool true := d2; clear d2
          have e3 : u 3 = .bool true := d3; clear d3
          have e4 : u 4 = .bool true := d4; clear d4
          have e5 : u 5 = .bool true := d5; clear d5
          have e6 : u 6 = .slice (some ⟨yb, yo, none⟩) y.length pya := d6; clear d6
          have e7 : u 7 = .pointer (some ⟨yb, yo, none⟩) := d7; clear d7
          have e8 : u 8 = .int .i64 g0 := d8; clear d8
          have e9 : u 9 = .pointer (some ⟨w1.heap.size, 3, none⟩) := d9; clear d9
          have e10 : u 10 = .slice (some ⟨gb, go, none⟩) cs.getters.length ps3 := d10; clear d10
          have e11 : u 11 = .pointer (some ⟨gb, go, none⟩) := d11; clear d11
          have e12 : u 12 = .int .i64 g0 := d12; clear d12
          have e13 : u 13 = .bool true := d13; clear d13
          have e14 : u 14 = .bool true := d14; clear d14
          have e15 : u 15 = .bool true := d15; clear d15
          have e16 : u 16 = .bool true := d16; clear d16
          simp only [putL, Act.put, List.setIfInBounds_toArray, List.set_cons_zero, List.set_cons_succ, e0, e1, e2, e3, e4, e5, e6, e7, e8, e9, e10, e11, e12, e13, e14, e15, e16] at hK ⊢
          refine Closed.mk ?_
          go_simp
          exact hK.out _ _ ⟨hA, hN, x_s, x_x, x_t, o_s, o_x, o_ya, o_p, o_q, c_0, c_1⟩ trivial rfl
        · refine GoalL.mk (by rfl) ⟨fun _ _ _ _ _ h => h, fun _ _ _ _ _ _ h => h⟩ ?_
          intro f u wq hf hC hD K hK
          have hA := hC.1; have hN := hC.2.1; have x_s := hC.2.2.1; have x_x := hC.2.2.2.1; have x_t := hC.2.2.2.2.1; have o_s := hC.2.2.2.2.2.1; have o_x := hC.2.2.2.2.2.2.1; have o_ya := hC.2.2.2.2.2.2.2.1; have o_p := hC.2.2.2.2.2.2.2.2.1; have o_q := hC.2.2.2.2.2.2.2.2.2.1; have c_0 := hC.2.2.2.2.2.2.2.2.2.2.1; have c_1 := hC.2.2.2.2.2.2.2.2.2.2.2; clear hC
          have d0 := hD.1; have d1 := hD.2.1; have d2 := hD.2.2.1; have d3 := hD.2.2.2.1; have d4 := hD.2.2.2.2.1; have d5 := hD.2.2.2.2.2.1; have d6 := hD.2.2.2.2.2.2.1; have d7 := hD.2.2.2.2.2.2.2.1; have d8 := hD.2.2.2.2.2.2.2.2.1; have d9 := hD.2.2.2.2.2.2.2.2.2.1; have d10 := hD.2.2.2.2.2.2.2.2.2.2.1; have d11 := hD.2.2.2.2.2.2.2.2.2.2.2.1; have d12 := hD.2.2.2.2.2.2.2.2.2.2.2.2.1; have d13 := hD.2.2.2.2.2.2.2.2.2.2.2.2.2.1; have d14 := hD.2.2.2.2.2.2.2.2.2.2.2.2.2.2.1; have d15 := hD.2.2.2.2.2.2.2.2.2.2.2.2.2.2.2.1; have d16 := hD.2.2.2.2.2.2.2.2.2.2.2.2.2.2.2.2.1; have d17 := hD.2.2.2.2.2.2.2.2.2.2.2.2.2.2.2.2.2.1; clear hD
          have e0 : u 0 = .agg #[.int .i64 r.room, .slice ax1 r.items.length px1, .slice ax2 r.senders.length px2, .slice ax3 r.getters.length px3, .bool r.closed] := d0; clear d0
          have e1 : u 1 = .bool true := d1; clear d1
          have e2 : u 2 = .bool true := d2; clear d2
          have e3 : u 3 = .bool true := d3; clear d3
          have e4 : u 4 = .bool true := d4; clear d4
          have e5 : u 5 = .bool true := d5; clear d5
          have e6 : u 6 = .slice (some ⟨yb, yo, none⟩) y.length pya := d6; clear d6
          have e7 : u 7 = .pointer (some ⟨yb, yo, none⟩) := d7; clear d7
          have e8 : u 8 = .int .i64 g0 := d8; clear d8
          have e9 : u 9 = .pointer (some ⟨w1.heap.size, 3, none⟩) := d9; clear d9
          have e10 : u 10 = .slice (some ⟨gb, go, none⟩) cs.getters.length ps3 := d10; clear d10
          have e11 : u 11 = .pointer (some ⟨gb, go, none⟩) := d11; clear d11
          have e12 : u 12 = .int .i64 g0 := d12; clear d12
          have e13 : u 13 = .bool true := d13; clear d13
          have e14 : u 14 = .bool true := d14; clear d14
          have e15 : u 15 = .bool true := d15; clear d15
          have e16 : u 16 = .bool true := d16; clear d16
          have e17 : u 17 = .bool true := d17; clear d17
          simp only [putL, Act.put, List.setIfInBounds_toArray, List.set_cons_zero, List.set_cons_succ, e0, e1, e2, e3, e4, e5, e6, e7, e8, e9, e10, e11, e12, e13, e14, e15, e16, e17] at hK ⊢
          refine Closed.mk ?_
          go_simp
          exact hK.out _ _ ⟨hA, hN, x_s, x_x, x_t, o_s, o_x, o_ya, o_p, o_q, c_0, c_1⟩ trivial rfl
        · refine GoalL.mk (by rfl) ⟨fun _ _ _ _ _ h => h, fun _ _ _ _ _ _ h => h⟩ ?_
          intro f u wq hf hC hD K hK
          have hA := hC.1; have hN := hC.2.1; have x_s := hC.2.2.1; have x_x := hC.2.2.2.1; have x_t := hC.2.2.2.2.1; have o_s := hC.2.2.2.2.2.1; have o_x := hC.2.2.2.2.2.2.1; have o_ya := hC.2.2.2.2.2.2.2.1; have o_p := hC.2.2.2.2.2.2.2.2.1; have o_q := hC.2.2.2.2.2.2.2.2.2.1; have c_0 := hC.2.2.2.2.2.2.2.2.2.2.1; have c_1 := hC.2.2.2.2.2.2.2.2.2.2.2; clear hC
          have d0 := hD.1; have d1 := hD.2.1; have d2 := hD.2.2.1; have d3 := hD.2.2.2.1; have d4 := hD.2.2.2.2.1; have d5 := hD.2.2.2.2.2.1; have d6 := hD.2.2.2.2.2.2.1; have d7 := hD.2.2.2.2.2.2.2.1; have d8 := hD.2.2.2.2.2.2.2.2.1; have d9 := hD.2.2.2.2.2.2.2.2.2.1; have d10 := hD.2.2.2.2.2.2.2.2.2.2.1; have d11 := hD.2.2.2.2.2.2.2.2.2.2.2.1; have d12 := hD.2.2.2.2.2.2.2.2.2.2.2.2.1; have d13 := hD.2.2.2.2.2.2.2.2.2.2.2.2.2.1; have d14 := hD.2.2.2.2.2.2.2.2.2.2.2.2.2.2.1; have d15 := hD.2.2.2.2.2.2.2.2.2.2.2.2.2.2.2.1; have d16 := hD.2.2.2.2.2.2.2.2.2.2.2.2.2.2.2.2.1; have d17 := hD.2.2.2.2.2.2.2.2.2.2.2.2.2.2.2.2.2.1; have d18 := hD.2.2.2.2.2.2.2.2.2.2.2.2.2.2.2.2.2.2.1; clear hD
          have e0 : u 0 = .agg #[.int .i64 r.room, .slice ax1 r.items.length px1, .slice ax2 r.senders.length px2, .slice ax3 r.getters.length px3, .bool r.closed] := d0; clear d0
          have e1 : u 1 = .bool true := d1; clear d1
          have e2 : u 2 = .bool true := d2; clear d2
          have e3 : u 3 = .bool true := d3; clear d3
          have e4 : u 4 = .bool true := d4; clear d4
          have e5 : u 5 = .bool true := d5; clear d5
          have e6 : u 6 = .slice (some ⟨yb, yo, none⟩) y.length pya := d6; clear d6
          have e7 : u 7 = .pointer (some ⟨yb, yo, none⟩) := d7; clear d7
          have e8 : u 8 = .int .i64 g0 := d8; clear d8
          have e9 : u 9 = .pointer (some ⟨w1.heap.size, 3, none⟩) := d9; clear d9
          have e10 : u 10 = .slice (some ⟨gb, go, none⟩) cs.getters.length ps3 := d10; clear d10
          have e11 : u 11 = .pointer (some ⟨gb, go, none⟩) := d11; clear d11
          have e12 : u 12 = .int .i64 g0 := d12; clear d12
          have e13 : u 13 = .bool true := d13; clear d13
          have e14 : u 14 = .bool true := d14; clear d14
          have e15 : u 15 = .bool true := d15; clear d15
          have e16 : u 16 = .bool true := d16; clear d16
          have e17 : u 17 = .bool true := d17; clear d17
          have e18 : u 18 = .bool true := d18; clear d18
          simp only [putL, Act.put, List.setIfInBounds_toArray, List.set_cons_zero, List.set_cons_succ, e0, e1, e2, e3, e4, e5, e6, e7, e8, e9, e10, e11, e12, e13, e14, e15, e16, e17, e18] at hK ⊢
          refine Closed.mk ?_
          go_simp
          exact hK.out _ _ ⟨hA, hN, x_s, x_x, x_t, o_s, o_x, o_ya, o_p, o_q, c_0, c_1⟩ trivial rfl
        · refine GoalL.mk (by rfl) ⟨fun _ _ _ _ _ h => h, fun _ _ _ _ _ _ h => h⟩ ?_
          intro f u wq hf hC hD K hK
          have hA := hC.1; have hN := hC.2.1; have x_s := hC.2.2.1; have x_x := hC.2.2.2.1; have x_t := hC.2.2.2.2.1; have o_s := hC.2.2.2.2.2.1; have o_x := hC.2.2.2.2.2.2.1; have o_ya := hC.2.2.2.2.2.2.2.1; have o_p := hC.2.2.2.2.2.2.2.2.1; have o_q := hC.2.2.2.2.2.2.2.2.2.1; have c_0 := hC.2.2.2.2.2.2.2.2.2.2.1; have c_1 := hC.2.2.2.2.2.2.2.2.2.2.2; clear hC
          have d0 := hD.1; have d1 := hD.2.1; have d2 := hD.2.2.1; have d3 := hD.2.2.2.1; have d4 := hD.2.2.2.2.1; have d5 := hD.2.2.2.2.2.1; have d6 := hD.2.2.2.2.2.2.1; have d7 := hD.2.2.2.2.2.2.2.1; have d8 := hD.2.2.2.2.2.2.2.2.1; have d9 := hD.2.2.2.2.2.2.2.2.2.1; have d10 := hD.2.2.2.2.2.2.2.2.2.2.1; have d11 := hD.2.2.2.2.2.2.2.2.2.2.2.1; have d12 := hD.2.2.2.2.2.2.2.2.2.2.2.2.1; have d13 := hD.2.2.2.2.2.2.2.2.2.2.2.2.2.1; have d14 := hD.2.2.2.2.2.2.2.2.2.2.2.2.2.2.1; have d15 := hD.2.2.2.2.2.2.2.2.2.2.2.2.2.2.2.1; have d16 := hD.2.2.2.2.2.2.2.2.2.2.2.2.2.2.2.2.1; have d17 := hD.2.2.2.2.2.2.2.2.2.2.2.2.2.2.2.2.2.1; have d18 := hD.2.2.2.2.2.2.2.2.2.2.2.2.2.2.2.2.2.2.1; clear hD
          have e0 : u 0 = .agg #[.int .i64 r.room, .slice ax1 r.items.length px1, .slice ax2 r.senders.length px2, .slice ax3 r.getters.length px3, .bool r.closed] := d0; clear d0
          have e1 : u 1 = .bool true := d1; clear d1
          have e2 : u 2 = .bool true := d2; clear d2
          have e3 : u 3 = .bool true := d3; clear d3
          have e4 : u 4 = .bool true := d4; clear d4
          have e5 : u 5 = .bool true := d5; clear d5
          have e6 : u 6 = .slice (some ⟨yb, yo, none⟩) y.length pya := d6; clear d6
          have e7 : u 7 = .pointer (some ⟨yb, yo, none⟩) := d7; clear d7
          have e8 : u 8 = .int .i64 g0 := d8; clear d8
          have e9 : u 9 = .pointer (some ⟨w1.heap.size, 3, none⟩) := d9; clear d9
          have e10 : u 10 = .slice (some ⟨gb, go, none⟩) cs.getters.length ps3 := d10; clear d10
          have e11 : u 11 = .pointer (some ⟨gb, go, none⟩) := d11; clear d11
          have e12 : u 12 = .int .i64 g0 := d12; clear d12
          have e13 : u 13 = .bool true := d13; clear d13
          have e14 : u 14 = .bool true := d14; clear d14
          have e15 : u 15 = .bool true := d15; clear d15
          have e16 : u 16 = .bool true := d16; clear d16
          have e17 : u 17 = .bool true := d17; clear d17
          have e18 : u 18 = .bool true := d18; clear d18
          simp only [putL, Act.put, List.setIfInBounds_toArray, List.set_cons_zero, List.set_cons_succ, e0, e1, e2, e3, e4, e5, e6, e7, e8, e9, e10, e11, e12, e13, e14, e15, e16, e17, e18] at hK ⊢
          refine Closed.mk ?_
          go_simp
          exact hK.out _ _ ⟨hA, hN, x_s, x_x, x_t, o_s, o_x, o_ya, o_p, o_q, c_0, c_1⟩ trivial rfl
        · refine GoalL.mk (by rfl) ⟨fun _ _ _ _ _ h => h, fun _ _ _ _ _ _ h => h⟩ ?_
          intro f u wq hf hC hD K hK
          have hA := hC.1; have hN := hC.2.1; have x_s := hC.2.2.1; have x_x := hC.2.2.2.1; have x_t := hC.2.2.2.2.1; have o_s := hC.2.2.2.2.2.1; have o_x := hC.2.2.2.2.2.2.1; have o_ya := hC.2.2.2.2.2.2.2.1; have o_p := hC.2.2.2.2.2.2.2.2.1; have o_q := hC.2.2.2.2.2.2.2.2.2.1; have c_0 := hC.2.2.2.2.2.2.2.2.2.2.1; have c_1 := hC.2.2.2.2.2.2.2.2.2.2.2; clear hC
          have d0 := hD.1; have d1 := hD.2.1; have d2 := hD.2.2.1; have d3 := hD.2.2.2.1; have d4 := hD.2.2.2.2.1; have d5 := hD.2.2.2.2.2.1; have d6 := hD.2.2.2.2.2.2.1; have d7 := hD.2.2.2.2.2.2.2.1; have d8 := hD.2.2.2.2.2.2.2.2.1; have d9 := hD.2.2.2.2.2.2.2.2.2.1; have d10 := hD.2.2.2.2.2.2.2.2.2.2.1; have d11 := hD.2.2.2.2.2.2.2.2.2.2.2.1; have d12 := hD.2.2.2.2.2.2.2.2.2.2.2.2.1; have d13 := hD.2.2.2.2.2.2.2.2.2.2.2.2.2.1; have d14 := hD.2.2.2.2.2.2.2.2.2.2.2.2.2.2.1; have d15 := hD.2.2.2.2.2.2.2.2.2.2.2.2.2.2.2.1; have d16 := hD.2.2.2.2.2.2.2.2.2.2.2.2.2.2.2.2.1; have d17 := hD.2.2.2.2.2.2.2.2.2.2.2.2.2.2.2.2.2.1; have d18 := hD.2.2.2.2.2.2.2.2.2.2.2.2.2.2.2.2.2.2.1; have d19 := hD.2.2.2.2.2.2.2.2.2.2.2.2.2.2.2.2.2.2.2.1; have d20 := hD.2.2.2.2.2.2.2.2.2.2.2.2.2.2.2.2.2.2.2.2.1; clear hD
          have e0 : u 0 = .agg #[.int .i64 r.room, .slice ax1 r.items.length px1, .slice ax2 r.senders.length px2, .slice ax3 r.getters.length px3, .bool r.closed] := d0; clear d0
          have e1 : u 1 = .bool true := d1; clear d1
          have e2 : u 2 = .bool true := d2; clear d2
          have e3 : u 3 = .bool true := d3; clear d3
          have e4 : u 4 = .bool true := d4; clear d4
          have e5 : u 5 = .bool true := d5; clear d5
          have e6 : u 6 = .slice (some ⟨yb, yo, none⟩) y.length pya := d6; clear d6
          have e7 : u 7 = .pointer (some ⟨yb, yo, none⟩) := d7; clear d7
          have e8 : u 8 = .int .i64 g0 := d8; clear d8
          have e9 : u 9 = .pointer (some ⟨w1.heap.size, 3, none⟩) := d9; clear d9
          have e10 : u 10 = .slice (some ⟨gb, go, none⟩) cs.getters.length ps3 := d10; clear d10
          have e11 : u 11 = .pointer (some ⟨gb, go, none⟩) := d11; clear d11
          have e12 : u 12 = .int .i64 g0 := d12; clear d12
          have e13 : u 13 = .bool true := d13; clear d13
          have e14 : u 14 = .bool true := d14; clear d14
          have e15 : u 15 = .bool true := d15; clear d15
          have e16 : u 16 = .bool true := d16; clear d16
          have e17 : u 17 = .bool true := d17; clear d17
          have e18 : u 18 = .bool true := d18; clear d18
          have e19 : u 19 = .slice ap p.length pp := d19; clear d19
          have e20 : u 20 = .slice aq p.length pq := d20; clear d20
          simp only [putL, Act.put, List.setIfInBounds_toArray, List.set_cons_zero, List.set_cons_succ, e0, e1, e2, e3, e4, e5, e6, e7, e8, e9, e10, e11, e12, e13, e14, e15, e16, e17, e18, e19, e20] at hK ⊢
          refine Closed.mk ?_
          go_simp
          refine (wkInts_calls _ _ p p _ (o_p.row encI_len) (o_q.row encI_len)).mono ?_
          rw [decide_eq_true rfl]
          rintro e wr ⟨rfl, hb⟩
          exact hK.out _ _ ⟨Below.trans hA (hb.mono hA.size), Nat.le_trans hN hb.size, (below_at hb x_s), (below_at hb x_x), (below_at hb x_t), (o_s.kept hb), (o_x.kept hb), (o_ya.kept hb), (o_p.kept hb), (o_q.kept hb), ((hb.cell (p := ⟨yb, yo, none⟩) (Nat.lt_of_lt_of_le (hylt) hN)).trans c_0), ((hb.cell (p := ⟨gb, go, none⟩) (Nat.lt_of_lt_of_le (hglt) hN)).trans c_1)⟩ trivial rfl
        · refine GoalL.mk (by rfl) ⟨fun _ _ _ _ _ h => h, fun _ _ _ _ _ _ h => h⟩ ?_
          intro f u wq hf hC hD K hK
          have hA := hC.1; have hN := hC.2.1; have x_s := hC.2.2.1; have x_x := hC.2.2.2.1; have x_t := hC.2.2.2.2.1; have o_s := hC.2.2.2.2.2.1; have o_x := hC.2.2.2.2.2.2.1; have o_ya := hC.2.2.2.2.2.2.2.1; have o_p := hC.2.2.2.2.2.2.2.2.1; have o_q := hC.2.2.2.2.2.2.2.2.2.1; have c_0 := hC.2.2.2.2.2.2.2.2.2.2.1; have c_1 := hC.2.2.2.2.2.2.2.2.2.2.2; clear hC
          have d0 := hD.1; have d1 := hD.2.1; have d2 := hD.2.2.1; have d3 := hD.2.2.2.1; have d4 := hD.2.2.2.2.1; have d5 := hD.2.2.2.2.2.1; have d6 := hD.2.2.2.2.2.2.1; have d7 := hD.2.2.2.2.2.2.2.1; have d8 := hD.2.2.2.2.2.2.2.2.1; have d9 := hD.2.2.2.2.2.2.2.2.2.1; have d10 := hD.2.2.2.2.2.2.2.2.2.2.1; have d11 := hD.2.2.2.2.2.2.2.2.2.2.2.1; have d12 := hD.2.2.2.2.2.2.2.2.2.2.2.2.1; have d13 := hD.2.2.2.2.2.2.2.2.2.2.2.2.2.1; have d14 := hD.2.2.2.2.2.2.2.2.2.2.2.2.2.2.1; have d15 := hD.2.2.2.2.2.2.2.2.2.2.2.2.2.2.2.1; have d16 := hD.2.2.2.2.2.2.2.2.2.2.2.2.2.2.2.2.1; have d17 := hD.2.2.2.2.2.2.2.2.2.2.2.2.2.2.2.2.2.1; have d18 := hD.2.2.2.2.2.2.2.2.2.2.2.2.2.2.2.2.2.2.1; have d19 := hD.2.2.2.2.2.2.2.2.2.2.2.2.2.2.2.2.2.2.2.1; have d20 := hD.2.2.2.2.2.2.2.2.2.2.2.2.2.2.2.2.2.2.2.2.1; have d21 := hD.2.2.2.2.2.2.2.2.2.2.2.2.2.2.2.2.2.2.2.2.2.1; clear hD
          have e0 : u 0 = .agg #[.int .i64 r.room, .slice ax1 r.items.length px1, .slice ax2 r.senders.length px2, .slice ax3 r.getters.length px3, .bool r.closed] := d0; clear d0
          have e1 : u 1 = .bool true := d1; clear d1
          have e2 : u 2 = .bool true := d2; clear d2
          have e3 : u 3 = .bool true := d3; clear d3
          have e4 : u 4 = .bool true := d4; clear d4
          have e5 : u 5 = .bool true := d5; clear d5
          have e6 : u 6 = .slice (some ⟨yb, yo, none⟩) y.length pya := d6; clear d6
          have e7 : u 7 = .pointer (some ⟨yb, yo, none⟩) := d7; clear d7
          have e8 : u 8 = .int .i64 g0 := d8; clear d8
          have e9 : u 9 = .pointer (some ⟨w1.heap.size, 3, none⟩) := d9; clear d9
          have e10 : u 10 = .slice (some ⟨gb, go, none⟩) cs.getters.length ps3 := d10; clear d10
          have e11 : u 11 = .pointer (some ⟨gb, go, none⟩) := d11; clear d11
          have e12 : u 12 = .int .i64 g0 := d12; clear d12
          have e13 : u 13 = .bool true := d13; clear d13
          have e14 : u 14 = .bool true := d14; clear d14
          have e15 : u 15 = .bool true := d15; clear d15
          have e16 : u 16 = .bool true := d16; clear d16
          have e17 : u 17 = .bool true := d17; clear d17
          have e18 : u 18 = .bool true := d18; clear d18
          have e19 : u 19 = .slice ap p.length pp := d19; clear d19
          have e20 : u 20 = .slice aq p.length pq := d20; clear d20
          have e21 : u 21 = .bool true := d21; clear d21
          simp only [putL, Act.put, List.setIfInBounds_toArray, List.set_cons_zero, List.set_cons_succ, e0, e1, e2, e3, e4, e5, e6, e7, e8, e9, e10, e11, e12, e13, e14, e15, e16, e17, e18, e19, e20, e21] at hK ⊢
          refine Closed.mk ?_
          go_simp
          exact hK.out _ _ ⟨hA, hN, x_s, x_x, x_t, o_s, o_x, o_ya, o_p, o_q, c_0, c_1⟩ trivial rfl
        · refine GoalL.mk (by rfl) ⟨fun _ _ _ _ _ h => h, fun _ _ _ _ _ _ h => h⟩ ?_
          intro f u wq hf hC hD K hK
          have hA := hC.1; have hN := hC.2.1; have x_s := hC.2.2.1; have x_x := hC.2.2.2.1; have x_t := hC.2.2.2.2.1; have o_s := hC.2.2.2.2.2.1; have o_x := hC.2.2.2.2.2.2.1; have o_ya := hC.2.2.2.2.2.2.2.1; have o_p := hC.2.2.2.2.2.2.2.2.1; have o_q := hC.2.2.2.2.2.2.2.2.2.1; have c_0 := hC.2.2.2.2.2.2.2.2.2.2.1; have c_1 := hC.2.2.2.2.2.2.2.2.2.2.2; clear hC
          have d0 := hD.1; have d1 := hD.2.1; have d2 := hD.2.2.1; have d3 := hD.2.2.2.1; have d4 := hD.2.2.2.2.1; have d5 := hD.2.2.2.2.2.1; have d6 := hD.2.2.2.2.2.2.1; have d7 := hD.2.2.2.2.2.2.2.1; have d8 := hD.2.2.2.2.2.2.2.2.1; have d9 := hD.2.2.2.2.2.2.2.2.2.1; have d10 := hD.2.2.2.2.2.2.2.2.2.2.1; have d11 := hD.2.2.2.2.2.2.2.2.2.2.2.1; have d12 := hD.2.2.2.2.2.2.2.2.2.2.2.2.1; have d13 := hD.2.2.2.2.2.2.2.2.2.2.2.2.2.1; have d14 := hD.2.2.2.2.2.2.2.2.2.2.2.2.2.2.1; have d15 := hD.2.2.2.2.2.2.2.2.2.2.2.2.2.2.2.1; have d16 := hD.2.2.2.2.2.2.2.2.2.2.2.2.2.2.2.2.1; have d17 := hD.2.2.2.2.2.2.2.2.2.2.2.2.2.2.2.2.2.1; have d18 := hD.2.2.2.2.2.2.2.2.2.2.2.2.2.2.2.2.2.2.1; have d19 := hD.2.2.2.2.2.2.2.2.2.2.2.2.2.2.2.2.2.2.2.1; have d20 := hD.2.2.2.2.2.2.2.2.2.2.2.2.2.2.2.2.2.2.2.2.1; have d21 := hD.2.2.2.2.2.2.2.2.2.2.2.2.2.2.2.2.2.2.2.2.2.1; have d22 := hD.2.2.2.2.2.2.2.2.2.2.2.2.2.2.2.2.2.2.2.2.2.2.1; clear hD
          have e0 : u 0 = .agg #[.int .i64 r.room, .slice ax1 r.items.length px1, .slice ax2 r.senders.length px2, .slice ax3 r.getters.length px3, .bool r.closed] := d0; clear d0
          have e1 : u 1 = .bool true := d1; clear d1
          have e2 : u 2 = .bool true := d2; clear d2
          have e3 : u 3 = .bool true := d3; clear d3
          have e4 : u 4 = .bool true := d4; clear d4
          have e5 : u 5 = .bool true := d5; clear d5
          have e6 : u 6 = .slice (some ⟨yb, yo, none⟩) y.length pya := d6; clear d6
          have e7 : u 7 = .pointer (some ⟨yb, yo, none⟩) := d7; clear d7
          have e8 : u 8 = .int .i64 g0 := d8; clear d8
          have e9 : u 9 = .pointer (some ⟨w1.heap.size, 3, none⟩) := d9; clear d9
          have e10 : u 10 = .slice (some ⟨gb, go, none⟩) cs.getters.length ps3 := d10; clear d10
          have e11 : u 11 = .pointer (some ⟨gb, go, none⟩) := d11; clear d11
          have e12 : u 12 = .int .i64 g0 := d12; clear d12
          have e13 : u 13 = .bool true := d13; clear d13
          have e14 : u 14 = .bool true := d14; clear d14
          have e15 : u 15 = .bool true := d15; clear d15
          have e16 : u 16 = .bool true := d16; clear d16
          have e17 : u 17 = .bool true := d17; clear d17
          have e18 : u 18 = .bool true := d18; clear d18
          have e19 : u 19 = .slice ap p.length pp := d19; clear d19
          have e20 : u 20 = .slice aq p.length pq := d20; clear d20
          have e21 : u 21 = .bool true := d21; clear d21
          have e22 : u 22 = .bool true := d22; clear d22
          simp only [putL, Act.put, List.setIfInBounds_toArray, List.set_cons_zero, List.set_cons_succ, e0, e1, e2, e3, e4, e5, e6, e7, e8, e9, e10, e11, e12, e13, e14, e15, e16, e17, e18, e19, e20, e21, e22] at hK ⊢
          refine Closed.mk ?_
          go_simp
          exact hK.out _ _ ⟨hA, hN, x_s, x_x, x_t, o_s, o_x, o_ya, o_p, o_q, c_0, c_1⟩ trivial rfl
        intro u w8 hC hD
        have hA := hC.1; have hN := hC.2.1; have x_s := hC.2.2.1; have x_x := hC.2.2.2.1; have x_t := hC.2.2.2.2.1; have o_s := hC.2.2.2.2.2.1; have o_x := hC.2.2.2.2.2.2.1; have o_ya := hC.2.2.2.2.2.2.2.1; have o_p := hC.2.2.2.2.2.2.2.2.1; have o_q := hC.2.2.2.2.2.2.2.2.2.1; have c_0 := hC.2.2.2.2.2.2.2.2.2.2.1; have c_1 := hC.2.2.2.2.2.2.2.2.2.2.2; clear hC
        have d0 := hD.1; have d1 := hD.2.1; have d2 := hD.2.2.1; have d3 := hD.2.2.2.1; have d4 := hD.2.2.2.2.1; have d5 := hD.2.2.2.2.2.1; have d6 := hD.2.2.2.2.2.2.1; have d7 := hD.2.2.2.2.2.2.2.1; have d8 := hD.2.2.2.2.2.2.2.2.1; have d9 := hD.2.2.2.2.2.2.2.2.2.1; have d10 := hD.2.2.2.2.2.2.2.2.2.2.1; have d11 := hD.2.2.2.2.2.2.2.2.2.2.2.1; have d12 := hD.2.2.2.2.2.2.2.2.2.2.2.2.1; have d13 := hD.2.2.2.2.2.2.2.2.2.2.2.2.2.1; have d14 := hD.2.2.2.2.2.2.2.2.2.2.2.2.2.2.1; have d15 := hD.2.2.2.2.2.2.2.2.2.2.2.2.2.2.2.1; have d16 := hD.2.2.2.2.2.2.2.2.2.2.2.2.2.2.2.2.1; have d17 := hD.2.2.2.2.2.2.2.2.2.2.2.2.2.2.2.2.2.1; have d18 := hD.2.2.2.2.2.2.2.2.2.2.2.2.2.2.2.2.2.2.1; have d19 := hD.2.2.2.2.2.2.2.2.2.2.2.2.2.2.2.2.2.2.2.1; have d20 := hD.2.2.2.2.2.2.2.2.2.2.2.2.2.2.2.2.2.2.2.2.1; have d21 := hD.2.2.2.2.2.2.2.2.2.2.2.2.2.2.2.2.2.2.2.2.2.1; have d22 := hD.2.2.2.2.2.2.2.2.2.2.2.2.2.2.2.2.2.2.2.2.2.2.1; have d23 := hD.2.2.2.2.2.2.2.2.2.2.2.2.2.2.2.2.2.2.2.2.2.2.2.1; clear hD
        have e0 : u 0 = .agg #[.int .i64 r.room, .slice ax1 r.items.length px1, .slice ax2 r.senders.length px2, .slice ax3 r.getters.length px3, .bool r.closed] := d0; clear d0
        have e1 : u 1 = .bool true := d1; clear d1
        have e2 : u 2 = .bool true := d2; clear d2
        have e3 : u 3 = .bool true := d3; clear d3
        have e4 : u 4 = .bool true := d4; clear d4
        have e5 : u 5 = .bool true := d5; clear d5
        have e6 : u 6 = .slice (some ⟨yb, yo, none⟩) y.length pya := d6; clear d6
        have e7 : u 7 = .pointer (some ⟨yb, yo, none⟩) := d7; clear d7
        have e8 : u 8 = .int .i64 g0 := d8; clear d8
        have e9 : u 9 = .pointer (some ⟨w1.heap.size, 3, none⟩) := d9; clear d9
        have e10 : u 10 = .slice (some ⟨gb, go, none⟩) cs.getters.length ps3 := d10; clear d10
        have e11 : u 11 = .pointer (some ⟨gb, go, none⟩) := d11; clear d11
        have e12 : u 12 = .int .i64 g0 := d12; clear d12
        have e13 : u 13 = .bool true := d13; clear d13
        have e14 : u 14 = .bool true := d14; clear d14
        have e15 : u 15 = .bool true := d15; clear d15
        have e16 : u 16 = .bool true := d16; clear d16
        have e17 : u 17 = .bool true := d17; clear d17
        have e18 : u 18 = .bool true := d18; clear d18
        have e19 : u 19 = .slice ap p.length pp := d19; clear d19
        have e20 : u 20 = .slice aq p.length pq := d20; clear d20
        have e21 : u 21 = .bool true := d21; clear d21
        have e22 : u 22 = .bool true := d22; clear d22
        have e23 : u 23 = .bool true := d23; clear d23
        have B8 := Lib.hid hA; have N8 := hN; have S8 := hA.size
        have Xs_8 := Lib.hid x_s; clear x_s
        have Xx_8 := Lib.hid x_x; clear x_x
        have Xt_8 := Lib.hid x_t; clear x_t
        have Os_8 := Lib.hid o_s; clear o_s
        have Ox_8 := Lib.hid o_x; clear o_x
        have Oya_8 := Lib.hid o_ya; clear o_ya
        have Op_8 := Lib.hid o_p; clear o_p
        have Oq_8 := Lib.hid o_q; clear o_q
        obtain ⟨cs8_0, cs8_1, cs8_2, cs8_3, cs8_4, fs8_0, fs8_1, fs8_2, fs8_3, fs8_4⟩ := box5 Xs_8.out; have ls8 := heap_lt Xs_8.out
        obtain ⟨cx8_0, cx8_1, cx8_2, cx8_3, cx8_4, fx8_0, fx8_1, fx8_2, fx8_3, fx8_4⟩ := box5 Xx_8.out; have lx8 := heap_lt Xx_8.out
        obtain ⟨ct8_0, ct8_1, ct8_2, ct8_3, ct8_4, ft8_0, ft8_1, ft8_2, ft8_3, ft8_4⟩ := box5 Xt_8.out; have lt8 := heap_lt Xt_8.out
        clear hA hN
        simp only [putL, Act.put, List.setIfInBounds_toArray, List.set_cons_zero, List.set_cons_succ, e0, e1, e2, e3, e4, e5, e6, e7, e8, e9, e10, e11, e12, e13, e14, e15, e16, e17, e18, e19, e20, e21, e22, e23]
        refine Closed.mk (wpAnyH_done (by kernel_rfl) ?_ _)
        go_wp2_with (fail)
        go_ret
        exact ⟨rfl, B8.out⟩
      · obtain ⟨q, hq⟩ : ∃ q, p ++ [y1] = q := ⟨_, rfl⟩
        have HPR := Lib.hid (show pend r = (q, true) by rw [← hq, ← hp, ← h7, pend_yes H1.out])
        have HQ := Lib.hid hq; have H5 := Lib.hid h5; have H4 := Lib.hid h4; clear hq hp h7 h5 h4
        go_wp2_with (fail)
        refine (PendingOfO _ cs p true _ (Os_5.out.row) HN.out HPC.out).mono ?_
        rintro e w6 ⟨vp, rfl, ho_p, hb⟩
        have B6 := Lib.hid (Below.trans B5.out (hb.mono (by first | omega | (simp only [szA, szS, szD, World.heap_drewN] at * <;> omega))) : Below w.heap.size w w6)
        have Z6 := hb.size
        have N6 : w5.heap.size ≤ w6.heap.size := (by first | with_reducible exact Z6 | (simp only [szA, szS, szD] at Z6; omega))
        clear Z6
        have Xs_6 := Lib.hid (below_at hb Xs_5.out)
        have Xx_6 := Lib.hid (below_at hb Xx_5.out)
        have Xt_6 := Lib.hid (below_at hb Xt_5.out)
        have Os_6 := Lib.hid (Os_5.out.kept hb)
        have Ox_6 := Lib.hid (Ox_5.out.kept hb)
        have Oya_6 := Lib.hid (Oya_5.out.kept hb)
        have Ot_6 := Lib.hid (Ot_5.out.kept hb)
        have Oyb_6 := Lib.hid (Oyb_5.out.kept hb)
        have Op_6 := Lib.hid (Own.mono (base' := w.heap.size) ho_p.own (by first | omega | (simp only [szA, szS, szD, World.heap_drewN] at * <;> omega))); obtain ⟨ap, pp, rfl, hx_p⟩ := ho_p; clear hx_p
        clear hb
        obtain ⟨cs6_0, cs6_1, cs6_2, cs6_3, cs6_4, fs6_0, fs6_1, fs6_2, fs6_3, fs6_4⟩ := box5 Xs_6.out; have ls6 := heap_lt Xs_6.out
        obtain ⟨cx6_0, cx6_1, cx6_2, cx6_3, cx6_4, fx6_0, fx6_1, fx6_2, fx6_3, fx6_4⟩ := box5 Xx_6.out; have lx6 := heap_lt Xx_6.out
        obtain ⟨ct6_0, ct6_1, ct6_2, ct6_3, ct6_4, ft6_0, ft6_1, ft6_2, ft6_3, ft6_4⟩ := box5 Xt_6.out; have lt6 := heap_lt Xt_6.out
        have S6 : w.heap.size ≤ w6.heap.size := (by omega)
        clear cs5_0 cs5_1 cs5_2 cs5_3 cs5_4 fs5_0 fs5_1 fs5_2 fs5_3 fs5_4 cx5_0 cx5_1 cx5_2 cx5_3 cx5_4 fx5_0 fx5_1 fx5_2 fx5_3 fx5_4 ct5_0 ct5_1 ct5_2 ct5_3 ct5_4 ft5_0 ft5_1 ft5_2 ft5_3 ft5_4
        go_wp2_with (fail)
        refine (PendingOfO _ r q true _ (Ox_6.out.row) HM.out HPR.out).mono ?_
        rintro e w7 ⟨vq, rfl, ho_q, hb⟩
        have B7 := Lib.hid (Below.trans B6.out (hb.mono (by first | omega | (simp only [szA, szS, szD, World.heap_drewN] at * <;> omega))) : Below w.heap.size w w7)
        have Z7 := hb.size
        have N7 : w6.heap.size ≤ w7.heap.size := (by first | with_reducible exact Z7 | (simp only [szA, szS, szD] at Z7; omega))
        clear Z7
        have Xs_7 := Lib.hid (below_at hb Xs_6.out)
        have Xx_7 := Lib.hid (below_at hb Xx_6.out)
        have Xt_7 := Lib.hid (below_at hb Xt_6.out)
        have Os_7 := Lib.hid (Os_6.out.kept hb)
        have Ox_7 := Lib.hid (Ox_6.out.kept hb)
        have Oya_7 := Lib.hid (Oya_6.out.kept hb)
        have Ot_7 := Lib.hid (Ot_6.out.kept hb)
        have Oyb_7 := Lib.hid (Oyb_6.out.kept hb)
        have Op_7 := Lib.hid (Op_6.out.kept hb)
        have Oq_7 := Lib.hid (Own.mono (base' := w.heap.size) ho_q.own (by first | omega | (simp only [szA, szS, szD, World.heap_drewN] at * <;> omega))); obtain ⟨aq, pq, rfl, hx_q⟩ := ho_q; clear hx_q
        clear hb
        obtain ⟨cs7_0, cs7_1, cs7_2, cs7_3, cs7_4, fs7_0, fs7_1, fs7_2, fs7_3, fs7_4⟩ := box5 Xs_7.out; have ls7 := heap_lt Xs_7.out
        obtain ⟨cx7_0, cx7_1, cx7_2, cx7_3, cx7_4, fx7_0, fx7_1, fx7_2, fx7_3, fx7_4⟩ := box5 Xx_7.out; have lx7 := heap_lt Xx_7.out
        obtain ⟨ct7_0, ct7_1, ct7_2, ct7_3, ct7_4, ft7_0, ft7_1, ft7_2, ft7_3, ft7_4⟩ := box5 Xt_7.out; have lt7 := heap_lt Xt_7.out
        have S7 : w.heap.size ≤ w7.heap.size := (by omega)
        clear cs6_0 cs6_1 cs6_2 cs6_3 cs6_4 fs6_0 fs6_1 fs6_2 fs6_3 fs6_4 cx6_0 cx6_1 cx6_2 cx6_3 cx6_4 fx6_0 fx6_1 fx6_2 fx6_3 fx6_4 ct6_0 ct6_1 ct6_2 ct6_3 ct6_4 ft6_0 ft6_1 ft6_2 ft6_3 ft6_4
        go_wp2_with (fail)
        refine (ChanValid_calls _ r _ (Ox_7.out.row) HM.out).mono ?_
        rw [H1.out]
        rintro e w8 ⟨rfl, hb⟩
        have B8 := Lib.hid (Below.trans B7.out (hb.mono (by first | omega | (simp only [szA, szS, szD, World.heap_drewN] at * <;> omega))) : Below w.heap.size w w8)
        have Z8 := hb.size
        have N8 : w7.heap.size ≤ w8.heap.size := (by first | with_reducible exact Z8 | (simp only [szA, szS, szD] at Z8; omega))
        clear Z8
        have Xs_8 := Lib.hid (below_at hb Xs_7.out)
        have Xx_8 := Lib.hid (below_at hb Xx_7.out)
        have Xt_8 := Lib.hid (below_at hb Xt_7.out)
        have Os_8 := Lib.hid (Os_7.out.kept hb)
        have Ox_8 := Lib.hid (Ox_7.out.kept hb)
        have Oya_8 := Lib.hid (Oya_7.out.kept hb)
        have Ot_8 := Lib.hid (Ot_7.out.kept hb)
        have Oyb_8 := Lib.hid (Oyb_7.out.kept hb)
        have Op_8 := Lib.hid (Op_7.out.kept hb)
        have Oq_8 := Lib.hid (Oq_7.out.kept hb)
        clear hb
        obtain ⟨cs8_0, cs8_1, cs8_2, cs8_3, cs8_4, fs8_0, fs8_1, fs8_2, fs8_3, fs8_4⟩ := box5 Xs_8.out; have ls8 := heap_lt Xs_8.out
        obtain ⟨cx8_0, cx8_1, cx8_2, cx8_3, cx8_4, fx8_0, fx8_1, fx8_2, fx8_3, fx8_4⟩ := box5 Xx_8.out; have lx8 := heap_lt Xx_8.out
        obtain ⟨ct8_0, ct8_1, ct8_2, ct8_3, ct8_4, ft8_0, ft8_1, ft8_2, ft8_3, ft8_4⟩ := box5 Xt_8.out; have lt8 := heap_lt Xt_8.out
        have S8 : w.heap.size ≤ w8.heap.size := (by omega)
        clear cs7_0 cs7_1 cs7_2 cs7_3 cs7_4 fs7_0 fs7_1 fs7_2 fs7_3 fs7_4 cx7_0 cx7_1 cx7_2 cx7_3 cx7_4 fx7_0 fx7_1 fx7_2 fx7_3 fx7_4 ct7_0 ct7_1 ct7_2 ct7_3 ct7_4 ft7_0 ft7_1 ft7_2 ft7_3 ft7_4
        go_wp2_with (first | (at_builtin; refine wpList_free (by rfl) ?_; refine wpList_cloneE _ encI_len encI_one rfl _ _ 22 rfl 3 _ 8 Try.underlying22 info_int rfl (by decide) (w8.heap.size) rfl (by first | omega | (simp only [szA, szS, szD, World.heap_drewN] at * <;> omega)) (.slice ap p.length pp) p rfl (Op_8.out.row encI_len) (by decide) (by omega) ?_; intro az pz w9 ho_z hb; have B9 := Lib.hid (Below.trans B8.out (hb.mono (by first | omega | (simp only [szA, szS, szD, World.heap_drewN] at * <;> omega))) : Below w.heap.size w w9); have Z9 := hb.size; have N9 : w8.heap.size ≤ w9.heap.size := (by first | with_reducible exact Z9 | (simp only [szA, szS, szD] at Z9; omega)); clear Z9; have Xs_9 := Lib.hid (below_at hb Xs_8.out); have Xx_9 := Lib.hid (below_at hb Xx_8.out); have Xt_9 := Lib.hid (below_at hb Xt_8.out); have Op_9 := Lib.hid (Op_8.out.kept hb); have Oq_9 := Lib.hid (Oq_8.out.kept hb); have APz_p := Lib.hid (Own.later_apart Op_8.out ho_z (Nat.le_refl _)); have APz_q := Lib.hid (Own.later_apart Oq_8.out ho_z (Nat.le_refl _)); have Oz_9 := Lib.hid (Own.mono (base' := w.heap.size) ho_z (by first | omega | (simp only [szA, szS, szD, World.heap_drewN] at * <;> omega))); clear ho_z; clear hb; obtain ⟨cs9_0, cs9_1, cs9_2, cs9_3, cs9_4, fs9_0, fs9_1, fs9_2, fs9_3, fs9_4⟩ := box5 Xs_9.out; have ls9 := heap_lt Xs_9.out; obtain ⟨cx9_0, cx9_1, cx9_2, cx9_3, cx9_4, fx9_0, fx9_1, fx9_2, fx9_3, fx9_4⟩ := box5 Xx_9.out; have lx9 := heap_lt Xx_9.out; obtain ⟨ct9_0, ct9_1, ct9_2, ct9_3, ct9_4, ft9_0, ft9_1, ft9_2, ft9_3, ft9_4⟩ := box5 Xt_9.out; have lt9 := heap_lt Xt_9.out; have S9 : w.heap.size ≤ w9.heap.size := (by omega)) | (at_builtin; refine Closed.out ?_))
        refine Closed.mk ?_
        clear cs8_0 cs8_1 cs8_2 cs8_3 cs8_4 fs8_0 fs8_1 fs8_2 fs8_3 fs8_4 cx8_0 cx8_1 cx8_2 cx8_3 cx8_4 fx8_0 fx8_1 fx8_2 fx8_3 fx8_4 ct8_0 ct8_1 ct8_2 ct8_3 ct8_4 ft8_0 ft8_1 ft8_2 ft8_3 ft8_4
        go_wp2_with (at_builtin; refine wpList_free (by rfl) ?_; refine wpList_snoc _ encI_len encI_one rfl _ _ 22 rfl 3 _ 8 Try.underlying22 info_int rfl (by decide) w.heap.size (.slice az p.length pz) p rfl Oz_9.out y1 _ rfl _ rfl (by first | omega | (simp only [szA, szS, szD, World.heap_drewN] at * <;> omega)) (by decide) (by omega) (by first | omega | (simp only [szA, szS, szD, World.heap_drewN] at * <;> omega)) ?_; intro ad10 cp10 w10 hown hg hat; obtain ⟨zL10, hzL10⟩ : ∃ l, p ++ [y1] = l := ⟨_, rfl⟩; have lzL10 : p.length + 1 = zL10.length := (by rw [← hzL10, List.length_append, List.length_singleton]); rw [hzL10, lzL10] at hown; rw [lzL10]; have HzL10 := Lib.hid hzL10; clear hzL10; have KzL10 := Lib.hid lzL10; clear lzL10; rw [KzL10.out] at hat; have ANz_p_10 := Lib.hid (Apart.push (v' := .slice ad10 zL10.length cp10) APz_p.out hat Op_9.out.hi (by first | omega | (simp only [szA, szS]; omega))); have ANz_q_10 := Lib.hid (Apart.push (v' := .slice ad10 zL10.length cp10) APz_q.out hat Oq_9.out.hi (by first | omega | (simp only [szA, szS]; omega))); clear hat; have Xs_10 := Lib.hid (grown_at2 hg (heap_up Xs_9.out) (Oz_9.out.ne Xs_9.out (by decide))); have Xx_10 := Lib.hid (grown_at2 hg (heap_up Xx_9.out) (Oz_9.out.ne Xx_9.out (by decide))); have Xt_10 := Lib.hid (grown_at2 hg (heap_up Xt_9.out) (Oz_9.out.ne Xt_9.out (by decide))); have Op_10 := Lib.hid ((Op_9.out.alloc _).apart hg APz_p.out); have Oq_10 := Lib.hid ((Oq_9.out.alloc _).apart hg APz_q.out); have Oz_10 := Lib.hid hown; have B10 := Lib.hid (Below.grown (Below.alloc B9.out (by first | omega | (simp only [szA, szS, szD, World.heap_drewN] at * <;> omega)) _) hg (by first | omega | (simp only [szA, szS, szD, World.heap_drewN]; omega)) (fun g e => Nat.le_trans (by omega) (Oz_9.out.blk g e))); have N10 : w9.heap.size + 1 ≤ w10.heap.size := (by first | with_reducible exact hg.size | (have := hg.size; simp only [szA, szS, szD] at this; omega)); clear hown hg; obtain ⟨cs10_0, cs10_1, cs10_2, cs10_3, cs10_4, fs10_0, fs10_1, fs10_2, fs10_3, fs10_4⟩ := box5 Xs_10.out; have ls10 := heap_lt Xs_10.out; obtain ⟨cx10_0, cx10_1, cx10_2, cx10_3, cx10_4, fx10_0, fx10_1, fx10_2, fx10_3, fx10_4⟩ := box5 Xx_10.out; have lx10 := heap_lt Xx_10.out; obtain ⟨ct10_0, ct10_1, ct10_2, ct10_3, ct10_4, ft10_0, ft10_1, ft10_2, ft10_3, ft10_4⟩ := box5 Xt_10.out; have lt10 := heap_lt Xt_10.out; have S10 : w.heap.size ≤ w10.heap.size := (by omega))
        clear cs9_0 cs9_1 cs9_2 cs9_3 cs9_4 fs9_0 fs9_1 fs9_2 fs9_3 fs9_4 cx9_0 cx9_1 cx9_2 cx9_3 cx9_4 fx9_0 fx9_1 fx9_2 fx9_3 fx9_4 ct9_0 ct9_1 ct9_2 ct9_3 ct9_4 ft9_0 ft9_1 ft9_2 ft9_3 ft9_4
        go_wp2_with (fail)
        refine (wkInts_calls _ _ q zL10 _ (Oq_10.out.row encI_len) (Oz_10.out.row encI_len)).mono ?_
        rw [decide_eq_true (HQ.out.symm.trans HzL10.out)]
        rintro e w11 ⟨rfl, hb⟩
        have B11 := Lib.hid (Below.trans B10.out (hb.mono (by first | omega | (simp only [szA, szS, szD, World.heap_drewN] at * <;> omega))) : Below w.heap.size w w11)
        have Z11 := hb.size
        have N11 : w10.heap.size ≤ w11.heap.size := (by first | with_reducible exact Z11 | (simp only [szA, szS, szD] at Z11; omega))
        clear Z11
        have Xs_11 := Lib.hid (below_at hb Xs_10.out)
        have Xx_11 := Lib.hid (below_at hb Xx_10.out)
        have Xt_11 := Lib.hid (below_at hb Xt_10.out)
        have Op_11 := Lib.hid (Op_10.out.kept hb)
        have Oq_11 := Lib.hid (Oq_10.out.kept hb)
        have Oz_11 := Lib.hid (Oz_10.out.kept hb)
        clear hb
        obtain ⟨cs11_0, cs11_1, cs11_2, cs11_3, cs11_4, fs11_0, fs11_1, fs11_2, fs11_3, fs11_4⟩ := box5 Xs_11.out; have ls11 := heap_lt Xs_11.out
        obtain ⟨cx11_0, cx11_1, cx11_2, cx11_3, cx11_4, fx11_0, fx11_1, fx11_2, fx11_3, fx11_4⟩ := box5 Xx_11.out; have lx11 := heap_lt Xx_11.out
        obtain ⟨ct11_0, ct11_1, ct11_2, ct11_3, ct11_4, ft11_0, ft11_1, ft11_2, ft11_3, ft11_4⟩ := box5 Xt_11.out; have lt11 := heap_lt Xt_11.out
        have S11 : w.heap.size ≤ w11.heap.size := (by omega)
        clear cs10_0 cs10_1 cs10_2 cs10_3 cs10_4 fs10_0 fs10_1 fs10_2 fs10_3 fs10_4 cx10_0 cx10_1 cx10_2 cx10_3 cx10_4 fx10_0 fx10_1 fx10_2 fx10_3 fx10_4 ct10_0 ct10_1 ct10_2 ct10_3 ct10_4 ft10_0 ft10_1 ft10_2 ft10_3 ft10_4
        by_cases hc : (cs.items.length : Int) < cs.room
        · obtain rfl : b1 = true := by rw [H5.out]; exact decide_eq_true hc
          have d1 := decide_eq_true hc
          go_wp2_with (fail)
          go_ret
          exact ⟨rfl, B11.out⟩
        · obtain rfl : b1 = false := by rw [H5.out]; exact decide_eq_false hc
          have d1 := decide_eq_false hc
          go_wp2_with (fail)
          go_ret
          exact ⟨rfl, B11.out⟩

  · go_enter Try.func13, Try.ntmps13
    go_wp2
    go_ret
    exact ⟨rfl, Below.refl _ _⟩
end Go.Proofs.Ytpgiinklbnlloaa
