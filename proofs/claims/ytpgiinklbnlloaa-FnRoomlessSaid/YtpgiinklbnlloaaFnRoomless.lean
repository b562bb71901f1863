/- FnRoomless: the law's walk (made by gen_chanlaws.py). -/
import Derived.Test.YtpgiinklbnlloaaDrawSendChan
import Derived.Test.YtpgiinklbnlloaaLawChan
import Derived.Test.YtpgiinklbnlloaaBytes
namespace Go.Proofs.Ytpgiinklbnlloaa
open Go.RowKit
set_option linter.unusedSimpArgs false
set_option linter.unusedVariables false
set_option maxHeartbeats 8000000 in
theorem FnRoomless_calls (v : Value) (bs : List Int) (w : World) (h : Row 1 encB w v bs) (hbs : ∀ x ∈ bs, 0 ≤ x ∧ x ≤ 255) :
    Calls Try.prog 10 #[v] w fun e w' => e = .returned (.bool true) ∧ Below w.heap.size w w' := by
  have HB := Lib.hid hbs; clear hbs
  have H0 := Lib.hid h
  obtain ⟨a, c, rfl, l1, l2, l3⟩ := h
  clear l3
  by_cases hl : bs.length ≤ 1048576
  · go_enter Try.func10, Try.ntmps10
    go_wp2_with (fail)
    refine (DrawSendChan_calls _ bs _ (Row.below H0.out (Below.refl _ _)) HB.out).mono ?_
    rintro e w1 ⟨vs, cs, y0, y1, rfl, ho_s, hfs, hb⟩
    have B1 := Lib.hid (Below.trans (Below.refl _ _) (hb.mono (by first | omega | (simp only [szA, szS, szD, World.heap_drewN] at * <;> omega))) : Below w.heap.size w w1)
    have Z1 := hb.size
    have N1 : w.heap.size ≤ w1.heap.size := (by first | with_reducible exact Z1 | (simp only [szA, szS, szD] at Z1; omega))
    clear Z1
    have Os_1 := Lib.hid (ho_s.mono (lo' := w.heap.size) (by first | omega | (simp only [szA, szS, szD, World.heap_drewN] at * <;> omega)) (Nat.le_refl _)); obtain ⟨as1, ps1, as2, ps2, as3, ps3, rfl, hx_s⟩ := ho_s; clear hx_s
    clear hb
    have S1 : w.heap.size ≤ w1.heap.size := (by omega)
    have HN := Lib.hid (few_small hfs (by decide)); clear hfs
    obtain ⟨r, y, b1, b2, hr⟩ : ∃ r y b1 b2, send cs y0 y1 = (r, y, b1, b2) := ⟨_, _, _, _, rfl⟩
    have HR := Lib.hid hr; clear hr
    have HM := Lib.hid (few_small (send_few HR.out) (by decide))
    go_wp2_with (fail)
    refine (SendChanO _ cs y0 y1 r y b1 b2 _ ((Os_1.out.alloc _).row) HN.out HR.out).mono ?_
    rintro e w2 ⟨vx, va, rfl, ho_x, ho_ya, hb⟩
    have B2 := Lib.hid (Below.trans (Below.alloc B1.out (by first | omega | (simp only [szA, szS, szD, World.heap_drewN] at * <;> omega)) _) (hb.mono (by first | omega | (simp only [szA, szS, szD, World.heap_drewN] at * <;> omega))) : Below w.heap.size w w2)
    have Z2 := hb.size
    have N2 : w1.heap.size + 1 ≤ w2.heap.size := (by first | with_reducible exact Z2 | (simp only [szA, szS, szD] at Z2; omega))
    clear Z2
    have Xs_2 : Hid (w2.heap[w1.heap.size]? = some (.cells #[.int .i64 cs.room, .slice as1 cs.items.length ps1, .slice as2 cs.senders.length ps2, .slice as3 cs.getters.length ps3, .bool cs.closed] 25 (0, 0))) := below_at hb (heap_at' (n := w1.heap.size) (by first | omega | (simp only [szA, szS, szD, World.heap_drewN] at * <;> omega)))
    have Os_2 := Lib.hid ((Os_1.out.alloc _).kept hb)
    have Ox_2 := Lib.hid (ho_x.mono (lo' := w.heap.size) (by first | omega | (simp only [szA, szS, szD, World.heap_drewN] at * <;> omega)) (Nat.le_refl _)); obtain ⟨ax1, px1, ax2, px2, ax3, px3, rfl, hx_x⟩ := ho_x; clear hx_x
    have Oya_2 := Lib.hid (Own.mono (base' := w.heap.size) ho_ya.own (by first | omega | (simp only [szA, szS, szD, World.heap_drewN] at * <;> omega))); obtain ⟨aya, pya, rfl, hx_ya⟩ := ho_ya; clear hx_ya
    clear hb
    obtain ⟨cs2_0, cs2_1, cs2_2, cs2_3, cs2_4, fs2_0, fs2_1, fs2_2, fs2_3, fs2_4⟩ := box5 Xs_2.out; have ls2 := heap_lt Xs_2.out
    have S2 : w.heap.size ≤ w2.heap.size := (by omega)
    go_wp2_with (fail)
    refine (sSendChanO _ cs y0 y1 r y b1 b2 _ ((Os_2.out.alloc _).row) HN.out HR.out).mono ?_
    rintro e w3 ⟨vt, vb, rfl, ho_t, ho_yb, hb⟩
    have B3 := Lib.hid (Below.trans (Below.alloc B2.out (by first | omega | (simp only [szA, szS, szD, World.heap_drewN] at * <;> omega)) _) (hb.mono (by first | omega | (simp only [szA, szS, szD, World.heap_drewN] at * <;> omega))) : Below w.heap.size w w3)
    have Z3 := hb.size
    have N3 : w2.heap.size + 1 ≤ w3.heap.size := (by first | with_reducible exact Z3 | (simp only [szA, szS, szD] at Z3; omega))
    clear Z3
    have Xs_3 := Lib.hid (below_at hb (heap_up Xs_2.out))
    have Xx_3 : Hid (w3.heap[w2.heap.size]? = some (.cells #[.int .i64 r.room, .slice ax1 r.items.length px1, .slice ax2 r.senders.length px2, .slice ax3 r.getters.length px3, .bool r.closed] 25 (0, 0))) := below_at hb (heap_at' (n := w2.heap.size) (by first | omega | (simp only [szA, szS, szD, World.heap_drewN] at * <;> omega)))
    have Os_3 := Lib.hid ((Os_2.out.alloc _).kept hb)
    have Ox_3 := Lib.hid ((Ox_2.out.alloc _).kept hb)
    have Oya_3 := Lib.hid ((Oya_2.out.alloc _).kept hb)
    have Ot_3 := Lib.hid (ho_t.mono (lo' := w.heap.size) (by first | omega | (simp only [szA, szS, szD, World.heap_drewN] at * <;> omega)) (Nat.le_refl _)); obtain ⟨at1, pt1, at2, pt2, at3, pt3, rfl, hx_t⟩ := ho_t; clear hx_t
    have Oyb_3 := Lib.hid (Own.mono (base' := w.heap.size) ho_yb.own (by first | omega | (simp only [szA, szS, szD, World.heap_drewN] at * <;> omega))); obtain ⟨ayb, pyb, rfl, hx_yb⟩ := ho_yb; clear hx_yb
    clear hb
    obtain ⟨cs3_0, cs3_1, cs3_2, cs3_3, cs3_4, fs3_0, fs3_1, fs3_2, fs3_3, fs3_4⟩ := box5 Xs_3.out; have ls3 := heap_lt Xs_3.out
    obtain ⟨cx3_0, cx3_1, cx3_2, cx3_3, cx3_4, fx3_0, fx3_1, fx3_2, fx3_3, fx3_4⟩ := box5 Xx_3.out; have lx3 := heap_lt Xx_3.out
    have S3 : w.heap.size ≤ w3.heap.size := (by omega)
    clear cs2_0 cs2_1 cs2_2 cs2_3 cs2_4 fs2_0 fs2_1 fs2_2 fs2_3 fs2_4
    go_wp2_with (fail)
    refine (ChanSameO _ _ r r _ ((Ox_3.out.alloc _).row) ((Ot_3.out.alloc _).row)).mono ?_
    rw [decide_eq_true rfl]
    rintro e w4 ⟨rfl, hb⟩
    have B4 := Lib.hid (Below.trans (Below.alloc B3.out (by first | omega | (simp only [szA, szS, szD, World.heap_drewN] at * <;> omega)) _) (hb.mono (by first | omega | (simp only [szA, szS, szD, World.heap_drewN] at * <;> omega))) : Below w.heap.size w w4)
    have Z4 := hb.size
    have N4 : w3.heap.size + 1 ≤ w4.heap.size := (by first | with_reducible exact Z4 | (simp only [szA, szS, szD] at Z4; omega))
    clear Z4
    have Xs_4 := Lib.hid (below_at hb (heap_up Xs_3.out))
    have Xx_4 := Lib.hid (below_at hb (heap_up Xx_3.out))
    have Xt_4 : Hid (w4.heap[w3.heap.size]? = some (.cells #[.int .i64 r.room, .slice at1 r.items.length pt1, .slice at2 r.senders.length pt2, .slice at3 r.getters.length pt3, .bool r.closed] 25 (0, 0))) := below_at hb (heap_at' (n := w3.heap.size) (by first | omega | (simp only [szA, szS, szD, World.heap_drewN] at * <;> omega)))
    have Os_4 := Lib.hid ((Os_3.out.alloc _).kept hb)
    have Ox_4 := Lib.hid ((Ox_3.out.alloc _).kept hb)
    have Oya_4 := Lib.hid ((Oya_3.out.alloc _).kept hb)
    have Ot_4 := Lib.hid ((Ot_3.out.alloc _).kept hb)
    have Oyb_4 := Lib.hid ((Oyb_3.out.alloc _).kept hb)
    clear hb
    obtain ⟨cs4_0, cs4_1, cs4_2, cs4_3, cs4_4, fs4_0, fs4_1, fs4_2, fs4_3, fs4_4⟩ := box5 Xs_4.out; have ls4 := heap_lt Xs_4.out
    obtain ⟨cx4_0, cx4_1, cx4_2, cx4_3, cx4_4, fx4_0, fx4_1, fx4_2, fx4_3, fx4_4⟩ := box5 Xx_4.out; have lx4 := heap_lt Xx_4.out
    obtain ⟨ct4_0, ct4_1, ct4_2, ct4_3, ct4_4, ft4_0, ft4_1, ft4_2, ft4_3, ft4_4⟩ := box5 Xt_4.out; have lt4 := heap_lt Xt_4.out
    have S4 : w.heap.size ≤ w4.heap.size := (by omega)
    clear cs3_0 cs3_1 cs3_2 cs3_3 cs3_4 fs3_0 fs3_1 fs3_2 fs3_3 fs3_4 cx3_0 cx3_1 cx3_2 cx3_3 cx3_4 fx3_0 fx3_1 fx3_2 fx3_3 fx3_4
    go_wp2_with (fail)
    refine (wkInts_calls _ _ y y _ (Oya_4.out.row encI_len) (Oyb_4.out.row encI_len)).mono ?_
    rw [decide_eq_true rfl]
    rintro e w5 ⟨rfl, hb⟩
    have B5 := Lib.hid (Below.trans B4.out (hb.mono (by first | omega | (simp only [szA, szS, szD, World.heap_drewN] at * <;> omega))) : Below w.heap.size w w5)
    have Z5 := hb.size
    have N5 : w4.heap.size ≤ w5.heap.size := (by first | with_reducible exact Z5 | (simp only [szA, szS, szD] at Z5; omega))
    clear Z5
    have Xs_5 := Lib.hid (below_at hb Xs_4.out)
    have Xx_5 := Lib.hid (below_at hb Xx_4.out)
    have Xt_5 := Lib.hid (below_at hb Xt_4.out)
    have Os_5 := Lib.hid (Os_4.out.kept hb)
    have Ox_5 := Lib.hid (Ox_4.out.kept hb)
    have Oya_5 := Lib.hid (Oya_4.out.kept hb)
    have Ot_5 := Lib.hid (Ot_4.out.kept hb)
    have Oyb_5 := Lib.hid (Oyb_4.out.kept hb)
    clear hb
    obtain ⟨cs5_0, cs5_1, cs5_2, cs5_3, cs5_4, fs5_0, fs5_1, fs5_2, fs5_3, fs5_4⟩ := box5 Xs_5.out; have ls5 := heap_lt Xs_5.out
    obtain ⟨cx5_0, cx5_1, cx5_2, cx5_3, cx5_4, fx5_0, fx5_1, fx5_2, fx5_3, fx5_4⟩ := box5 Xx_5.out; have lx5 := heap_lt Xx_5.out
    obtain ⟨ct5_0, ct5_1, ct5_2, ct5_3, ct5_4, ft5_0, ft5_1, ft5_2, ft5_3, ft5_4⟩ := box5 Xt_5.out; have lt5 := heap_lt Xt_5.out
    have S5 : w.heap.size ≤ w5.heap.size := (by omega)
    clear cs4_0 cs4_1 cs4_2 cs4_3 cs4_4 fs4_0 fs4_1 fs4_2 fs4_3 fs4_4 cx4_0 cx4_1 cx4_2 cx4_3 cx4_4 fx4_0 fx4_1 fx4_2 fx4_3 fx4_4 ct4_0 ct4_1 ct4_2 ct4_3 ct4_4 ft4_0 ft4_1 ft4_2 ft4_3 ft4_4
    cases b2
    · cases b1
      · go_wp2_with (fail)
        refine (ChanSameO _ _ r r _ (Ox_5.out.row) (Ot_5.out.row)).mono ?_
        rw [decide_eq_true rfl]
        rintro e w6 ⟨rfl, hb⟩
        have B6 := Lib.hid (Below.trans B5.out (hb.mono (by first | omega | (simp only [szA, szS, szD, World.heap_drewN] at * <;> omega))) : Below w.heap.size w w6)
        have Z6 := hb.size
        have N6 : w5.heap.size ≤ w6.heap.size := (by first | with_reducible exact Z6 | (simp only [szA, szS, szD] at Z6; omega))
        clear Z6
        have Xs_6 := Lib.hid (below_at hb Xs_5.out)
        have Xx_6 := Lib.hid (below_at hb Xx_5.out)
        have Xt_6 := Lib.hid (below_at hb Xt_5.out)
        have Os_6 := Lib.hid (Os_5.out.kept hb)
        have Ox_6 := Lib.hid (Ox_5.out.kept hb)
        have Oya_6 := Lib.hid (Oya_5.out.kept hb)
        have Ot_6 := Lib.hid (Ot_5.out.kept hb)
        have Oyb_6 := Lib.hid (Oyb_5.out.kept hb)
        clear hb
        obtain ⟨cs6_0, cs6_1, cs6_2, cs6_3, cs6_4, fs6_0, fs6_1, fs6_2, fs6_3, fs6_4⟩ := box5 Xs_6.out; have ls6 := heap_lt Xs_6.out
        obtain ⟨cx6_0, cx6_1, cx6_2, cx6_3, cx6_4, fx6_0, fx6_1, fx6_2, fx6_3, fx6_4⟩ := box5 Xx_6.out; have lx6 := heap_lt Xx_6.out
        obtain ⟨ct6_0, ct6_1, ct6_2, ct6_3, ct6_4, ft6_0, ft6_1, ft6_2, ft6_3, ft6_4⟩ := box5 Xt_6.out; have lt6 := heap_lt Xt_6.out
        have S6 : w.heap.size ≤ w6.heap.size := (by omega)
        clear cs5_0 cs5_1 cs5_2 cs5_3 cs5_4 fs5_0 fs5_1 fs5_2 fs5_3 fs5_4 cx5_0 cx5_1 cx5_2 cx5_3 cx5_4 fx5_0 fx5_1 fx5_2 fx5_3 fx5_4 ct5_0 ct5_1 ct5_2 ct5_3 ct5_4 ft5_0 ft5_1 ft5_2 ft5_3 ft5_4
        go_wp2_with (fail)
        refine (wkInts_calls _ _ y y _ (Oya_6.out.row encI_len) (Oyb_6.out.row encI_len)).mono ?_
        rw [decide_eq_true rfl]
        rintro e w7 ⟨rfl, hb⟩
        have B7 := Lib.hid (Below.trans B6.out (hb.mono (by first | omega | (simp only [szA, szS, szD, World.heap_drewN] at * <;> omega))) : Below w.heap.size w w7)
        have Z7 := hb.size
        have N7 : w6.heap.size ≤ w7.heap.size := (by first | with_reducible exact Z7 | (simp only [szA, szS, szD] at Z7; omega))
        clear Z7
        have Xs_7 := Lib.hid (below_at hb Xs_6.out)
        have Xx_7 := Lib.hid (below_at hb Xx_6.out)
        have Xt_7 := Lib.hid (below_at hb Xt_6.out)
        have Os_7 := Lib.hid (Os_6.out.kept hb)
        have Ox_7 := Lib.hid (Ox_6.out.kept hb)
        have Oya_7 := Lib.hid (Oya_6.out.kept hb)
        have Ot_7 := Lib.hid (Ot_6.out.kept hb)
        have Oyb_7 := Lib.hid (Oyb_6.out.kept hb)
        clear hb
        obtain ⟨cs7_0, cs7_1, cs7_2, cs7_3, cs7_4, fs7_0, fs7_1, fs7_2, fs7_3, fs7_4⟩ := box5 Xs_7.out; have ls7 := heap_lt Xs_7.out
        obtain ⟨cx7_0, cx7_1, cx7_2, cx7_3, cx7_4, fx7_0, fx7_1, fx7_2, fx7_3, fx7_4⟩ := box5 Xx_7.out; have lx7 := heap_lt Xx_7.out
        obtain ⟨ct7_0, ct7_1, ct7_2, ct7_3, ct7_4, ft7_0, ft7_1, ft7_2, ft7_3, ft7_4⟩ := box5 Xt_7.out; have lt7 := heap_lt Xt_7.out
        have S7 : w.heap.size ≤ w7.heap.size := (by omega)
        clear cs6_0 cs6_1 cs6_2 cs6_3 cs6_4 fs6_0 fs6_1 fs6_2 fs6_3 fs6_4 cx6_0 cx6_1 cx6_2 cx6_3 cx6_4 fx6_0 fx6_1 fx6_2 fx6_3 fx6_4 ct6_0 ct6_1 ct6_2 ct6_3 ct6_4 ft6_0 ft6_1 ft6_2 ft6_3 ft6_4
        go_wp2_with (fail)
        go_ret
        exact ⟨rfl, B7.out⟩
      · go_wp2_with (fail)
        refine (ChanSameO _ _ r r _ (Ox_5.out.row) (Ot_5.out.row)).mono ?_
        rw [decide_eq_true rfl]
        rintro e w6 ⟨rfl, hb⟩
        have B6 := Lib.hid (Below.trans B5.out (hb.mono (by first | omega | (simp only [szA, szS, szD, World.heap_drewN] at * <;> omega))) : Below w.heap.size w w6)
        have Z6 := hb.size
        have N6 : w5.heap.size ≤ w6.heap.size := (by first | with_reducible exact Z6 | (simp only [szA, szS, szD] at Z6; omega))
        clear Z6
        have Xs_6 := Lib.hid (below_at hb Xs_5.out)
        have Xx_6 := Lib.hid (below_at hb Xx_5.out)
        have Xt_6 := Lib.hid (below_at hb Xt_5.out)
        have Os_6 := Lib.hid (Os_5.out.kept hb)
        have Ox_6 := Lib.hid (Ox_5.out.kept hb)
        have Oya_6 := Lib.hid (Oya_5.out.kept hb)
        have Ot_6 := Lib.hid (Ot_5.out.kept hb)
        have Oyb_6 := Lib.hid (Oyb_5.out.kept hb)
        clear hb
        obtain ⟨cs6_0, cs6_1, cs6_2, cs6_3, cs6_4, fs6_0, fs6_1, fs6_2, fs6_3, fs6_4⟩ := box5 Xs_6.out; have ls6 := heap_lt Xs_6.out
        obtain ⟨cx6_0, cx6_1, cx6_2, cx6_3, cx6_4, fx6_0, fx6_1, fx6_2, fx6_3, fx6_4⟩ := box5 Xx_6.out; have lx6 := heap_lt Xx_6.out
        obtain ⟨ct6_0, ct6_1, ct6_2, ct6_3, ct6_4, ft6_0, ft6_1, ft6_2, ft6_3, ft6_4⟩ := box5 Xt_6.out; have lt6 := heap_lt Xt_6.out
        have S6 : w.heap.size ≤ w6.heap.size := (by omega)
        clear cs5_0 cs5_1 cs5_2 cs5_3 cs5_4 fs5_0 fs5_1 fs5_2 fs5_3 fs5_4 cx5_0 cx5_1 cx5_2 cx5_3 cx5_4 fx5_0 fx5_1 fx5_2 fx5_3 fx5_4 ct5_0 ct5_1 ct5_2 ct5_3 ct5_4 ft5_0 ft5_1 ft5_2 ft5_3 ft5_4
        go_wp2_with (fail)
        refine (wkInts_calls _ _ y y _ (Oya_6.out.row encI_len) (Oyb_6.out.row encI_len)).mono ?_
        rw [decide_eq_true rfl]
        rintro e w7 ⟨rfl, hb⟩
        have B7 := Lib.hid (Below.trans B6.out (hb.mono (by first | omega | (simp only [szA, szS, szD, World.heap_drewN] at * <;> omega))) : Below w.heap.size w w7)
        have Z7 := hb.size
        have N7 : w6.heap.size ≤ w7.heap.size := (by first | with_reducible exact Z7 | (simp only [szA, szS, szD] at Z7; omega))
        clear Z7
        have Xs_7 := Lib.hid (below_at hb Xs_6.out)
        have Xx_7 := Lib.hid (below_at hb Xx_6.out)
        have Xt_7 := Lib.hid (below_at hb Xt_6.out)
        have Os_7 := Lib.hid (Os_6.out.kept hb)
        have Ox_7 := Lib.hid (Ox_6.out.kept hb)
        have Oya_7 := Lib.hid (Oya_6.out.kept hb)
        have Ot_7 := Lib.hid (Ot_6.out.kept hb)
        have Oyb_7 := Lib.hid (Oyb_6.out.kept hb)
        clear hb
        obtain ⟨cs7_0, cs7_1, cs7_2, cs7_3, cs7_4, fs7_0, fs7_1, fs7_2, fs7_3, fs7_4⟩ := box5 Xs_7.out; have ls7 := heap_lt Xs_7.out
        obtain ⟨cx7_0, cx7_1, cx7_2, cx7_3, cx7_4, fx7_0, fx7_1, fx7_2, fx7_3, fx7_4⟩ := box5 Xx_7.out; have lx7 := heap_lt Xx_7.out
        obtain ⟨ct7_0, ct7_1, ct7_2, ct7_3, ct7_4, ft7_0, ft7_1, ft7_2, ft7_3, ft7_4⟩ := box5 Xt_7.out; have lt7 := heap_lt Xt_7.out
        have S7 : w.heap.size ≤ w7.heap.size := (by omega)
        clear cs6_0 cs6_1 cs6_2 cs6_3 cs6_4 fs6_0 fs6_1 fs6_2 fs6_3 fs6_4 cx6_0 cx6_1 cx6_2 cx6_3 cx6_4 fx6_0 fx6_1 fx6_2 fx6_3 fx6_4 ct6_0 ct6_1 ct6_2 ct6_3 ct6_4 ft6_0 ft6_1 ft6_2 ft6_3 ft6_4
        go_wp2_with (fail)
        go_ret
        exact ⟨rfl, B7.out⟩
    · obtain ⟨h1, h2, h3⟩ := send_ok HR.out
      have H1 := Lib.hid h1; have H2 := Lib.hid h2; clear h1 h2
      rcases h3 with ⟨h4, -, h6, rfl, -⟩ | ⟨h4, rfl, h5, -⟩
      · have H6 := Lib.hid h6; clear h6; have H4 := Lib.hid h4; clear h4
        by_cases hc : 0 < cs.room
        · have d1 := decide_eq_true hc
          go_wp2_with (fail)
          refine (ChanSameO _ _ r r _ (Ox_5.out.row) (Ot_5.out.row)).mono ?_
          rw [decide_eq_true rfl]
          rintro e w6 ⟨rfl, hb⟩
          have B6 := Lib.hid (Below.trans B5.out (hb.mono (by first | omega | (simp only [szA, szS, szD, World.heap_drewN] at * <;> omega))) : Below w.heap.size w w6)
          have Z6 := hb.size
          have N6 : w5.heap.size ≤ w6.heap.size := (by first | with_reducible exact Z6 | (simp only [szA, szS, szD] at Z6; omega))
          clear Z6
          have Xs_6 := Lib.hid (below_at hb Xs_5.out)
          have Xx_6 := Lib.hid (below_at hb Xx_5.out)
          have Xt_6 := Lib.hid (below_at hb Xt_5.out)
          have Os_6 := Lib.hid (Os_5.out.kept hb)
          have Ox_6 := Lib.hid (Ox_5.out.kept hb)
          have Oya_6 := Lib.hid (Oya_5.out.kept hb)
          have Ot_6 := Lib.hid (Ot_5.out.kept hb)
          have Oyb_6 := Lib.hid (Oyb_5.out.kept hb)
          clear hb
          obtain ⟨cs6_0, cs6_1, cs6_2, cs6_3, cs6_4, fs6_0, fs6_1, fs6_2, fs6_3, fs6_4⟩ := box5 Xs_6.out; have ls6 := heap_lt Xs_6.out
          obtain ⟨cx6_0, cx6_1, cx6_2, cx6_3, cx6_4, fx6_0, fx6_1, fx6_2, fx6_3, fx6_4⟩ := box5 Xx_6.out; have lx6 := heap_lt Xx_6.out
          obtain ⟨ct6_0, ct6_1, ct6_2, ct6_3, ct6_4, ft6_0, ft6_1, ft6_2, ft6_3, ft6_4⟩ := box5 Xt_6.out; have lt6 := heap_lt Xt_6.out
          have S6 : w.heap.size ≤ w6.heap.size := (by omega)
          clear cs5_0 cs5_1 cs5_2 cs5_3 cs5_4 fs5_0 fs5_1 fs5_2 fs5_3 fs5_4 cx5_0 cx5_1 cx5_2 cx5_3 cx5_4 fx5_0 fx5_1 fx5_2 fx5_3 fx5_4 ct5_0 ct5_1 ct5_2 ct5_3 ct5_4 ft5_0 ft5_1 ft5_2 ft5_3 ft5_4
          go_wp2_with (fail)
          refine (wkInts_calls _ _ y y _ (Oya_6.out.row encI_len) (Oyb_6.out.row encI_len)).mono ?_
          rw [decide_eq_true rfl]
          rintro e w7 ⟨rfl, hb⟩
          have B7 := Lib.hid (Below.trans B6.out (hb.mono (by first | omega | (simp only [szA, szS, szD, World.heap_drewN] at * <;> omega))) : Below w.heap.size w w7)
          have Z7 := hb.size
          have N7 : w6.heap.size ≤ w7.heap.size := (by first | with_reducible exact Z7 | (simp only [szA, szS, szD] at Z7; omega))
          clear Z7
          have Xs_7 := Lib.hid (below_at hb Xs_6.out)
          have Xx_7 := Lib.hid (below_at hb Xx_6.out)
          have Xt_7 := Lib.hid (below_at hb Xt_6.out)
          have Os_7 := Lib.hid (Os_6.out.kept hb)
          have Ox_7 := Lib.hid (Ox_6.out.kept hb)
          have Oya_7 := Lib.hid (Oya_6.out.kept hb)
          have Ot_7 := Lib.hid (Ot_6.out.kept hb)
          have Oyb_7 := Lib.hid (Oyb_6.out.kept hb)
          clear hb
          obtain ⟨cs7_0, cs7_1, cs7_2, cs7_3, cs7_4, fs7_0, fs7_1, fs7_2, fs7_3, fs7_4⟩ := box5 Xs_7.out; have ls7 := heap_lt Xs_7.out
          obtain ⟨cx7_0, cx7_1, cx7_2, cx7_3, cx7_4, fx7_0, fx7_1, fx7_2, fx7_3, fx7_4⟩ := box5 Xx_7.out; have lx7 := heap_lt Xx_7.out
          obtain ⟨ct7_0, ct7_1, ct7_2, ct7_3, ct7_4, ft7_0, ft7_1, ft7_2, ft7_3, ft7_4⟩ := box5 Xt_7.out; have lt7 := heap_lt Xt_7.out
          have S7 : w.heap.size ≤ w7.heap.size := (by omega)
          clear cs6_0 cs6_1 cs6_2 cs6_3 cs6_4 fs6_0 fs6_1 fs6_2 fs6_3 fs6_4 cx6_0 cx6_1 cx6_2 cx6_3 cx6_4 fx6_0 fx6_1 fx6_2 fx6_3 fx6_4 ct6_0 ct6_1 ct6_2 ct6_3 ct6_4 ft6_0 ft6_1 ft6_2 ft6_3 ft6_4
          go_wp2_with (fail)
          go_ret
          exact ⟨rfl, B7.out⟩
        · have d1 := decide_eq_false hc
          have e1 := len_ne H4.out
          have d2 := decide_eq_true H4.out
          have e2 : ((y.length : Int) == 1) = true := beq_iff_eq.2 (by have := H6.out; omega)
          have e3 : (y.length == 1) = true := beq_iff_eq.2 H6.out
          go_wp2_with (fail)
          go_ret
          exact ⟨rfl, B5.out⟩
      · have H5 := Lib.hid h5; clear h5; have H4 := Lib.hid h4; clear h4
        by_cases hc : 0 < cs.room
        · have d1 := decide_eq_true hc
          cases b1
          · go_wp2_with (fail)
            refine (ChanSameO _ _ r r _ (Ox_5.out.row) (Ot_5.out.row)).mono ?_
            rw [decide_eq_true rfl]
            rintro e w6 ⟨rfl, hb⟩
            have B6 := Lib.hid (Below.trans B5.out (hb.mono (by first | omega | (simp only [szA, szS, szD, World.heap_drewN] at * <;> omega))) : Below w.heap.size w w6)
            have Z6 := hb.size
            have N6 : w5.heap.size ≤ w6.heap.size := (by first | with_reducible exact Z6 | (simp only [szA, szS, szD] at Z6; omega))
            clear Z6
            have Xs_6 := Lib.hid (below_at hb Xs_5.out)
            have Xx_6 := Lib.hid (below_at hb Xx_5.out)
            have Xt_6 := Lib.hid (below_at hb Xt_5.out)
            have Os_6 := Lib.hid (Os_5.out.kept hb)
            have Ox_6 := Lib.hid (Ox_5.out.kept hb)
            have Oya_6 := Lib.hid (Oya_5.out.kept hb)
            have Ot_6 := Lib.hid (Ot_5.out.kept hb)
            have Oyb_6 := Lib.hid (Oyb_5.out.kept hb)
            clear hb
            obtain ⟨cs6_0, cs6_1, cs6_2, cs6_3, cs6_4, fs6_0, fs6_1, fs6_2, fs6_3, fs6_4⟩ := box5 Xs_6.out; have ls6 := heap_lt Xs_6.out
            obtain ⟨cx6_0, cx6_1, cx6_2, cx6_3, cx6_4, fx6_0, fx6_1, fx6_2, fx6_3, fx6_4⟩ := box5 Xx_6.out; have lx6 := heap_lt Xx_6.out
            obtain ⟨ct6_0, ct6_1, ct6_2, ct6_3, ct6_4, ft6_0, ft6_1, ft6_2, ft6_3, ft6_4⟩ := box5 Xt_6.out; have lt6 := heap_lt Xt_6.out
            have S6 : w.heap.size ≤ w6.heap.size := (by omega)
            clear cs5_0 cs5_1 cs5_2 cs5_3 cs5_4 fs5_0 fs5_1 fs5_2 fs5_3 fs5_4 cx5_0 cx5_1 cx5_2 cx5_3 cx5_4 fx5_0 fx5_1 fx5_2 fx5_3 fx5_4 ct5_0 ct5_1 ct5_2 ct5_3 ct5_4 ft5_0 ft5_1 ft5_2 ft5_3 ft5_4
            go_wp2_with (fail)
            refine (wkInts_calls _ _ [] [] _ (Oya_6.out.row encI_len) (Oyb_6.out.row encI_len)).mono ?_
            rw [decide_eq_true rfl]
            rintro e w7 ⟨rfl, hb⟩
            have B7 := Lib.hid (Below.trans B6.out (hb.mono (by first | omega | (simp only [szA, szS, szD, World.heap_drewN] at * <;> omega))) : Below w.heap.size w w7)
            have Z7 := hb.size
            have N7 : w6.heap.size ≤ w7.heap.size := (by first | with_reducible exact Z7 | (simp only [szA, szS, szD] at Z7; omega))
            clear Z7
            have Xs_7 := Lib.hid (below_at hb Xs_6.out)
            have Xx_7 := Lib.hid (below_at hb Xx_6.out)
            have Xt_7 := Lib.hid (below_at hb Xt_6.out)
            have Os_7 := Lib.hid (Os_6.out.kept hb)
            have Ox_7 := Lib.hid (Ox_6.out.kept hb)
            have Oya_7 := Lib.hid (Oya_6.out.kept hb)
            have Ot_7 := Lib.hid (Ot_6.out.kept hb)
            have Oyb_7 := Lib.hid (Oyb_6.out.kept hb)
            clear hb
            obtain ⟨cs7_0, cs7_1, cs7_2, cs7_3, cs7_4, fs7_0, fs7_1, fs7_2, fs7_3, fs7_4⟩ := box5 Xs_7.out; have ls7 := heap_lt Xs_7.out
            obtain ⟨cx7_0, cx7_1, cx7_2, cx7_3, cx7_4, fx7_0, fx7_1, fx7_2, fx7_3, fx7_4⟩ := box5 Xx_7.out; have lx7 := heap_lt Xx_7.out
            obtain ⟨ct7_0, ct7_1, ct7_2, ct7_3, ct7_4, ft7_0, ft7_1, ft7_2, ft7_3, ft7_4⟩ := box5 Xt_7.out; have lt7 := heap_lt Xt_7.out
            have S7 : w.heap.size ≤ w7.heap.size := (by omega)
            clear cs6_0 cs6_1 cs6_2 cs6_3 cs6_4 fs6_0 fs6_1 fs6_2 fs6_3 fs6_4 cx6_0 cx6_1 cx6_2 cx6_3 cx6_4 fx6_0 fx6_1 fx6_2 fx6_3 fx6_4 ct6_0 ct6_1 ct6_2 ct6_3 ct6_4 ft6_0 ft6_1 ft6_2 ft6_3 ft6_4
            go_wp2_with (fail)
            go_ret
            exact ⟨rfl, B7.out⟩
          · go_wp2_with (fail)
            refine (ChanSameO _ _ r r _ (Ox_5.out.row) (Ot_5.out.row)).mono ?_
            rw [decide_eq_true rfl]
            rintro e w6 ⟨rfl, hb⟩
            have B6 := Lib.hid (Below.trans B5.out (hb.mono (by first | omega | (simp only [szA, szS, szD, World.heap_drewN] at * <;> omega))) : Below w.heap.size w w6)
            have Z6 := hb.size
            have N6 : w5.heap.size ≤ w6.heap.size := (by first | with_reducible exact Z6 | (simp only [szA, szS, szD] at Z6; omega))
            clear Z6
            have Xs_6 := Lib.hid (below_at hb Xs_5.out)
            have Xx_6 := Lib.hid (below_at hb Xx_5.out)
            have Xt_6 := Lib.hid (below_at hb Xt_5.out)
            have Os_6 := Lib.hid (Os_5.out.kept hb)
            have Ox_6 := Lib.hid (Ox_5.out.kept hb)
            have Oya_6 := Lib.hid (Oya_5.out.kept hb)
            have Ot_6 := Lib.hid (Ot_5.out.kept hb)
            have Oyb_6 := Lib.hid (Oyb_5.out.kept hb)
            clear hb
            obtain ⟨cs6_0, cs6_1, cs6_2, cs6_3, cs6_4, fs6_0, fs6_1, fs6_2, fs6_3, fs6_4⟩ := box5 Xs_6.out; have ls6 := heap_lt Xs_6.out
            obtain ⟨cx6_0, cx6_1, cx6_2, cx6_3, cx6_4, fx6_0, fx6_1, fx6_2, fx6_3, fx6_4⟩ := box5 Xx_6.out; have lx6 := heap_lt Xx_6.out
            obtain ⟨ct6_0, ct6_1, ct6_2, ct6_3, ct6_4, ft6_0, ft6_1, ft6_2, ft6_3, ft6_4⟩ := box5 Xt_6.out; have lt6 := heap_lt Xt_6.out
            have S6 : w.heap.size ≤ w6.heap.size := (by omega)
            clear cs5_0 cs5_1 cs5_2 cs5_3 cs5_4 fs5_0 fs5_1 fs5_2 fs5_3 fs5_4 cx5_0 cx5_1 cx5_2 cx5_3 cx5_4 fx5_0 fx5_1 fx5_2 fx5_3 fx5_4 ct5_0 ct5_1 ct5_2 ct5_3 ct5_4 ft5_0 ft5_1 ft5_2 ft5_3 ft5_4
            go_wp2_with (fail)
            refine (wkInts_calls _ _ [] [] _ (Oya_6.out.row encI_len) (Oyb_6.out.row encI_len)).mono ?_
            rw [decide_eq_true rfl]
            rintro e w7 ⟨rfl, hb⟩
            have B7 := Lib.hid (Below.trans B6.out (hb.mono (by first | omega | (simp only [szA, szS, szD, World.heap_drewN] at * <;> omega))) : Below w.heap.size w w7)
            have Z7 := hb.size
            have N7 : w6.heap.size ≤ w7.heap.size := (by first | with_reducible exact Z7 | (simp only [szA, szS, szD] at Z7; omega))
            clear Z7
            have Xs_7 := Lib.hid (below_at hb Xs_6.out)
            have Xx_7 := Lib.hid (below_at hb Xx_6.out)
            have Xt_7 := Lib.hid (below_at hb Xt_6.out)
            have Os_7 := Lib.hid (Os_6.out.kept hb)
            have Ox_7 := Lib.hid (Ox_6.out.kept hb)
            have Oya_7 := Lib.hid (Oya_6.out.kept hb)
            have Ot_7 := Lib.hid (Ot_6.out.kept hb)
            have Oyb_7 := Lib.hid (Oyb_6.out.kept hb)
            clear hb
            obtain ⟨cs7_0, cs7_1, cs7_2, cs7_3, cs7_4, fs7_0, fs7_1, fs7_2, fs7_3, fs7_4⟩ := box5 Xs_7.out; have ls7 := heap_lt Xs_7.out
            obtain ⟨cx7_0, cx7_1, cx7_2, cx7_3, cx7_4, fx7_0, fx7_1, fx7_2, fx7_3, fx7_4⟩ := box5 Xx_7.out; have lx7 := heap_lt Xx_7.out
            obtain ⟨ct7_0, ct7_1, ct7_2, ct7_3, ct7_4, ft7_0, ft7_1, ft7_2, ft7_3, ft7_4⟩ := box5 Xt_7.out; have lt7 := heap_lt Xt_7.out
            have S7 : w.heap.size ≤ w7.heap.size := (by omega)
            clear cs6_0 cs6_1 cs6_2 cs6_3 cs6_4 fs6_0 fs6_1 fs6_2 fs6_3 fs6_4 cx6_0 cx6_1 cx6_2 cx6_3 cx6_4 fx6_0 fx6_1 fx6_2 fx6_3 fx6_4 ct6_0 ct6_1 ct6_2 ct6_3 ct6_4 ft6_0 ft6_1 ft6_2 ft6_3 ft6_4
            go_wp2_with (fail)
            go_ret
            exact ⟨rfl, B7.out⟩
        · have d1 := decide_eq_false hc
          obtain rfl : b1 = false := by rw [H5.out]; exact decide_eq_false (by omega)
          have e1 := len_eq (n := cs.getters.length) (by have := H4.out; omega)
          have d2 : decide (0 < cs.getters.length) = false := decide_eq_false (by have := H4.out; omega)
          go_wp2_with (fail)
          go_ret
          exact ⟨rfl, B5.out⟩

  · go_enter Try.func10, Try.ntmps10
    go_wp2
    go_ret
    exact ⟨rfl, Below.refl _ _⟩
end Go.Proofs.Ytpgiinklbnlloaa
