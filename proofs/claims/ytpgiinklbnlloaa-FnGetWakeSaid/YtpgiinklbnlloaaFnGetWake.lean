/- FnGetWake: the law's walk (made by gen_chanlaws.py). -/
import Derived.Test.YtpgiinklbnlloaaDrawsChan
import Derived.Test.YtpgiinklbnlloaaLawChan
import Derived.Test.YtpgiinklbnlloaaBytes
import Derived.Test.YtpgiinklbnlloaaChanGet
namespace Go.Proofs.Ytpgiinklbnlloaa
open Go.RowKit
set_option linter.unusedSimpArgs false
set_option linter.unusedVariables false
theorem get_wake {c r : ChanD} {t v s : Int} {y : List Int} {z : Int × Int} (h : getC c t = (r, v, s, y, true)) (hz : c.senders[0]? = some z) : y = [z.1] ∧ r.senders.length + 1 = c.senders.length ∧ r.items.length = c.items.length ∧ c.senders.length ≤ 6 := by
  cases hn : getOk c t
  · obtain ⟨_, _, _, _, e⟩ := get_no h hn; cases e
  · have hv : chanB c = true := by simp only [getOk, Bool.and_eq_true] at hn; exact hn.1.1
    have hs := (chanB_true.1 hv).small
    have hl : 0 < c.senders.length := (List.getElem?_eq_some_iff.1 hz).1
    obtain ⟨zs, hzs⟩ : ∃ zs, c.items ++ [z.2] = zs := ⟨_, rfl⟩
    have hzl : zs.length = c.items.length + 1 := by rw [← hzs]; simp
    obtain ⟨x, hx⟩ := get_ex (show 0 < zs.length by omega)
    obtain ⟨rfl, _, _, rfl, _⟩ := get_send h hn hz hzs hx
    refine ⟨rfl, ?_, ?_, by omega⟩
    · simp only [List.length_drop]; omega
    · simp only [List.length_drop]; omega
set_option maxRecDepth 100000 in
set_option maxHeartbeats 8000000 in
theorem FnGetWake_calls (v : Value) (bs : List Int) (w : World) (h : Row 1 encB w v bs) (hbs : ∀ x ∈ bs, 0 ≤ x ∧ x ≤ 255) :
    Calls Try.prog 11 #[v] w fun e w' => e = .returned (.bool true) ∧ Below w.heap.size w w' := by
  have HB := Lib.hid hbs; clear hbs
  have H0 := Lib.hid h
  obtain ⟨a, c, rfl, l1, l2, l3⟩ := h
  clear l3
  by_cases hl : bs.length ≤ 1048576
  · go_enter Try.func11, Try.ntmps11
    go_wp2_with (fail)
    refine (DrawGetChan_calls _ bs _ (Row.below H0.out (Below.refl _ _)) HB.out).mono ?_
    rintro e w1 ⟨vs, cs, y0, rfl, ho_s, hfs, -, hb⟩
    have B1 := Lib.hid (Below.trans (Below.refl _ _) (hb.mono (by first | omega | (simp only [szA, szS, szD, World.heap_drewN] at * <;> omega))) : Below w.heap.size w w1)
    have Z1 := hb.size
    have N1 : w.heap.size ≤ w1.heap.size := (by first | with_reducible exact Z1 | (simp only [szA, szS, szD] at Z1; omega))
    clear Z1
    have Os_1 := Lib.hid (ho_s.mono (lo' := w.heap.size) (by first | omega | (simp only [szA, szS, szD, World.heap_drewN] at * <;> omega)) (Nat.le_refl _)); obtain ⟨as1, ps1, as2, ps2, as3, ps3, rfl, hx_s⟩ := ho_s; clear hx_s
    clear hb
    have S1 : w.heap.size ≤ w1.heap.size := (by omega)
    have HN := Lib.hid (few_small hfs (by decide)); clear hfs
    obtain ⟨r, x, s1, y, b1, hr⟩ : ∃ r x s1 y b1, getC cs y0 = (r, x, s1, y, b1) := ⟨_, _, _, _, _, rfl⟩
    have HR := Lib.hid hr; clear hr
    go_wp2_with (fail)
    refine (GetChanO _ cs y0 r x s1 y b1 _ ((Os_1.out.alloc _).row) HN.out HR.out).mono ?_
    rintro e w2 ⟨vx, va, rfl, ho_x, ho_ya, hb⟩
    have B2 := Lib.hid (Below.trans (Below.alloc B1.out (by first | omega | (simp only [szA, szS, szD, World.heap_drewN] at * <;> omega)) _) (hb.mono (by first | omega | (simp only [szA, szS, szD, World.heap_drewN] at * <;> omega))) : Below w.heap.size w w2)
    have Z2 := hb.size
    have N2 : w1.heap.size + 1 ≤ w2.heap.size := (by first | with_reducible exact Z2 | (simp only [szA, szS, szD] at Z2; omega))
    clear Z2
    have Xs_2 : Hid (w2.heap[w1.heap.size]? = some (.cells #[.int .i64 cs.room, .slice as1 cs.items.length ps1, .slice as2 cs.senders.length ps2, .slice as3 cs.getters.length ps3, .bool cs.closed] 25 (0, 0))) := below_at hb (heap_at' (n := w1.heap.size) (by first | omega | (simp only [szA, szS, szD, World.heap_drewN] at * <;> omega)))
    have Os_2 := Lib.hid ((Os_1.out.alloc _).kept hb)
    have Ox_2 := Lib.hid (ho_x.mono (lo' := w.heap.size) (by first | omega | (simp only [szA, szS, szD, World.heap_drewN] at * <;> omega)) (Nat.le_refl _)); obtain ⟨ax1, px1, ax2, px2, ax3, px3, rfl, hx_x⟩ := ho_x; clear hx_x
    have Oya_2 := Lib.hid (Own.mono (base' := w.heap.size) ho_ya.own (by first | omega | (simp only [szA, szS, szD, World.heap_drewN] at * <;> omega))); obtain ⟨aya, pya, rfl, hx_ya⟩ := ho_ya; clear hx_ya
    clear hb
    obtain ⟨cs2_0, cs2_1, cs2_2, cs2_3, cs2_4, fs2_0, fs2_1, fs2_2, fs2_3, fs2_4⟩ := box5 Xs_2.out; have ls2 := heap_lt Xs_2.out
    have S2 : w.heap.size ≤ w2.heap.size := (by omega)
    go_wp2_with (fail)
    refine (sGetChanO _ cs y0 r x s1 y b1 _ ((Os_2.out.alloc _).row) HN.out HR.out).mono ?_
    rintro e w3 ⟨vt, vb, rfl, ho_t, ho_yb, hb⟩
    have B3 := Lib.hid (Below.trans (Below.alloc B2.out (by first | omega | (simp only [szA, szS, szD, World.heap_drewN] at * <;> omega)) _) (hb.mono (by first | omega | (simp only [szA, szS, szD, World.heap_drewN] at * <;> omega))) : Below w.heap.size w w3)
    have Z3 := hb.size
    have N3 : w2.heap.size + 1 ≤ w3.heap.size := (by first | with_reducible exact Z3 | (simp only [szA, szS, szD] at Z3; omega))
    clear Z3
    have Xs_3 := Lib.hid (below_at hb (heap_up Xs_2.out))
    have Xx_3 : Hid (w3.heap[w2.heap.size]? = some (.cells #[.int .i64 r.room, .slice ax1 r.items.length px1, .slice ax2 r.senders.length px2, .slice ax3 r.getters.length px3, .bool r.closed] 25 (0, 0))) := below_at hb (heap_at' (n := w2.heap.size) (by first | omega | (simp only [szA, szS, szD, World.heap_drewN] at * <;> omega)))
    have Os_3 := Lib.hid ((Os_2.out.alloc _).kept hb)
    have Ox_3 := Lib.hid ((Ox_2.out.alloc _).kept hb)
    have Oya_3 := Lib.hid ((Oya_2.out.alloc _).kept hb)
    have Ot_3 := Lib.hid (ho_t.mono (lo' := w.heap.size) (by first | omega | (simp only [szA, szS, szD, World.heap_drewN] at * <;> omega)) (Nat.le_refl _)); obtain ⟨at1, pt1, at2, pt2, at3, pt3, rfl, hx_t⟩ := ho_t; clear hx_t
    have Oyb_3 := Lib.hid (Own.mono (base' := w.heap.size) ho_yb.own (by first | omega | (simp only [szA, szS, szD, World.heap_drewN] at * <;> omega))); obtain ⟨ayb, pyb, rfl, hx_yb⟩ := ho_yb; clear hx_yb
    clear hb
    obtain ⟨cs3_0, cs3_1, cs3_2, cs3_3, cs3_4, fs3_0, fs3_1, fs3_2, fs3_3, fs3_4⟩ := box5 Xs_3.out; have ls3 := heap_lt Xs_3.out
    obtain ⟨cx3_0, cx3_1, cx3_2, cx3_3, cx3_4, fx3_0, fx3_1, fx3_2, fx3_3, fx3_4⟩ := box5 Xx_3.out; have lx3 := heap_lt Xx_3.out
    have S3 : w.heap.size ≤ w3.heap.size := (by omega)
    clear cs2_0 cs2_1 cs2_2 cs2_3 cs2_4 fs2_0 fs2_1 fs2_2 fs2_3 fs2_4
    go_wp2_with (fail)
    refine (ChanSameO _ _ r r _ ((Ox_3.out.alloc _).row) ((Ot_3.out.alloc _).row)).mono ?_
    rw [decide_eq_true rfl]
    rintro e w4 ⟨rfl, hb⟩
    have B4 := Lib.hid (Below.trans (Below.alloc B3.out (by first | omega | (simp only [szA, szS, szD, World.heap_drewN] at * <;> omega)) _) (hb.mono (by first | omega | (simp only [szA, szS, szD, World.heap_drewN] at * <;> omega))) : Below w.heap.size w w4)
    have Z4 := hb.size
    have N4 : w3.heap.size + 1 ≤ w4.heap.size := (by first | with_reducible exact Z4 | (simp only [szA, szS, szD] at Z4; omega))
    clear Z4
    have Xs_4 := Lib.hid (below_at hb (heap_up Xs_3.out))
    have Xx_4 := Lib.hid (below_at hb (heap_up Xx_3.out))
    have Xt_4 : Hid (w4.heap[w3.heap.size]? = some (.cells #[.int .i64 r.room, .slice at1 r.items.length pt1, .slice at2 r.senders.length pt2, .slice at3 r.getters.length pt3, .bool r.closed] 25 (0, 0))) := below_at hb (heap_at' (n := w3.heap.size) (by first | omega | (simp only [szA, szS, szD, World.heap_drewN] at * <;> omega)))
    have Os_4 := Lib.hid ((Os_3.out.alloc _).kept hb)
    have Ox_4 := Lib.hid ((Ox_3.out.alloc _).kept hb)
    have Oya_4 := Lib.hid ((Oya_3.out.alloc _).kept hb)
    have Ot_4 := Lib.hid ((Ot_3.out.alloc _).kept hb)
    have Oyb_4 := Lib.hid ((Oyb_3.out.alloc _).kept hb)
    clear hb
    obtain ⟨cs4_0, cs4_1, cs4_2, cs4_3, cs4_4, fs4_0, fs4_1, fs4_2, fs4_3, fs4_4⟩ := box5 Xs_4.out; have ls4 := heap_lt Xs_4.out
    obtain ⟨cx4_0, cx4_1, cx4_2, cx4_3, cx4_4, fx4_0, fx4_1, fx4_2, fx4_3, fx4_4⟩ := box5 Xx_4.out; have lx4 := heap_lt Xx_4.out
    obtain ⟨ct4_0, ct4_1, ct4_2, ct4_3, ct4_4, ft4_0, ft4_1, ft4_2, ft4_3, ft4_4⟩ := box5 Xt_4.out; have lt4 := heap_lt Xt_4.out
    have S4 : w.heap.size ≤ w4.heap.size := (by omega)
    clear cs3_0 cs3_1 cs3_2 cs3_3 cs3_4 fs3_0 fs3_1 fs3_2 fs3_3 fs3_4 cx3_0 cx3_1 cx3_2 cx3_3 cx3_4 fx3_0 fx3_1 fx3_2 fx3_3 fx3_4
    go_wp2_with (fail)
    refine (wkInts_calls _ _ y y _ (Oya_4.out.row encI_len) (Oyb_4.out.row encI_len)).mono ?_
    rw [decide_eq_true rfl]
    rintro e w5 ⟨rfl, hb⟩
    have B5 := Lib.hid (Below.trans B4.out (hb.mono (by first | omega | (simp only [szA, szS, szD, World.heap_drewN] at * <;> omega))) : Below w.heap.size w w5)
    have Z5 := hb.size
    have N5 : w4.heap.size ≤ w5.heap.size := (by first | with_reducible exact Z5 | (simp only [szA, szS, szD] at Z5; omega))
    clear Z5
    have Xs_5 := Lib.hid (below_at hb Xs_4.out)
    have Xx_5 := Lib.hid (below_at hb Xx_4.out)
    have Xt_5 := Lib.hid (below_at hb Xt_4.out)
    have Os_5 := Lib.hid (Os_4.out.kept hb)
    have Ox_5 := Lib.hid (Ox_4.out.kept hb)
    have Oya_5 := Lib.hid (Oya_4.out.kept hb)
    have Ot_5 := Lib.hid (Ot_4.out.kept hb)
    have Oyb_5 := Lib.hid (Oyb_4.out.kept hb)
    clear hb
    obtain ⟨cs5_0, cs5_1, cs5_2, cs5_3, cs5_4, fs5_0, fs5_1, fs5_2, fs5_3, fs5_4⟩ := box5 Xs_5.out; have ls5 := heap_lt Xs_5.out
    obtain ⟨cx5_0, cx5_1, cx5_2, cx5_3, cx5_4, fx5_0, fx5_1, fx5_2, fx5_3, fx5_4⟩ := box5 Xx_5.out; have lx5 := heap_lt Xx_5.out
    obtain ⟨ct5_0, ct5_1, ct5_2, ct5_3, ct5_4, ft5_0, ft5_1, ft5_2, ft5_3, ft5_4⟩ := box5 Xt_5.out; have lt5 := heap_lt Xt_5.out
    have S5 : w.heap.size ≤ w5.heap.size := (by omega)
    clear cs4_0 cs4_1 cs4_2 cs4_3 cs4_4 fs4_0 fs4_1 fs4_2 fs4_3 fs4_4 cx4_0 cx4_1 cx4_2 cx4_3 cx4_4 fx4_0 fx4_1 fx4_2 fx4_3 fx4_4 ct4_0 ct4_1 ct4_2 ct4_3 ct4_4 ft4_0 ft4_1 ft4_2 ft4_3 ft4_4
    cases b1
    · go_wp2_with (fail)
      refine (ChanSameO _ _ r r _ (Ox_5.out.row) (Ot_5.out.row)).mono ?_
      rw [decide_eq_true rfl]
      rintro e w6 ⟨rfl, hb⟩
      have B6 := Lib.hid (Below.trans B5.out (hb.mono (by first | omega | (simp only [szA, szS, szD, World.heap_drewN] at * <;> omega))) : Below w.heap.size w w6)
      have Z6 := hb.size
      have N6 : w5.heap.size ≤ w6.heap.size := (by first | with_reducible exact Z6 | (simp only [szA, szS, szD] at Z6; omega))
      clear Z6
      have Xs_6 := Lib.hid (below_at hb Xs_5.out)
      have Xx_6 := Lib.hid (below_at hb Xx_5.out)
      have Xt_6 := Lib.hid (below_at hb Xt_5.out)
      have Os_6 := Lib.hid (Os_5.out.kept hb)
      have Ox_6 := Lib.hid (Ox_5.out.kept hb)
      have Oya_6 := Lib.hid (Oya_5.out.kept hb)
      have Ot_6 := Lib.hid (Ot_5.out.kept hb)
      have Oyb_6 := Lib.hid (Oyb_5.out.kept hb)
      clear hb
      obtain ⟨cs6_0, cs6_1, cs6_2, cs6_3, cs6_4, fs6_0, fs6_1, fs6_2, fs6_3, fs6_4⟩ := box5 Xs_6.out; have ls6 := heap_lt Xs_6.out
      obtain ⟨cx6_0, cx6_1, cx6_2, cx6_3, cx6_4, fx6_0, fx6_1, fx6_2, fx6_3, fx6_4⟩ := box5 Xx_6.out; have lx6 := heap_lt Xx_6.out
      obtain ⟨ct6_0, ct6_1, ct6_2, ct6_3, ct6_4, ft6_0, ft6_1, ft6_2, ft6_3, ft6_4⟩ := box5 Xt_6.out; have lt6 := heap_lt Xt_6.out
      have S6 : w.heap.size ≤ w6.heap.size := (by omega)
      clear cs5_0 cs5_1 cs5_2 cs5_3 cs5_4 fs5_0 fs5_1 fs5_2 fs5_3 fs5_4 cx5_0 cx5_1 cx5_2 cx5_3 cx5_4 fx5_0 fx5_1 fx5_2 fx5_3 fx5_4 ct5_0 ct5_1 ct5_2 ct5_3 ct5_4 ft5_0 ft5_1 ft5_2 ft5_3 ft5_4
      go_wp2_with (fail)
      refine (wkInts_calls _ _ y y _ (Oya_6.out.row encI_len) (Oyb_6.out.row encI_len)).mono ?_
      rw [decide_eq_true rfl]
      rintro e w7 ⟨rfl, hb⟩
      have B7 := Lib.hid (Below.trans B6.out (hb.mono (by first | omega | (simp only [szA, szS, szD, World.heap_drewN] at * <;> omega))) : Below w.heap.size w w7)
      have Z7 := hb.size
      have N7 : w6.heap.size ≤ w7.heap.size := (by first | with_reducible exact Z7 | (simp only [szA, szS, szD] at Z7; omega))
      clear Z7
      have Xs_7 := Lib.hid (below_at hb Xs_6.out)
      have Xx_7 := Lib.hid (below_at hb Xx_6.out)
      have Xt_7 := Lib.hid (below_at hb Xt_6.out)
      have Os_7 := Lib.hid (Os_6.out.kept hb)
      have Ox_7 := Lib.hid (Ox_6.out.kept hb)
      have Oya_7 := Lib.hid (Oya_6.out.kept hb)
      have Ot_7 := Lib.hid (Ot_6.out.kept hb)
      have Oyb_7 := Lib.hid (Oyb_6.out.kept hb)
      clear hb
      obtain ⟨cs7_0, cs7_1, cs7_2, cs7_3, cs7_4, fs7_0, fs7_1, fs7_2, fs7_3, fs7_4⟩ := box5 Xs_7.out; have ls7 := heap_lt Xs_7.out
      obtain ⟨cx7_0, cx7_1, cx7_2, cx7_3, cx7_4, fx7_0, fx7_1, fx7_2, fx7_3, fx7_4⟩ := box5 Xx_7.out; have lx7 := heap_lt Xx_7.out
      obtain ⟨ct7_0, ct7_1, ct7_2, ct7_3, ct7_4, ft7_0, ft7_1, ft7_2, ft7_3, ft7_4⟩ := box5 Xt_7.out; have lt7 := heap_lt Xt_7.out
      have S7 : w.heap.size ≤ w7.heap.size := (by omega)
      clear cs6_0 cs6_1 cs6_2 cs6_3 cs6_4 fs6_0 fs6_1 fs6_2 fs6_3 fs6_4 cx6_0 cx6_1 cx6_2 cx6_3 cx6_4 fx6_0 fx6_1 fx6_2 fx6_3 fx6_4 ct6_0 ct6_1 ct6_2 ct6_3 ct6_4 ft6_0 ft6_1 ft6_2 ft6_3 ft6_4
      go_wp2_with (fail)
      go_ret
      exact ⟨rfl, B7.out⟩
    · by_cases hq : 0 < cs.senders.length
      · obtain ⟨z, hz⟩ := get_ex hq
        obtain ⟨g1, g2, g3, g4⟩ := get_wake HR.out hz
        have G1 := Lib.hid g1; have G2 := Lib.hid g2; have G3 := Lib.hid g3; have HZ := Lib.hid hz; have HQ := Lib.hid hq; have hql := g4; clear g1 g2 g3 g4 hz hq
        have d1 := len_ne HQ.out
        have e1 : ((y.length : Int) == 1) = true := beq_iff_eq.2 (by rw [G1.out]; rfl)
        have e2 : (y.length == 1) = true := beq_iff_eq.2 (by rw [G1.out]; rfl)
        have e3 : (0 : Int) < (y.length : Int) := (by rw [G1.out]; simp)
        have e4 : (0 : Int) < (cs.senders.length : Int) := (by have := HQ.out; omega)
        have e5 : 0 < y.length := (by rw [G1.out]; simp)
        have e6 := HQ.out
        have e7 : ((r.senders.length : Int) == (cs.senders.length : Int) - 1) = true := beq_iff_eq.2 (by have := G2.out; omega)
        have e8 : ((r.items.length : Int) == (cs.items.length : Int)) = true := beq_iff_eq.2 (by have := G3.out; omega)
        have e9 : (r.items.length == cs.items.length) = true := beq_iff_eq.2 G3.out
        have e10 : IntKind.i64.wrap ((cs.senders.length : Int) - 1) = (cs.senders.length : Int) - 1 := IntWalk.i64_in _ (by omega)
        obtain ⟨yb, yo, hya, hylt, hyc⟩ := irow_at (Own.row encI_len Oya_5.out) e5
        subst hya
        have c_0_0 := hyc 0 z.1 (by rw [G1.out]; rfl)
        obtain ⟨gb, go, hga, hglt, hgc⟩ := prow_at (ChanRow.parts Os_5.out.row).2.1 e6
        subst hga
        have c_1_0 := (hgc 0 z HZ.out).1
        simp only [Nat.zero_mul, Nat.add_zero] at c_0_0 c_1_0
        clear hyc hgc
        go_wp2_with (fail)
        obtain ⟨hi_s, HI_s⟩ : ∃ hi, ChanOwn w.heap.size hi w5 (.agg #[.int .i64 cs.room, .slice as1 cs.items.length ps1, .slice (some ⟨gb, go, none⟩) cs.senders.length ps2, .slice as3 cs.getters.length ps3, .bool cs.closed]) cs := ⟨_, Os_5.out⟩
        have hN0 : w5.heap.size ≤ w5.heap.size := (by first | omega | (simp only [szA, szS, szD, World.heap_drewN] at * <;> omega))
        have c0_0 := c_0_0; have c1_0 := c_1_0
        refine wp_region_L [⟨0, false, [], fun _ v _ => v = .slice (some ⟨yb, yo, none⟩) y.length pya⟩, ⟨1, false, [0], fun _ v _ => v = .int .i64 (y.length : Int)⟩, ⟨2, false, [0, 1], fun _ v _ => v = .bool true⟩, ⟨3, false, [0, 1, 2], fun _ v _ => v = .bool true⟩, ⟨4, false, [0, 1, 2, 3], fun _ v _ => v = .slice (some ⟨yb, yo, none⟩) y.length pya⟩, ⟨5, false, [0, 1, 2, 3, 4], fun _ v _ => v = .pointer (some ⟨yb, yo, none⟩)⟩, ⟨6, false, [0, 1, 2, 3, 4, 5], fun _ v _ => v = .int .i64 z.1⟩, ⟨7, false, [0, 1, 2, 3], fun _ v _ => v = .pointer (some ⟨w1.heap.size, 2, none⟩)⟩, ⟨8, false, [0, 1, 2, 3, 7], fun _ v _ => v = .slice (some ⟨gb, go, none⟩) cs.senders.length ps2⟩, ⟨9, false, [0, 1, 2, 3, 7, 8], fun _ v _ => v = .pointer (some ⟨gb, go, none⟩)⟩, ⟨10, false, [0, 1, 2, 3, 7, 8, 9], fun _ v _ => v = .pointer (some ⟨gb, go, none⟩)⟩, ⟨11, false, [0, 1, 2, 3, 7, 8, 9, 10], fun _ v _ => v = .int .i64 z.1⟩, ⟨12, false, [0, 1, 2, 3, 4, 5, 6, 7, 8, 9, 10, 11], fun _ v _ => v = .bool true⟩, ⟨13, false, [0, 1, 2, 3, 4, 5, 6, 7, 8, 9, 10, 11, 12], fun _ v _ => v = .bool true⟩, ⟨14, false, [0, 1, 2, 3, 4, 5, 6, 7, 8, 9, 10, 11, 12, 13], fun _ v _ => v = .bool true⟩, ⟨15, false, [0, 1, 2, 3, 4, 5, 6, 7, 8, 9, 10, 11, 12, 13, 14], fun _ v _ => v = .pointer (some ⟨w2.heap.size, 2, none⟩)⟩, ⟨16, false, [0, 1, 2, 3, 4, 5, 6, 7, 8, 9, 10, 11, 12, 13, 14, 15], fun _ v _ => v = .slice ax2 r.senders.length px2⟩, ⟨17, false, [0, 1, 2, 3, 4, 5, 6, 7, 8, 9, 10, 11, 12, 13, 14, 15, 16], fun _ v _ => v = .int .i64 (r.senders.length : Int)⟩, ⟨18, false, [0, 1, 2, 3, 4, 5, 6, 7, 8, 9, 10, 11, 12, 13, 14], fun _ v _ => v = .pointer (some ⟨w1.heap.size, 2, none⟩)⟩, ⟨19, false, [0, 1, 2, 3, 4, 5, 6, 7, 8, 9, 10, 11, 12, 13, 14, 18], fun _ v _ => v = .slice (some ⟨gb, go, none⟩) cs.senders.length ps2⟩, ⟨20, false, [0, 1, 2, 3, 4, 5, 6, 7, 8, 9, 10, 11, 12, 13, 14, 18, 19], fun _ v _ => v = .int .i64 (cs.senders.length : Int)⟩, ⟨21, false, [0, 1, 2, 3, 4, 5, 6, 7, 8, 9, 10, 11, 12, 13, 14, 18, 19, 20], fun _ v _ => v = .int .i64 ((cs.senders.length : Int) - 1)⟩, ⟨22, false, [0, 1, 2, 3, 4, 5, 6, 7, 8, 9, 10, 11, 12, 13, 14, 15, 16, 17, 18, 19, 20, 21], fun _ v _ => v = .bool true⟩, ⟨23, false, [0, 1, 2, 3, 4, 5, 6, 7, 8, 9, 10, 11, 12, 13, 14, 15, 16, 17, 18, 19, 20, 21, 22], fun _ v _ => v = .bool true⟩, ⟨24, false, [0, 1, 2, 3, 4, 5, 6, 7, 8, 9, 10, 11, 12, 13, 14, 15, 16, 17, 18, 19, 20, 21, 22, 23], fun _ v _ => v = .bool true⟩, ⟨25, false, [0, 1, 2, 3, 4, 5, 6, 7, 8, 9, 10, 11, 12, 13, 14, 15, 16, 17, 18, 19, 20, 21, 22, 23, 24], fun _ v _ => v = .pointer (some ⟨w2.heap.size, 1, none⟩)⟩, ⟨26, false, [0, 1, 2, 3, 4, 5, 6, 7, 8, 9, 10, 11, 12, 13, 14, 15, 16, 17, 18, 19, 20, 21, 22, 23, 24, 25], fun _ v _ => v = .slice ax1 r.items.length px1⟩, ⟨27, false, [0, 1, 2, 3, 4, 5, 6, 7, 8, 9, 10, 11, 12, 13, 14, 15, 16, 17, 18, 19, 20, 21, 22, 23, 24, 25, 26], fun _ v _ => v = .int .i64 (r.items.length : Int)⟩, ⟨28, false, [0, 1, 2, 3, 4, 5, 6, 7, 8, 9, 10, 11, 12, 13, 14, 15, 16, 17, 18, 19, 20, 21, 22, 23, 24], fun _ v _ => v = .pointer (some ⟨w1.heap.size, 1, none⟩)⟩, ⟨29, false, [0, 1, 2, 3, 4, 5, 6, 7, 8, 9, 10, 11, 12, 13, 14, 15, 16, 17, 18, 19, 20, 21, 22, 23, 24, 28], fun _ v _ => v = .slice as1 cs.items.length ps1⟩, ⟨30, false, [0, 1, 2, 3, 4, 5, 6, 7, 8, 9, 10, 11, 12, 13, 14, 15, 16, 17, 18, 19, 20, 21, 22, 23, 24, 28, 29], fun _ v _ => v = .int .i64 (cs.items.length : Int)⟩, ⟨31, false, [0, 1, 2, 3, 4, 5, 6, 7, 8, 9, 10, 11, 12, 13, 14, 15, 16, 17, 18, 19, 20, 21, 22, 23, 24, 25, 26, 27, 28, 29, 30], fun _ v _ => v = .bool true⟩, ⟨32, false, [0, 1, 2, 3, 4, 5, 6, 7, 8, 9, 10, 11, 12, 13, 14, 15, 16, 17, 18, 19, 20, 21, 22, 23, 24, 25, 26, 27, 28, 29, 30, 31], fun _ v _ => v = .bool true⟩, ⟨33, false, [0, 1, 2, 3, 4, 5, 6, 7, 8, 9, 10, 11, 12, 13, 14, 15, 16, 17, 18, 19, 20, 21, 22, 23, 24, 25, 26, 27, 28, 29, 30, 31, 32], fun _ v _ => v = .bool true⟩] [(0, some 99), (1, some 100), (2, some 101), (3, some 102), (4, some 103), (5, some 104), (6, some 105), (7, some 106), (8, some 107), (9, some 108), (10, some 109), (11, some 110), (12, some 111), (13, some 112), (14, some 113), (15, some 114), (16, some 115), (17, some 116), (18, some 117), (19, some 118), (20, some 119), (21, some 120), (22, some 121), (23, some 122), (24, some 123), (25, some 124), (26, some 125), (27, some 126), (28, some 127), (29, some 128), (30, some 129), (31, some 130), (32, some 131), (33, some 2)] (fun _ w' => Below w.heap.size w w' ∧ w5.heap.size ≤ w'.heap.size ∧ w'.heap[w1.heap.size]? = some (.cells #[.int .i64 cs.room, .slice as1 cs.items.length ps1, .slice (some ⟨gb, go, none⟩) cs.senders.length ps2, .slice as3 cs.getters.length ps3, .bool cs.closed] 25 (0, 0)) ∧ w'.heap[w2.heap.size]? = some (.cells #[.int .i64 r.room, .slice ax1 r.items.length px1, .slice ax2 r.senders.length px2, .slice ax3 r.getters.length px3, .bool r.closed] 25 (0, 0)) ∧ w'.heap[w3.heap.size]? = some (.cells #[.int .i64 r.room, .slice at1 r.items.length pt1, .slice at2 r.senders.length pt2, .slice at3 r.getters.length pt3, .bool r.closed] 25 (0, 0)) ∧ ChanOwn w.heap.size hi_s w' (.agg #[.int .i64 cs.room, .slice as1 cs.items.length ps1, .slice (some ⟨gb, go, none⟩) cs.senders.length ps2, .slice as3 cs.getters.length ps3, .bool cs.closed]) cs ∧ w'.cell? ⟨yb, yo, none⟩ = some (.int .i64 z.1) ∧ w'.cell? ⟨gb, go, none⟩ = some (.int .i64 z.1)) (fun _ _ _ => True) (by kernel_rfl) (by rfl) (by kernel_rfl) (by kernel_rfl) ⟨(B5.out).drew, hN0, (heap_drew Xs_5.out), (heap_drew Xx_5.out), (heap_drew Xt_5.out), HI_s, c0_0, c1_0⟩ (GoalsL.cons ?_ (GoalsL.cons ?_ (GoalsL.cons ?_ (GoalsL.cons ?_ (GoalsL.cons ?_ (GoalsL.cons ?_ (GoalsL.cons ?_ (GoalsL.cons ?_ (GoalsL.cons ?_ (GoalsL.cons ?_ (GoalsL.cons ?_ (GoalsL.cons ?_ (GoalsL.cons ?_ (GoalsL.cons ?_ (GoalsL.cons ?_ (GoalsL.cons ?_ (GoalsL.cons ?_ (GoalsL.cons ?_ (GoalsL.cons ?_ (GoalsL.cons ?_ (GoalsL.cons ?_ (GoalsL.cons ?_ (GoalsL.cons ?_ (GoalsL.cons ?_ (GoalsL.cons ?_ (GoalsL.cons ?_ (GoalsL.cons ?_ (GoalsL.cons ?_ (GoalsL.cons ?_ (GoalsL.cons ?_ (GoalsL.cons ?_ (GoalsL.cons ?_ (GoalsL.cons ?_ (GoalsL.cons ?_ (GoalsL.nil))))))))))))))))))))))))))))))))))) ?_
        · refine GoalL.mk (by rfl) ⟨fun _ _ _ _ _ h => h, fun _ _ _ _ _ _ h => h⟩ ?_
          intro f u wq hf hC hD K hK
          have hA := hC.1; have hN := hC.2.1; have x_s := hC.2.2.1; have x_x := hC.2.2.2.1; have x_t := hC.2.2.2.2.1; have o_s := hC.2.2.2.2.2.1; have c_0 := hC.2.2.2.2.2.2.1; have c_1 := hC.2.2.2.2.2.2.2; clear hC
          clear hD
          simp only [putL, Act.put, List.setIfInBounds_toArray, List.set_cons_zero, List.set_cons_succ] at hK ⊢
          refine Closed.mk ?_
          go_simp
          exact hK.out _ _ ⟨hA, hN, x_s, x_x, x_t, o_s, c_0, c_1⟩ trivial rfl
        · refine GoalL.mk (by rfl) ⟨fun _ _ _ _ _ h => h, fun _ _ _ _ _ _ h => h⟩ ?_
          intro f u wq hf hC hD K hK
          have hA := hC.1; have hN := hC.2.1; have x_s := hC.2.2.1; have x_x := hC.2.2.2.1; have x_t := hC.2.2.2.2.1; have o_s := hC.2.2.2.2.2.1; have c_0 := hC.2.2.2.2.2.2.1; have c_1 := hC.2.2.2.2.2.2.2; clear hC
          have d0 := hD.1; clear hD
          have e0 : u 0 = .slice (some ⟨yb, yo, none⟩) y.length pya := d0; clear d0
          simp only [putL, Act.put, List.setIfInBounds_toArray, List.set_cons_zero, List.set_cons_succ, e0] at hK ⊢
          refine Closed.mk ?_
          go_simp
          exact hK.out _ _ ⟨hA, hN, x_s, x_x, x_t, o_s, c_0, c_1⟩ trivial rfl
        · refine GoalL.mk (by rfl) ⟨fun _ _ _ _ _ h => h, fun _ _ _ _ _ _ h => h⟩ ?_
          intro f u wq hf hC hD K hK
          have hA := hC.1; have hN := hC.2.1; have x_s := hC.2.2.1; have x_x := hC.2.2.2.1; have x_t := hC.2.2.2.2.1; have o_s := hC.2.2.2.2.2.1; have c_0 := hC.2.2.2.2.2.2.1; have c_1 := hC.2.2.2.2.2.2.2; clear hC
          have d0 := hD.1; have d1 := hD.2.1; clear hD
          have e0 : u 0 = .slice (some ⟨yb, yo, none⟩) y.length pya := d0; clear d0
          have e1 : u 1 = .int .i64 (y.length : Int) := d1; clear d1
          simp only [putL, Act.put, List.setIfInBounds_toArray, List.set_cons_zero, List.set_cons_succ, e0, e1] at hK ⊢
          refine Closed.mk ?_
          go_simp
          exact hK.out _ _ ⟨hA, hN, x_s, x_x, x_t, o_s, c_0, c_1⟩ trivial rfl
        · refine GoalL.mk (by rfl) ⟨fun _ _ _ _ _ h => h, fun _ _ _ _ _ _ h => h⟩ ?_
          intro f u wq hf hC hD K hK
          have hA := hC.1; have hN := hC.2.1; have x_s := hC.2.2.1; have x_x := hC.2.2.2.1; have x_t := hC.2.2.2.2.1; have o_s := hC.2.2.2.2.2.1; have c_0 := hC.2.2.2.2.2.2.1; have c_1 := hC.2.2.2.2.2.2.2; clear hC
          have d0 := hD.1; have d1 := hD.2.1; have d2 := hD.2.2.1; clear hD
          have e0 : u 0 = .slice (some ⟨yb, yo, none⟩) y.length pya := d0; clear d0
          have e1 : u 1 = .int .i64 (y.length : Int) := d1; clear d1
          have e2 : u 2 = .bool true := d2; clear d2
          simp only [putL, Act.put, List.setIfInBounds_toArray, List.set_cons_zero, List.set_cons_succ, e0, e1, e2] at hK ⊢
          refine Closed.mk ?_
          go_simp
          exact hK.out _ _ ⟨hA, hN, x_s, x_x, x_t, o_s, c_0, c_1⟩ trivial rfl
        · refine GoalL.mk (by rfl) ⟨fun _ _ _ _ _ h => h, fun _ _ _ _ _ _ h => h⟩ ?_
          intro f u wq hf hC hD K hK
          have hA := hC.1; have hN := hC.2.1; have x_s := hC.2.2.1; have x_x := hC.2.2.2.1; have x_t := hC.2.2.2.2.1; have o_s := hC.2.2.2.2.2.1; have c_0 := hC.2.2.2.2.2.2.1; have c_1 := hC.2.2.2.2.2.2.2; clear hC
          have d0 := hD.1; have d1 := hD.2.1; have d2 := hD.2.2.1; have d3 := hD.2.2.2.1; clear hD
          have e0 : u 0 = .slice (some ⟨yb, yo, none⟩) y.length pya := d0; clear d0
          have e1 : u 1 = .int .i64 (y.length : Int) := d1; clear d1
          have e2 : u 2 = .bool true := d2; clear d2
          have e3 : u 3 = .bool true := d3; clear d3
          simp only [putL, Act.put, List.setIfInBounds_toArray, List.set_cons_zero, List.set_cons_succ, e0, e1, e2, e3] at hK ⊢
          refine Closed.mk ?_
          go_simp
          exact hK.out _ _ ⟨hA, hN, x_s, x_x, x_t, o_s, c_0, c_1⟩ trivial rfl
        · refine GoalL.mk (by rfl) ⟨fun _ _ _ _ _ h => h, fun _ _ _ _ _ _ h => h⟩ ?_
          intro f u wq hf hC hD K hK
          have hA := hC.1; have hN := hC.2.1; have x_s := hC.2.2.1; have x_x := hC.2.2.2.1; have x_t := hC.2.2.2.2.1; have o_s := hC.2.2.2.2.2.1; have c_0 := hC.2.2.2.2.2.2.1; have c_1 := hC.2.2.2.2.2.2.2; clear hC
          have d0 := hD.1; have d1 := hD.2.1; have d2 := hD.2.2.1; have d3 := hD.2.2.2.1; have d4 := hD.2.2.2.2.1; clear hD
          have e0 : u 0 = .slice (some ⟨yb, yo, none⟩) y.length pya := d0; clear d0
          have e1 : u 1 = .int .i64 (y.length : Int) := d1; clear d1
          have e2 : u 2 = .bool true := d2; clear d2
          have e3 : u 3 = .bool true := d3; clear d3
          have e4 : u 4 = .slice (some ⟨yb, yo, none⟩) y.length pya := d4; clear d4
          simp only [putL, Act.put, List.setIfInBounds_toArray, List.set_cons_zero, List.set_cons_succ, e0, e1, e2, e3, e4] at hK ⊢
          refine Closed.mk ?_
          go_simp
          exact hK.out _ _ ⟨hA, hN, x_s, x_x, x_t, o_s, c_0, c_1⟩ trivial rfl
        · refine GoalL.mk (by rfl) ⟨fun _ _ _ _ _ h => h, fun _ _ _ _ _ _ h => h⟩ ?_
          intro f u wq hf hC hD K hK
          have hA := hC.1; have hN := hC.2.1; have x_s := hC.2.2.1; have x_x := hC.2.2.2.1; have x_t := hC.2.2.2.2.1; have o_s := hC.2.2.2.2.2.1; have c_0 := hC.2.2.2.2.2.2.1; have c_1 := hC.2.2.2.2.2.2.2; clear hC
          have d0 := hD.1; have d1 := hD.2.1; have d2 := hD.2.2.1; have d3 := hD.2.2.2.1; have d4 := hD.2.2.2.2.1; have d5 := hD.2.2.2.2.2.1; clear hD
          have e0 : u 0 = .slice (some ⟨yb, yo, none⟩) y.length pya := d0; clear d0
          have e1 : u 1 = .int .i64 (y.length : Int) := d1; clear d1
          have e2 : u 2 = .bool true := d2; clear d2
          have e3 : u 3 = .bool true := d3; clear d3
          have e4 : u 4 = .slice (some ⟨yb, yo, none⟩) y.length pya := d4; clear d4
          have e5 : u 5 = .pointer (some ⟨yb, yo, none⟩) := d5; clear d5
          simp only [putL, Act.put, List.setIfInBounds_toArray, List.set_cons_zero, List.set_cons_succ, e0, e1, e2, e3, e4, e5] at hK ⊢
          refine Closed.mk ?_
          go_simp
          exact hK.out _ _ ⟨hA, hN, x_s, x_x, x_t, o_s, c_0, c_1⟩ trivial rfl
        · refine GoalL.mk (by rfl) ⟨fun _ _ _ _ _ h => h, fun _ _ _ _ _ _ h => h⟩ ?_
          intro f u wq hf hC hD K hK
          have hA := hC.1; have hN := hC.2.1; have x_s := hC.2.2.1; have x_x := hC.2.2.2.1; have x_t := hC.2.2.2.2.1; have o_s := hC.2.2.2.2.2.1; have c_0 := hC.2.2.2.2.2.2.1; have c_1 := hC.2.2.2.2.2.2.2; clear hC
          have d0 := hD.1; have d1 := hD.2.1; have d2 := hD.2.2.1; have d3 := hD.2.2.2.1; clear hD
          have e0 : u 0 = .slice (some ⟨yb, yo, none⟩) y.length pya := d0; clear d0
          have e1 : u 1 = .int .i64 (y.length : Int) := d1; clear d1
          have e2 : u 2 = .bool true := d2; clear d2
          have e3 : u 3 = .bool true := d3; clear d3
          simp only [putL, Act.put, List.setIfInBounds_toArray, List.set_cons_zero, List.set_cons_succ, e0, e1, e2, e3] at hK ⊢
          refine Closed.mk ?_
          go_simp
          exact hK.out _ _ ⟨hA, hN, x_s, x_x, x_t, o_s, c_0, c_1⟩ trivial rfl
        · refine GoalL.mk (by rfl) ⟨fun _ _ _ _ _ h => h, fun _ _ _ _ _ _ h => h⟩ ?_
          intro f u wq hf hC hD K hK
          have hA := hC.1; have hN := hC.2.1; have x_s := hC.2.2.1; have x_x := hC.2.2.2.1; have x_t := hC.2.2.2.2.1; have o_s := hC.2.2.2.2.2.1; have c_0 := hC.2.2.2.2.2.2.1; have c_1 := hC.2.2.2.2.2.2.2; clear hC
          have d0 := hD.1; have d1 := hD.2.1; have d2 := hD.2.2.1; have d3 := hD.2.2.2.1; have d7 := hD.2.2.2.2.1; clear hD
          have e0 : u 0 = .slice (some ⟨yb, yo, none⟩) y.length pya := d0; clear d0
          have e1 : u 1 = .int .i64 (y.length : Int) := d1; clear d1
          have e2 : u 2 = .bool true := d2; clear d2
          have e3 : u 3 = .bool true := d3; clear d3
          have e7 : u 7 = .pointer (some ⟨w1.heap.size, 2, none⟩) := d7; clear d7
          simp only [putL, Act.put, List.setIfInBounds_toArray, List.set_cons_zero, List.set_cons_succ, e0, e1, e2, e3, e7] at hK ⊢
          obtain ⟨ks_0, ks_1, ks_2, ks_3, ks_4, fs_0, fs_1, fs_2, fs_3, fs_4⟩ := box5 x_s
          refine Closed.mk ?_
          go_simp
          exact hK.out _ _ ⟨hA, hN, x_s, x_x, x_t, o_s, c_0, c_1⟩ trivial rfl
        · refine GoalL.mk (by rfl) ⟨fun _ _ _ _ _ h => h, fun _ _ _ _ _ _ h => h⟩ ?_
          intro f u wq hf hC hD K hK
          have hA := hC.1; have hN := hC.2.1; have x_s := hC.2.2.1; have x_x := hC.2.2.2.1; have x_t := hC.2.2.2.2.1; have o_s := hC.2.2.2.2.2.1; have c_0 := hC.2.2.2.2.2.2.1; have c_1 := hC.2.2.2.2.2.2.2; clear hC
          have d0 := hD.1; have d1 := hD.2.1; have d2 := hD.2.2.1; have d3 := hD.2.2.2.1; have d7 := hD.2.2.2.2.1; have d8 := hD.2.2.2.2.2.1; clear hD
          have e0 : u 0 = .slice (some ⟨yb, yo, none⟩) y.length pya := d0; clear d0
          have e1 : u 1 = .int .i64 (y.length : Int) := d1; clear d1
          have e2 : u 2 = .bool true := d2; clear d2
          have e3 : u 3 = .bool true := d3; clear d3
          have e7 : u 7 = .pointer (some ⟨w1.heap.size, 2, none⟩) := d7; clear d7
          have e8 : u 8 = .slice (some ⟨gb, go, none⟩) cs.senders.length ps2 := d8; clear d8
          simp only [putL, Act.put, List.setIfInBounds_toArray, List.set_cons_zero, List.set_cons_succ, e0, e1, e2, e3, e7, e8] at hK ⊢
          refine Closed.mk ?_
          go_simp
          exact hK.out _ _ ⟨hA, hN, x_s, x_x, x_t, o_s, c_0, c_1⟩ trivial rfl
        · refine GoalL.mk (by rfl) ⟨fun _ _ _ _ _ h => h, fun _ _ _ _ _ _ h => h⟩ ?_
          intro f u wq hf hC hD K hK
          have hA := hC.1; have hN := hC.2.1; have x_s := hC.2.2.1; have x_x := hC.2.2.2.1; have x_t := hC.2.2.2.2.1; have o_s := hC.2.2.2.2.2.1; have c_0 := hC.2.2.2.2.2.2.1; have c_1 := hC.2.2.2.2.2.2.2; clear hC
          have d0 := hD.1; have d1 := hD.2.1; have d2 := hD.2.2.1; have d3 := hD.2.2.2.1; have d7 := hD.2.2.2.2.1; have d8 := hD.2.2.2.2.2.1; have d9 := hD.2.2.2.2.2.2.1; clear hD
          have e0 : u 0 = .slice (some ⟨yb, yo, none⟩) y.length pya := d0; clear d0
          have e1 : u 1 = .int .i64 (y.length : Int) := d1; clear d1
          have e2 : u 2 = .bool true := d2; clear d2
          have e3 : u 3 = .bool true := d3; clear d3
          have e7 : u 7 = .pointer (some ⟨w1.heap.size, 2, none⟩) := d7; clear d7
          have e8 : u 8 = .slice (some ⟨gb, go, none⟩) cs.senders.length ps2 := d8; clear d8
          have e9 : u 9 = .pointer (some ⟨gb, go, none⟩) := d9; clear d9
          simp only [putL, Act.put, List.setIfInBounds_toArray, List.set_cons_zero, List.set_cons_succ, e0, e1, e2, e3, e7, e8, e9] at hK ⊢
          refine Closed.mk ?_
          go_simp
          exact hK.out _ _ ⟨hA, hN, x_s, x_x, x_t, o_s, c_0, c_1⟩ trivial rfl
        · refine GoalL.mk (by rfl) ⟨fun _ _ _ _ _ h => h, fun _ _ _ _ _ _ h => h⟩ ?_
          intro f u wq hf hC hD K hK
          have hA := hC.1; have hN := hC.2.1; have x_s := hC.2.2.1; have x_x := hC.2.2.2.1; have x_t := hC.2.2.2.2.1; have o_s := hC.2.2.2.2.2.1; have c_0 := hC.2.2.2.2.2.2.1; have c_1 := hC.2.2.2.2.2.2.2; clear hC
          have d0 := hD.1; have d1 := hD.2.1; have d2 := hD.2.2.1; have d3 := hD.2.2.2.1; have d7 := hD.2.2.2.2.1; have d8 := hD.2.2.2.2.2.1; have d9 := hD.2.2.2.2.2.2.1; have d10 := hD.2.2.2.2.2.2.2.1; clear hD
          have e0 : u 0 = .slice (some ⟨yb, yo, none⟩) y.length pya := d0; clear d0
          have e1 : u 1 = .int .i64 (y.length : Int) := d1; clear d1
          have e2 : u 2 = .bool true := d2; clear d2
          have e3 : u 3 = .bool true := d3; clear d3
          have e7 : u 7 = .pointer (some ⟨w1.heap.size, 2, none⟩) := d7; clear d7
          have e8 : u 8 = .slice (some ⟨gb, go, none⟩) cs.senders.length ps2 := d8; clear d8
          have e9 : u 9 = .pointer (some ⟨gb, go, none⟩) := d9; clear d9
          have e10 : u 10 = .pointer (some ⟨gb, go, none⟩) := d10; clear d10
          simp only [putL, Act.put, List.setIfInBounds_toArray, List.set_cons_zero, List.set_cons_succ, e0, e1, e2, e3, e7, e8, e9, e10] at hK ⊢
          refine Closed.mk ?_
          go_simp
          exact hK.out _ _ ⟨hA, hN, x_s, x_x, x_t, o_s, c_0, c_1⟩ trivial rfl
        · refine GoalL.mk (by rfl) ⟨fun _ _ _ _ _ h => h, fun _ _ _ _ _ _ h => h⟩ ?_
          intro f u wq hf hC hD K hK
          have hA := hC.1; have hN := hC.2.1; have x_s := hC.2.2.1; have x_x := hC.2.2.2.1; have x_t := hC.2.2.2.2.1; have o_s := hC.2.2.2.2.2.1; have c_0 := hC.2.2.2.2.2.2.1; have c_1 := hC.2.2.2.2.2.2.2; clear hC
          have d0 := hD.1; have d1 := hD.2.1; have d2 := hD.2.2.1; have d3 := hD.2.2.2.1; have d4 := hD.2.2.2.2.1; have d5 := hD.2.2.2.2.2.1; have d6 := hD.2.2.2.2.2.2.1; have d7 := hD.2.2.2.2.2.2.2.1; have d8 := hD.2.2.2.2.2.2.2.2.1; have d9 := hD.2.2.2.2.2.2.2.2.2.1; have d10 := hD.2.2.2.2.2.2.2.2.2.2.1; have d11 := hD.2.2.2.2.2.2.2.2.2.2.2.1; clear hD
          have e0 : u 0 = .slice (some ⟨yb, yo, none⟩) y.length pya := d0; clear d0
          have e1 : u 1 = .int .i64 (y.length : Int) := d1; clear d1
          have e2 : u 2 = .bool true := d2; clear d2
          have e3 : u 3 = .bool true := d3; clear d3
          have e4 : u 4 = .slice (some ⟨yb, yo, none⟩) y.length pya := d4; clear d4
          have e5 : u 5 = .pointer (some ⟨yb, yo, none⟩) := d5; clear d5
          have e6 : u 6 = .int .i64 z.1 := d6; clear d6
          have e7 : u 7 = .pointer (some ⟨w1.heap.size, 2, none⟩) := d7; clear d7
          have e8 : u 8 = .slice (some ⟨gb, go, none⟩) cs.senders.length ps2 := d8; clear d8
          have e9 : u 9 = .pointer (some ⟨gb, go, none⟩) := d9; clear d9
          have e10 : u 10 = .pointer (some ⟨gb, go, none⟩) := d10; clear d10
          have e11 : u 11 = .int .i64 z.1 := d11; clear d11
          simp only [putL, Act.put, List.setIfInBounds_toArray, List.set_cons_zero, List.set_cons_succ, e0, e1, e2, e3, e4, e5, e6, e7, e8, e9, e10, e11] at hK ⊢
          refine Closed.mk ?_
          go_simp
          exact hK.out _ _ ⟨hA, hN, x_s, x_x, x_t, o_s, c_0, c_1⟩ trivial rfl
        · refine GoalL.mk (by rfl) ⟨fun _ _ _ _ _ h => h, fun _ _ _ _ _ _ h => h⟩ ?_
          intro f u wq hf hC hD K hK
          have hA := hC.1; have hN := hC.2.1; have x_s := hC.2.2.1; have x_x := hC.2.2.2.1; have x_t := hC.2.2.2.2.1; have o_s := hC.2.2.2.2.2.1; have c_0 := hC.2.2.2.2.2.2.1; have c_1 := hC.2.2.2.2.2.2.2; clear hC
          have d0 := hD.1; have d1 := hD.2.1; have d2 := hD.2.2.1; have d3 := hD.2.2.2.1; have d4 := hD.2.2.2.2.1; have d5 := hD.2.2.2.2.2.1; have d6 := hD.2.2.2.2.2.2.1; have d7 := hD.2.2.2.2.2.2.2.1; have d8 := hD.2.2.2.2.2.2.2.2.1; have d9 := hD.2.2.2.2.2.2.2.2.2.1; have d10 := hD.2.2.2.2.2.2.2.2.2.2.1; have d11 := hD.2.2.2.2.2.2.2.2.2.2.2.1; have d12 := hD.2.2.2.2.2.2.2.2.2.2.2.2.1; clear hD
          have e0 : u 0 = .slice (some ⟨yb, yo, none⟩) y.length pya := d0; clear d0
          have e1 : u 1 = .int .i64 (y.length : Int) := d1; clear d1
          have e2 : u 2 = .bool true := d2; clear d2
          have e3 : u 3 = .bool true := d3; clear d3
          have e4 : u 4 = .slice (some ⟨yb, yo, none⟩) y.length pya := d4; clear d4
          have e5 : u 5 = .pointer (some ⟨yb, yo, none⟩) := d5; clear d5
          have e6 : u 6 = .int .i64 z.1 := d6; clear d6
          have e7 : u 7 = .pointer (some ⟨w1.heap.size, 2, none⟩) := d7; clear d7
          have e8 : u 8 = .slice (some ⟨gb, go, none⟩) cs.senders.length ps2 := d8; clear d8
          have e9 : u 9 = .pointer (some ⟨gb, go, none⟩) := d9; clear d9
          have e10 : u 10 = .pointer (some ⟨gb, go, none⟩) := d10; clear d10
          have e11 : u 11 = .int .i64 z.1 := d11; clear d11
          have e12 : u 12 = .bool true := d12; clear d12
          simp only [putL, Act.put, List.setIfInBounds_toArray, List.set_cons_zero, List.set_cons_succ, e0, e1, e2, e3, e4, e5, e6, e7, e8, e9, e10, e11, e12] at hK ⊢
          refine Closed.mk ?_
          go_simp
          exact hK.out _ _ ⟨hA, hN, x_s, x_x, x_t, o_s, c_0, c_1⟩ trivial rfl
        · refine GoalL.mk (by rfl) ⟨fun _ _ _ _ _ h => h, fun _ _ _ _ _ _ h => h⟩ ?_
          intro f u wq hf hC hD K hK
          have hA := hC.1; have hN := hC.2.1; have x_s := hC.2.2.1; have x_x := hC.2.2.2.1; have x_t := hC.2.2.2.2.1; have o_s := hC.2.2.2.2.2.1; have c_0 := hC.2.2.2.2.2.2.1; have c_1 := hC.2.2.2.2.2.2.2; clear hC
          have d0 := hD.1; have d1 := hD.2.1; have d2 := hD.2.2.1; have d3 := hD.2.2.2.1; have d4 := hD.2.2.2.2.1; have d5 := hD.2.2.2.2.2.1; have d6 := hD.2.2.2.2.2.2.1; have d7 := hD.2.2.2.2.2.2.2.1; have d8 := hD.2.2.2.2.2.2.2.2.1; have d9 := hD.2.2.2.2.2.2.2.2.2.1; have d10 := hD.2.2.2.2.2.2.2.2.2.2.1; have d11 := hD.2.2.2.2.2.2.2.2.2.2.2.1; have d12 := hD.2.2.2.2.2.2.2.2.2.2.2.2.1; have d13 := hD.2.2.2.2.2.2.2.2.2.2.2.2.2.1; clear hD
          have e0 : u 0 = .slice (some ⟨yb, yo, none⟩) y.length pya := d0; clear d0
          have e1 : u 1 = .int .i64 (y.length : Int) := d1; clear d1
          have e2 : u 2 = .bool true := d2; clear d2
          have e3 : u 3 = .bool true := d3; clear d3
          have e4 : u 4 = .slice (some ⟨yb, yo, none⟩) y.length pya := d4; clear d4
          have e5 : u 5 = .pointer (some ⟨yb, yo, none⟩) := d5; clear d5
          have e6 : u 6 = .int .i64 z.1 := d6; clear d6
          have e7 : u 7 = .pointer (some ⟨w1.heap.size, 2, none⟩) := d7; clear d7
          have e8 : u 8 = .slice (some ⟨gb, go, none⟩) cs.senders.length ps2 := d8; clear d8
          have e9 : u 9 = .pointer (some ⟨gb, go, none⟩) := d9; clear d9
          have e10 : u 10 = .pointer (some ⟨gb, go, none⟩) := d10; clear d10
          have e11 : u 11 = .int .i64 z.1 := d11; clear d11
          have e12 : u 12 = .bool true := d12; clear d12
          have e13 : u 13 = .bool true := d13; clear d13
          simp only [putL, Act.put, List.setIfInBounds_toArray, List.set_cons_zero, List.set_cons_succ, e0, e1, e2, e3, e4, e5, e6, e7, e8, e9, e10, e11, e12, e13] at hK ⊢
          refine Closed.mk ?_
          go_simp
          exact hK.out _ _ ⟨hA, hN, x_s, x_x, x_t, o_s, c_0, c_1⟩ trivial rfl
        · refine GoalL.mk (by rfl) ⟨fun _ _ _ _ _ h => h, fun _ _ _ _ _ _ h => h⟩ ?_
          intro f u wq hf hC hD K hK
          have hA := hC.1; have hN := hC.2.1; have x_s := hC.2.2.1; have x_x := hC.2.2.2.1; have x_t := hC.2.2.2.2.1; have o_s := hC.2.2.2.2.2.1; have c_0 := hC.2.2.2.2.2.2.1; have c_1 := hC.2.2.2.2.2.2.2; clear hC
          have d0 := hD.1; have d1 := hD.2.1; have d2 := hD.2.2.1; have d3 := hD.2.2.2.1; have d4 := hD.2.2.2.2.1; have d5 := hD.2.2.2.2.2.1; have d6 := hD.2.2.2.2.2.2.1; have d7 := hD.2.2.2.2.2.2.2.1; have d8 := hD.2.2.2.2.2.2.2.2.1; have d9 := hD.2.2.2.2.2.2.2.2.2.1; have d10 := hD.2.2.2.2.2.2.2.2.2.2.1; have d11 := hD.2.2.2.2.2.2.2.2.2.2.2.1; have d12 := hD.2.2.2.2.2.2.2.2.2.2.2.2.1; have d13 := hD.2.2.2.2.2.2.2.2.2.2.2.2.2.1; have d14 := hD.2.2.2.2.2.2.2.2.2.2.2.2.2.2.1; clear hD
          have e0 : u 0 = .slice (some ⟨yb, yo, none⟩) y.length pya := d0; clear d0
          have e1 : u 1 = .int .i64 (y.length : Int) := d1; clear d1
          have e2 : u 2 = .bool true := d2; clear d2
          have e3 : u 3 = .bool true := d3; clear d3
          have e4 : u 4 = .slice (some ⟨yb, yo, none⟩) y.length pya := d4; clear d4
          have e5 : u 5 = .pointer (some ⟨yb, yo, none⟩) := d5; clear d5
          have e6 : u 6 = .int .i64 z.1 := d6; clear d6
          have e7 : u 7 = .pointer (some ⟨w1.heap.size, 2, none⟩) := d7; clear d7
          have e8 : u 8 = .slice (some ⟨gb, go, none⟩) cs.senders.length ps2 := d8; clear d8
          have e9 : u 9 = .pointer (some ⟨gb, go, none⟩) := d9; clear d9
          have e10 : u 10 = .pointer (some ⟨gb, go, none⟩) := d10; clear d10
          have e11 : u 11 = .int .i64 z.1 := d11; clear d11
          have e12 : u 12 = .bool true := d12; clear d12
          have e13 : u 13 = .bool true := d13; clear d13
          have e14 : u 14 = .bool true := d14; clear d14
          simp only [putL, Act.put, List.setIfInBounds_toArray, List.set_cons_zero, List.set_cons_succ, e0, e1, e2, e3, e4, e5, e6, e7, e8, e9, e10, e11, e12, e13, e14] at hK ⊢
          refine Closed.mk ?_
          go_simp
          exact hK.out _ _ ⟨hA, hN, x_s, x_x, x_t, o_s, c_0, c_1⟩ trivial rfl
        · refine GoalL.mk (by rfl) ⟨fun _ _ _ _ _ h => h, fun _ _ _ _ _ _ h => h⟩ ?_
          intro f u wq hf hC hD K hK
          have hA := hC.1; have hN := hC.2.1; have x_s := hC.2.2.1; have x_x := hC.2.2.2.1; have x_t := hC.2.2.2.2.1; have o_s := hC.2.2.2.2.2.1; have c_0 := hC.2.2.2.2.2.2.1; have c_1 := hC.2.2.2.2.2.2.2; clear hC
          have d0 := hD.1; have d1 := hD.2.1; have d2 := hD.2.2.1; have d3 := hD.2.2.2.1; have d4 := hD.2.2.2.2.1; have d5 := hD.2.2.2.2.2.1; have d6 := hD.2.2.2.2.2.2.1; have d7 := hD.2.2.2.2.2.2.2.1; have d8 := hD.2.2.2.2.2.2.2.2.1; have d9 := hD.2.2.2.2.2.2.2.2.2.1; have d10 := hD.2.2.2.2.2.2.2.2.2.2.1; have d11 := hD.2.2.2.2.2.2.2.2.2.2.2.1; have d12 := hD.2.2.2.2.2.2.2.2.2.2.2.2.1; have d13 := hD.2.2.2.2.2.2.2.2.2.2.2.2.2.1; have d14 := hD.2.2.2.2.2.2.2.2.2.2.2.2.2.2.1; have d15 := hD.2.2.2.2.2.2.2.2.2.2.2.2.2.2.2.1; clear hD
          have e0 : u 0 = .slice (some ⟨yb, yo, none⟩) y.length pya := d0; clear d0
          have e1 : u 1 = .int .i64 (y.length : Int) := d1; clear d1
          have e2 : u 2 = .bool true := d2; clear d2
          have e3 : u 3 = .bool true := d3; clear d3
          have e4 : u 4 = .slice (some ⟨yb, yo, none⟩) y.length pya := d4; clear d4
          have e5 : u 5 = .pointer (some ⟨yb, yo, none⟩) := d5; clear d5
          have e6 : u 6 = .int .i64 z.1 := d6; clear d6
          have e7 : u 7 = .pointer (some ⟨w1.heap.size, 2, none⟩) := d7; clear d7
          have e8 : u 8 = .slice (some ⟨gb, go, none⟩) cs.senders.length ps2 := d8; clear d8
          have e9 : u 9 = .pointer (some ⟨gb, go, none⟩) := d9; clear d9
          have e10 : u 10 = .pointer (some ⟨gb, go, none⟩) := d10; clear d10
          have e11 : u 11 = .int .i64 z.1 := d11; clear d11
          have e12 : u 12 = .bool true := d12; clear d12
          have e13 : u 13 = .bool true := d13; clear d13
          have e14 : u 14 = .bool true := d14; clear d14
          have e15 : u 15 = .pointer (some ⟨w2.heap.size, 2, none⟩) := d15; clear d15
          simp only [putL, Act.put, List.setIfInBounds_toArray, List.set_cons_zero, List.set_cons_succ, e0, e1, e2, e3, e4, e5, e6, e7, e8, e9, e10, e11, e12, e13, e14, e15] at hK ⊢
          obtain ⟨kx_0, kx_1, kx_2, kx_3, kx_4, fx_0, fx_1, fx_2, fx_3, fx_4⟩ := box5 x_x
          refine Closed.mk ?_
          go_simp
          exact hK.out _ _ ⟨hA, hN, x_s, x_x, x_t, o_s, c_0, c_1⟩ trivial rfl
        · refine GoalL.mk (by rfl) ⟨fun _ _ _ _ _ h => h, fun _ _ _ _ _ _ h => h⟩ ?_
          intro f u wq hf hC hD K hK
          have hA := hC.1; have hN := hC.2.1; have x_s := hC.2.2.1; have x_x := hC.2.2.2.1; have x_t := hC.2.2.2.2.1; have o_s := hC.2.2.2.2.2.1; have c_0 := hC.2.2.2.2.2.2.1; have c_1 := hC.2.2.2.2.2.2.2; clear hC
          have d0 := hD.1; have d1 := hD.2.1; have d2 := hD.2.2.1; have d3 := hD.2.2.2.1; have d4 := hD.2.2.2.2.1; have d5 := hD.2.2.2.2.2.1; have d6 := hD.2.2.2.2.2.2.1; have d7 := hD.2.2.2.2.2.2.2.1; have d8 := hD.2.2.2.2.2.2.2.2.1; have d9 := hD.2.2.2.2.2.2.2.2.2.1; have d10 := hD.2.2.2.2.2.2.2.2.2.2.1; have d11 := hD.2.2.2.2.2.2.2.2.2.2.2.1; have d12 := hD.2.2.2.2.2.2.2.2.2.2.2.2.1; have d13 := hD.2.2.2.2.2.2.2.2.2.2.2.2.2.1; have d14 := hD.2.2.2.2.2.2.2.2.2.2.2.2.2.2.1; have d15 := hD.2.2.2.2.2.2.2.2.2.2.2.2.2.2.2.1; have d16 := hD.2.2.2.2.2.2.2.2.2.2.2.2.2.2.2.2.1; clear hD
          have e0 : u 0 = .slice (some ⟨yb, yo, none⟩) y.length pya := d0; clear d0
          have e1 : u 1 = .int .i64 (y.length : Int) := d1; clear d1
          have e2 : u 2 = .bool true := d2; clear d2
          have e3 : u 3 = .bool true := d3; clear d3
          have e4 : u 4 = .slice (some ⟨yb, yo, none⟩) y.length pya := d4; clear d4
          have e5 : u 5 = .pointer (some ⟨yb, yo, none⟩) := d5; clear d5
          have e6 : u 6 = .int .i64 z.1 := d6; clear d6
          have e7 : u 7 = .pointer (some ⟨w1.heap.size, 2, none⟩) := d7; clear d7
          have e8 : u 8 = .slice (some ⟨gb, go, none⟩) cs.senders.length ps2 := d8; clear d8
          have e9 : u 9 = .pointer (some ⟨gb, go, none⟩) := d9; clear d9
          have e10 : u 10 = .pointer (some ⟨gb, go, none⟩) := d10; clear d10
          have e11 : u 11 = .int .i64 z.1 := d11; clear d11
          have e12 : u 12 = .bool true := d12; clear d12
          have e13 : u 13 = .bool true := d13; clear d13
          have e14 : u 14 = .bool true := d14; clear d14
          have e15 : u 15 = .pointer (some ⟨w2.heap.size, 2, none⟩) := d15; clear d15
          have e16 : u 16 = .slice ax2 r.senders.length px2 := d16; clear d16
          simp only [putL, Act.put, List.setIfInBounds_toArray, List.set_cons_zero, List.set_cons_succ, e0, e1, e2, e3, e4, e5, e6, e7, e8, e9, e10, e11, e12, e13, e14, e15, e16] at hK ⊢
          refine Closed.mk ?_
          go_simp
          exact hK.out _ _ ⟨hA, hN, x_s, x_x, x_t, o_s, c_0, c_1⟩ trivial rfl
        · refine GoalL.mk (by rfl) ⟨fun _ _ _ _ _ h => h, fun _ _ _ _ _ _ h => h⟩ ?_
          intro f u wq hf hC hD K hK
          have hA := hC.1; have hN := hC.2.1; have x_s := hC.2.2.1; have x_x := hC.2.2.2.1; have x_t := hC.2.2.2.2.1; have o_s := hC.2.2.2.2.2.1; have c_0 := hC.2.2.2.2.2.2.1; have c_1 := hC.2.2.2.2.2.2.2; clear hC
          have d0 := hD.1; have d1 := hD.2.1; have d2 := hD.2.2.1; have d3 := hD.2.2.2.1; have d4 := hD.2.2.2.2.1; have d5 := hD.2.2.2.2.2.1; have d6 := hD.2.2.2.2.2.2.1; have d7 := hD.2.2.2.2.2.2.2.1; have d8 := hD.2.2.2.2.2.2.2.2.1; have d9 := hD.2.2.2.2.2.2.2.2.2.1; have d10 := hD.2.2.2.2.2.2.2.2.2.2.1; have d11 := hD.2.2.2.2.2.2.2.2.2.2.2.1; have d12 := hD.2.2.2.2.2.2.2.2.2.2.2.2.1; have d13 := hD.2.2.2.2.2.2.2.2.2.2.2.2.2.1; have d14 := hD.2.2.2.2.2.2.2.2.2.2.2.2.2.2.1; clear hD
          have e0 : u 0 = .slice (some ⟨yb, yo, none⟩) y.length pya := d0; clear d0
          have e1 : u 1 = .int .i64 (y.length : Int) := d1; clear d1
          have e2 : u 2 = .bool true := d2; clear d2
          have e3 : u 3 = .bool true := d3; clear d3
          have e4 : u 4 = .slice (some ⟨yb, yo, none⟩) y.length pya := d4; clear d4
          have e5 : u 5 = .pointer (some ⟨yb, yo, none⟩) := d5; clear d5
          have e6 : u 6 = .int .i64 z.1 := d6; clear d6
          have e7 : u 7 = .pointer (some ⟨w1.heap.size, 2, none⟩) := d7; clear d7
          have e8 : u 8 = .slice (some ⟨gb, go, none⟩) cs.senders.length ps2 := d8; clear d8
          have e9 : u 9 = .pointer (some ⟨gb, go, none⟩) := d9; clear d9
          have e10 : u 10 = .pointer (some ⟨gb, go, none⟩) := d10; clear d10
          have e11 : u 11 = .int .i64 z.1 := d11; clear d11
          have e12 : u 12 = .bool true := d12; clear d12
          have e13 : u 13 = .bool true := d13; clear d13
          have e14 : u 14 = .bool true := d14; clear d14
          simp only [putL, Act.put, List.setIfInBounds_toArray, List.set_cons_zero, List.set_cons_succ, e0, e1, e2, e3, e4, e5, e6, e7, e8, e9, e10, e11, e12, e13, e14] at hK ⊢
          refine Closed.mk ?_
          go_simp
          exact hK.out _ _ ⟨hA, hN, x_s, x_x, x_t, o_s, c_0, c_1⟩ trivial rfl
        · refine GoalL.mk (by rfl) ⟨fun _ _ _ _ _ h => h, fun _ _ _ _ _ _ h => h⟩ ?_
          intro f u wq hf hC hD K hK
          have hA := hC.1; have hN := hC.2.1; have x_s := hC.2.2.1; have x_x := hC.2.2.2.1; have x_t := hC.2.2.2.2.1; have o_s := hC.2.2.2.2.2.1; have c_0 := hC.2.2.2.2.2.2.1; have c_1 := hC.2.2.2.2.2.2.2; clear hC
          have d0 := hD.1; have d1 := hD.2.1; have d2 := hD.2.2.1; have d3 := hD.2.2.2.1; have d4 := hD.2.2.2.2.1; have d5 := hD.2.2.2.2.2.1; have d6 := hD.2.2.2.2.2.2.1; have d7 := hD.2.2.2.2.2.2.2.1; have d8 := hD.2.2.2.2.2.2.2.2.1; have d9 := hD.2.2.2.2.2.2.2.2.2.1; have d10 := hD.2.2.2.2.2.2.2.2.2.2.1; have d11 := hD.2.2.2.2.2.2.2.2.2.2.2.1; have d12 := hD.2.2.2.2.2.2.2.2.2.2.2.2.1; have d13 := hD.2.2.2.2.2.2.2.2.2.2.2.2.2.1; have d14 := hD.2.2.2.2.2.2.2.2.2.2.2.2.2.2.1; have d18 := hD.2.2.2.2.2.2.2.2.2.2.2.2.2.2.2.1; clear hD
          have e0 : u 0 = .slice (some ⟨yb, yo, none⟩) y.length pya := d0; clear d0
          have e1 : u 1 = .int .i64 (y.length : Int) := d1; clear d1
          have e2 : u 2 = .bool true := d2; clear d2
          have e3 : u 3 = .bool true := d3; clear d3
          have e4 : u 4 = .slice (some ⟨yb, yo, none⟩) y.length pya := d4; clear d4
          have e5 : u 5 = .pointer (some ⟨yb, yo, none⟩) := d5; clear d5
          have e6 : u 6 = .int .i64 z.1 := d6; clear d6
          have e7 : u 7 = .pointer (some ⟨w1.heap.size, 2, none⟩) := d7; clear d7
          have e8 : u 8 = .slice (some ⟨gb, go, none⟩) cs.senders.length ps2 := d8; clear d8
          have e9 : u 9 = .pointer (some ⟨gb, go, none⟩) := d9; clear d9
          have e10 : u 10 = .pointer (some ⟨gb, go, none⟩) := d10; clear d10
          have e11 : u 11 = .int .i64 z.1 := d11; clear d11
          have e12 : u 12 = .bool true := d12; clear d12
          have e13 : u 13 = .bool true := d13; clear d13
          have e14 : u 14 = .bool true := d14; clear d14
          have e18 : u 18 = .pointer (some ⟨w1.heap.size, 2, none⟩) := d18; clear d18
          simp only [putL, Act.put, List.setIfInBounds_toArray, List.set_cons_zero, List.set_cons_succ, e0, e1, e2, e3, e4, e5, e6, e7, e8, e9, e10, e11, e12, e13, e14, e18] at hK ⊢
          obtain ⟨ks_0, ks_1, ks_2, ks_3, ks_4, fs_0, fs_1, fs_2, fs_3, fs_4⟩ := box5 x_s
          refine Closed.mk ?_
          go_simp
          exact hK.out _ _ ⟨hA, hN, x_s, x_x, x_t, o_s, c_0, c_1⟩ trivial rfl
        · refine GoalL.mk (by rfl) ⟨fun _ _ _ _ _ h => h, fun _ _ _ _ _ _ h => h⟩ ?_
          intro f u wq hf hC hD K hK
          have hA := hC.1; have hN := hC.2.1; have x_s := hC.2.2.1; have x_x := hC.2.2.2.1; have x_t := hC.2.2.2.2.1; have o_s := hC.2.2.2.2.2.1; have c_0 := hC.2.2.2.2.2.2.1; have c_1 := hC.2.2.2.2.2.2.2; clear hC
          have d0 := hD.1; have d1 := hD.2.1; have d2 := hD.2.2.1; have d3 := hD.2.2.2.1; have d4 := hD.2.2.2.2.1; have d5 := hD.2.2.2.2.2.1; have d6 := hD.2.2.2.2.2.2.1; have d7 := hD.2.2.2.2.2.2.2.1; have d8 := hD.2.2.2.2.2.2.2.2.1; have d9 := hD.2.2.2.2.2.2.2.2.2.1; have d10 := hD.2.2.2.2.2.2.2.2.2.2.1; have d11 := hD.2.2.2.2.2.2.2.2.2.2.2.1; have d12 := hD.2.2.2.2.2.2.2.2.2.2.2.2.1; have d13 := hD.2.2.2.2.2.2.2.2.2.2.2.2.2.1; have d14 := hD.2.2.2.2.2.2.2.2.2.2.2.2.2.2.1; have d18 := hD.2.2.2.2.2.2.2.2.2.2.2.2.2.2.2.1; have d19 := hD.2.2.2.2.2.2.2.2.2.2.2.2.2.2.2.2.1; clear hD
          have e0 : u 0 = .slice (some ⟨yb, yo, none⟩) y.length pya := d0; clear d0
          have e1 : u 1 = .int .i64 (y.length : Int) := d1; clear d1
          have e2 : u 2 = .bool true := d2; clear d2
          have e3 : u 3 = .bool true := d3; clear d3
          have e4 : u 4 = .slice (some ⟨yb, yo, none⟩) y.length pya := d4; clear d4
          have e5 : u 5 = .pointer (some ⟨yb, yo, none⟩) := d5; clear d5
          have e6 : u 6 = .int .i64 z.1 := d6; clear d6
          have e7 : u 7 = .pointer (some ⟨w1.heap.size, 2, none⟩) := d7; clear d7
          have e8 : u 8 = .slice (some ⟨gb, go, none⟩) cs.senders.length ps2 := d8; clear d8
          have e9 : u 9 = .pointer (some ⟨gb, go, none⟩) := d9; clear d9
          have e10 : u 10 = .pointer (some ⟨gb, go, none⟩) := d10; clear d10
          have e11 : u 11 = .int .i64 z.1 := d11; clear d11
          have e12 : u 12 = .bool true := d12; clear d12
          have e13 : u 13 = .bool true := d13; clear d13
          have e14 : u 14 = .bool true := d14; clear d14
          have e18 : u 18 = .pointer (some ⟨w1.heap.size, 2, none⟩) := d18; clear d18
          have e19 : u 19 = .slice (some ⟨gb, go, none⟩) cs.senders.length ps2 := d19; clear d19
          simp only [putL, Act.put, List.setIfInBounds_toArray, List.set_cons_zero, List.set_cons_succ, e0, e1, e2, e3, e4, e5, e6, e7, e8, e9, e10, e11, e12, e13, e14, e18, e19] at hK ⊢
          refine Closed.mk ?_
          go_simp
          exact hK.out _ _ ⟨hA, hN, x_s, x_x, x_t, o_s, c_0, c_1⟩ trivial rfl
        · refine GoalL.mk (by rfl) ⟨fun _ _ _ _ _ h => h, fun _ _ _ _ _ _ h => h⟩ ?_
          intro f u wq hf hC hD K hK
          have hA := hC.1; have hN := hC.2.1; have x_s := hC.2.2.1; have x_x := hC.2.2.2.1; have x_t := hC.2.2.2.2.1; have o_s := hC.2.2.2.2.2.1; have c_0 := hC.2.2.2.2.2.2.1; have c_1 := hC.2.2.2.2.2.2.2; clear hC
          have d0 := hD.1; have d1 := hD.2.1; have d2 := hD.2.2.1; have d3 := hD.2.2.2.1; have d4 := hD.2.2.2.2.1; have d5 := hD.2.2.2.2.2.1; have d6 := hD.2.2.2.2.2.2.1; have d7 := hD.2.2.2.2.2.2.2.1; have d8 := hD.2.2.2.2.2.2.2.2.1; have d9 := hD.2.2.2.2.2.2.2.2.2.1; have d10 := hD.2.2.2.2.2.2.2.2.2.2.1; have d11 := hD.2.2.2.2.2.2.2.2.2.2.2.1; have d12 := hD.2.2.2.2.2.2.2.2.2.2.2.2.1; have d13 := hD.2.2.2.2.2.2.2.2.2.2.2.2.2.1; have d14 := hD.2.2.2.2.2.2.2.2.2.2.2.2.2.2.1; have d18 := hD.2.2.2.2.2.2.2.2.2.2.2.2.2.2.2.1; have d19 := hD.2.2.2.2.2.2.2.2.2.2.2.2.2.2.2.2.1; have d20 := hD.2.2.2.2.2.2.2.2.2.2.2.2.2.2.2.2.2.1; clear hD
          have e0 : u 0 = .slice (some ⟨yb, yo, none⟩) y.length pya := d0; clear d0
          have e1 : u 1 = .int .i64 (y.length : Int) := d1; clear d1
          have e2 : u 2 = .bool true := d2; clear d2
          have e3 : u 3 = .bool true := d3; clear d3
          have e4 : u 4 = .slice (some ⟨yb, yo, none⟩) y.length pya := d4; clear d4
          have e5 : u 5 = .pointer (some ⟨yb, yo, none⟩) := d5; clear d5
          have e6 : u 6 = .int .i64 z.1 := d6; clear d6
          have e7 : u 7 = .pointer (some ⟨w1.heap.size, 2, none⟩) := d7; clear d7
          have e8 : u 8 = .slice (some ⟨gb, go, none⟩) cs.senders.length ps2 := d8; clear d8
          have e9 : u 9 = .pointer (some ⟨gb, go, none⟩) := d9; clear d9
          have e10 : u 10 = .pointer (some ⟨gb, go, none⟩) := d10; clear d10
          have e11 : u 11 = .int .i64 z.1 := d11; clear d11
          have e12 : u 12 = .bool true := d12; clear d12
          have e13 : u 13 = .bool true := d13; clear d13
          have e14 : u 14 = .bool true := d14; clear d14
          have e18 : u 18 = .pointer (some ⟨w1.heap.size, 2, none⟩) := d18; clear d18
          have e19 : u 19 = .slice (some ⟨gb, go, none⟩) cs.senders.length ps2 := d19; clear d19
          have e20 : u 20 = .int .i64 (cs.senders.length : Int) := d20; clear d20
          simp only [putL, Act.put, List.setIfInBounds_toArray, List.set_cons_zero, List.set_cons_succ, e0, e1, e2, e3, e4, e5, e6, e7, e8, e9, e10, e11, e12, e13, e14, e18, e19, e20] at hK ⊢
          refine Closed.mk ?_
          go_simp
          exact hK.out _ _ ⟨hA, hN, x_s, x_x, x_t, o_s, c_0, c_1⟩ trivial rfl
        · refine GoalL.mk (by rfl) ⟨fun _ _ _ _ _ h => h, fun _ _ _ _ _ _ h => h⟩ ?_
          intro f u wq hf hC hD K hK
          have hA := hC.1; have hN := hC.2.1; have x_s := hC.2.2.1; have x_x := hC.2.2.2.1; have x_t := hC.2.2.2.2.1; have o_s := hC.2.2.2.2.2.1; have c_0 := hC.2.2.2.2.2.2.1; have c_1 := hC.2.2.2.2.2.2.2; clear hC
          have d0 := hD.1; have d1 := hD.2.1; have d2 := hD.2.2.1; have d3 := hD.2.2.2.1; have d4 := hD.2.2.2.2.1; have d5 := hD.2.2.2.2.2.1; have d6 := hD.2.2.2.2.2.2.1; have d7 := hD.2.2.2.2.2.2.2.1; have d8 := hD.2.2.2.2.2.2.2.2.1; have d9 := hD.2.2.2.2.2.2.2.2.2.1; have d10 := hD.2.2.2.2.2.2.2.2.2.2.1; have d11 := hD.2.2.2.2.2.2.2.2.2.2.2.1; have d12 := hD.2.2.2.2.2.2.2.2.2.2.2.2.1; have d13 := hD.2.2.2.2.2.2.2.2.2.2.2.2.2.1; have d14 := hD.2.2.2.2.2.2.2.2.2.2.2.2.2.2.1; have d15 := hD.2.2.2.2.2.2.2.2.2.2.2.2.2.2.2.1; have d16 := hD.2.2.2.2.2.2.2.2.2.2.2.2.2.2.2.2.1; have d17 := hD.2.2.2.2.2.2.2.2.2.2.2.2.2.2.2.2.2.1; have d18 := hD.2.2.2.2.2.2.2.2.2.2.2.2.2.2.2.2.2.2.1; have d19 := hD.2.2.2.2.2.2.2.2.2.2.2.2.2.2.2.2.2.2.2.1; have d20 := hD.2.2.2.2.2.2.2.2.2.2.2.2.2.2.2.2.2.2.2.2.1; have d21 := hD.2.2.2.2.2.2.2.2.2.2.2.2.2.2.2.2.2.2.2.2.2.1; clear hD
          have e0 : u 0 = .slice (some ⟨yb, yo, none⟩) y.length pya := d0; clear d0
          have e1 : u 1 = .int .i64 (y.length : Int) := d1; clear d1
          have e2 : u 2 = .bool true := d2; clear d2
          have e3 : u 3 = .bool true := d3; clear d3
          have e4 : u 4 = .slice (some ⟨yb, yo, none⟩) y.length pya := d4; clear d4
          have e5 : u 5 = .pointer (some ⟨yb, yo, none⟩) := d5; clear d5
          have e6 : u 6 = .int .i64 z.1 := d6; clear d6
          have e7 : u 7 = .pointer (some ⟨w1.heap.size, 2, none⟩) := d7; clear d7
          have e8 : u 8 = .slice (some ⟨gb, go, none⟩) cs.senders.length ps2 := d8; clear d8
          have e9 : u 9 = .pointer (some ⟨gb, go, none⟩) := d9; clear d9
          have e10 : u 10 = .pointer (some ⟨gb, go, none⟩) := d10; clear d10
          have e11 : u 11 = .int .i64 z.1 := d11; clear d11
          have e12 : u 12 = .bool true := d12; clear d12
          have e13 : u 13 = .bool true := d13; clear d13
          have e14 : u 14 = .bool true := d14; clear d14
          have e15 : u 15 = .pointer (some ⟨w2.heap.size, 2, none⟩) := d15; clear d15
          have e16 : u 16 = .slice ax2 r.senders.length px2 := d16; clear d16
          have e17 : u 17 = .int .i64 (r.senders.length : Int) := d17; clear d17
          have e18 : u 18 = .pointer (some ⟨w1.heap.size, 2, none⟩) := d18; clear d18
          have e19 : u 19 = .slice (some ⟨gb, go, none⟩) cs.senders.length ps2 := d19; clear d19
          have e20 : u 20 = .int .i64 (cs.senders.length : Int) := d20; clear d20
          have e21 : u 21 = .int .i64 ((cs.senders.length : Int) - 1) := d21; clear d21
          simp only [putL, Act.put, List.setIfInBounds_toArray, List.set_cons_zero, List.set_cons_succ, e0, e1, e2, e3, e4, e5, e6, e7, e8, e9, e10, e11, e12, e13, e14, e15, e16, e17, e18, e19, e20, e21] at hK ⊢
          refine Closed.mk ?_
          go_simp
          exact hK.out _ _ ⟨hA, hN, x_s, x_x, x_t, o_s, c_0, c_1⟩ trivial rfl
        · refine GoalL.mk (by rfl) ⟨fun _ _ _ _ _ h => h, fun _ _ _ _ _ _ h => h⟩ ?_
          intro f u wq hf hC hD K hK
          have hA := hC.1; have hN := hC.2.1; have x_s := hC.2.2.1; have x_x := hC.2.2.2.1; have x_t := hC.2.2.2.2.1; have o_s := hC.2.2.2.2.2.1; have c_0 := hC.2.2.2.2.2.2.1; have c_1 := hC.2.2.2.2.2.2.2; clear hC
          have d0 := hD.1; have d1 := hD.2.1; have d2 := hD.2.2.1; have d3 := hD.2.2.2.1; have d4 := hD.2.2.2.2.1; have d5 := hD.2.2.2.2.2.1; have d6 := hD.2.2.2.2.2.2.1; have d7 := hD.2.2.2.2.2.2.2.1; have d8 := hD.2.2.2.2.2.2.2.2.1; have d9 := hD.2.2.2.2.2.2.2.2.2.1; have d10 := hD.2.2.2.2.2.2.2.2.2.2.1; have d11 := hD.2.2.2.2.2.2.2.2.2.2.2.1; have d12 := hD.2.2.2.2.2.2.2.2.2.2.2.2.1; have d13 := hD.2.2.2.2.2.2.2.2.2.2.2.2.2.1; have d14 := hD.2.2.2.2.2.2.2.2.2.2.2.2.2.2.1; have d15 := hD.2.2.2.2.2.2.2.2.2.2.2.2.2.2.2.1; have d16 := hD.2.2.2.2.2.2.2.2.2.2.2.2.2.2.2.2.1; have d17 := hD.2.2.2.2.2.2.2.2.2.2.2.2.2.2.2.2.2.1; have d18 := hD.2.2.2.2.2.2.2.2.2.2.2.2.2.2.2.2.2.2.1; have d19 := hD.2.2.2.2.2.2.2.2.2.2.2.2.2.2.2.2.2.2.2.1; have d20 := hD.2.2.2.2.2.2.2.2.2.2.2.2.2.2.2.2.2.2.2.2.1; have d21 := hD.2.2.2.2.2.2.2.2.2.2.2.2.2.2.2.2.2.2.2.2.2.1; have d22 := hD.2.2.2.2.2.2.2.2.2.2.2.2.2.2.2.2.2.2.2.2.2.2.1; clear hD
          have e0 : u 0 = .slice (some ⟨yb, yo, none⟩) y.length pya := d0; clear d0
          have e1 : u 1 = .int .i64 (y.length : Int) := d1; clear d1
          have e2 : u 2 = .bool true := d2; clear d2
          have e3 : u 3 = .bool true := d3; clear d3
          have e4 : u 4 = .slice (some ⟨yb, yo, none⟩) y.length pya := d4; clear d4
          have e5 : u 5 = .pointer (some ⟨yb, yo, none⟩) := d5; clear d5
          have e6 : u 6 = .int .i64 z.1 := d6; clear d6
          have e7 : u 7 = .pointer (some ⟨w1.heap.size, 2, none⟩) := d7; clear d7
          have e8 : u 8 = .slice (some ⟨gb, go, none⟩) cs.senders.length ps2 := d8; clear d8
          have e9 : u 9 = .pointer (some ⟨gb, go, none⟩) := d9; clear d9
          have e10 : u 10 = .pointer (some ⟨gb, go, none⟩) := d10; clear d10
          have e11 : u 11 = .int .i64 z.1 := d11; clear d11
          have e12 : u 12 = .bool true := d12; clear d12
          have e13 : u 13 = .bool true := d13; clear d13
          have e14 : u 14 = .bool true := d14; clear d14
          have e15 : u 15 = .pointer (some ⟨w2.heap.size, 2, none⟩) := d15; clear d15
          have e16 : u 16 = .slice ax2 r.senders.length px2 := d16; clear d16
          have e17 : u 17 = .int .i64 (r.senders.length : Int) := d17; clear d17
          have e18 : u 18 = .pointer (some ⟨w1.heap.size, 2, none⟩) := d18; clear d18
          have e19 : u 19 = .slice (some ⟨gb, go, none⟩) cs.senders.length ps2 := d19; clear d19
          have e20 : u 20 = .int .i64 (cs.senders.length : Int) := d20; clear d20
          have e21 : u 21 = .int .i64 ((cs.senders.length : Int) - 1) := d21; clear d21
          have e22 : u 22 = .bool true := d22; clear d22
          simp only [putL, Act.put, List.setIfInBounds_toArray, List.set_cons_zero, List.set_cons_succ, e0, e1, e2, e3, e4, e5, e6, e7, e8, e9, e10, e11, e12, e13, e14, e15, e16, e17, e18, e19, e20, e21, e22] at hK ⊢
          refine Closed.mk ?_
          go_simp
          exact hK.out _ _ ⟨hA, hN, x_s, x_x, x_t, o_s, c_0, c_1⟩ trivial rfl
        · refine GoalL.mk (by rfl) ⟨fun _ _ _ _ _ h => h, fun _ _ _ _ _ _ h => h⟩ ?_
          intro f u wq hf hC hD K hK
          have hA := hC.1; have hN := hC.2.1; have x_s := hC.2.2.1; have x_x := hC.2.2.2.1; have x_t := hC.2.2.2.2.1; have o_s := hC.2.2.2.2.2.1; have c_0 := hC.2.2.2.2.2.2.1; have c_1 := hC.2.2.2.2.2.2.2; clear hC
          have d0 := hD.1; have d1 := hD.2.1; have d2 := hD.2.2.1; have d3 := hD.2.2.2.1; have d4 := hD.2.2.2.2.1; have d5 := hD.2.2.2.2.2.1; have d6 := hD.2.2.2.2.2.2.1; have d7 := hD.2.2.2.2.2.2.2.1; have d8 := hD.2.2.2.2.2.2.2.2.1; have d9 := hD.2.2.2.2.2.2.2.2.2.1; have d10 := hD.2.2.2.2.2.2.2.2.2.2.1; have d11 := hD.2.2.2.2.2.2.2.2.2.2.2.1; have d12 := hD.2.2.2.2.2.2.2.2.2.2.2.2.1; have d13 := hD.2.2.2.2.2.2.2.2.2.2.2.2.2.1; have d14 := hD.2.2.2.2.2.2.2.2.2.2.2.2.2.2.1; have d15 := hD.2.2.2.2.2.2.2.2.2.2.2.2.2.2.2.1; have d16 := hD.2.2.2.2.2.2.2.2.2.2.2.2.2.2.2.2.1; have d17 := hD.2.2.2.2.2.2.2.2.2.2.2.2.2.2.2.2.2.1; have d18 := hD.2.2.2.2.2.2.2.2.2.2.2.2.2.2.2.2.2.2.1; have d19 := hD.2.2.2.2.2.2.2.2.2.2.2.2.2.2.2.2.2.2.2.1; have d20 := hD.2.2.2.2.2.2.2.2.2.2.2.2.2.2.2.2.2.2.2.2.1; have d21 := hD.2.2.2.2.2.2.2.2.2.2.2.2.2.2.2.2.2.2.2.2.2.1; have d22 := hD.2.2.2.2.2.2.2.2.2.2.2.2.2.2.2.2.2.2.2.2.2.2.1; have d23 := hD.2.2.2.2.2.2.2.2.2.2.2.2.2.2.2.2.2.2.2.2.2.2.2.1; clear hD
          have e0 : u 0 = .slice (some ⟨yb, yo, none⟩) y.length pya := d0; clear d0
          have e1 : u 1 = .int .i64 (y.length : Int) := d1; clear d1
          have e2 : u 2 = .bool true := d2; clear d2
          have e3 : u 3 = .bool true := d3; clear d3
          have e4 : u 4 = .slice (some ⟨yb, yo, none⟩) y.length pya := d4; clear d4
          have e5 : u 5 = .pointer (some ⟨yb, yo, none⟩) := d5; clear d5
          have e6 : u 6 = .int .i64 z.1 := d6; clear d6
          have e7 : u 7 = .pointer (some ⟨w1.heap.size, 2, none⟩) := d7; clear d7
          have e8 : u 8 = .slice (some ⟨gb, go, none⟩) cs.senders.length ps2 := d8; clear d8
          have e9 : u 9 = .pointer (some ⟨gb, go, none⟩) := d9; clear d9
          have e10 : u 10 = .pointer (some ⟨gb, go, none⟩) := d10; clear d10
          have e11 : u 11 = .int .i64 z.1 := d11; clear d11
          have e12 : u 12 = .bool true := d12; clear d12
          have e13 : u 13 = .bool true := d13; clear d13
          have e14 : u 14 = .bool true := d14; clear d14
          have e15 : u 15 = .pointer (some ⟨w2.heap.size, 2, none⟩) := d15; clear d15
          have e16 : u 16 = .slice ax2 r.senders.length px2 := d16; clear d16
          have e17 : u 17 = .int .i64 (r.senders.length : Int) := d17; clear d17
          have e18 : u 18 = .pointer (some ⟨w1.heap.size, 2, none⟩) := d18; clear d18
          have e19 : u 19 = .slice (some ⟨gb, go, none⟩) cs.senders.length ps2 := d19; clear d19
          have e20 : u 20 = .int .i64 (cs.senders.length : Int) := d20; clear d20
          have e21 : u 21 = .int .i64 ((cs.senders.length : Int) - 1) := d21; clear d21
          have e22 : u 22 = .bool true := d22; clear d22
          have e23 : u 23 = .bool true := d23; clear d23
          simp only [putL, Act.put, List.setIfInBounds_toArray, List.set_cons_zero, List.set_cons_succ, e0, e1, e2, e3, e4, e5, e6, e7, e8, e9, e10, e11, e12, e13, e14, e15, e16, e17, e18, e19, e20, e21, e22, e23] at hK ⊢
          refine Closed.mk ?_
          go_simp
          exact hK.out _ _ ⟨hA, hN, x_s, x_x, x_t, o_s, c_0, c_1⟩ trivial rfl
        · refine GoalL.mk (by rfl) ⟨fun _ _ _ _ _ h => h, fun _ _ _ _ _ _ h => h⟩ ?_
          intro f u wq hf hC hD K hK
          have hA := hC.1; have hN := hC.2.1; have x_s := hC.2.2.1; have x_x := hC.2.2.2.1; have x_t := hC.2.2.2.2.1; have o_s := hC.2.2.2.2.2.1; have c_0 := hC.2.2.2.2.2.2.1; have c_1 := hC.2.2.2.2.2.2.2; clear hC
          have d0 := hD.1; have d1 := hD.2.1; have d2 := hD.2.2.1; have d3 := hD.2.2.2.1; have d4 := hD.2.2.2.2.1; have d5 := hD.2.2.2.2.2.1; have d6 := hD.2.2.2.2.2.2.1; have d7 := hD.2.2.2.2.2.2.2.1; have d8 := hD.2.2.2.2.2.2.2.2.1; have d9 := hD.2.2.2.2.2.2.2.2.2.1; have d10 := hD.2.2.2.2.2.2.2.2.2.2.1; have d11 := hD.2.2.2.2.2.2.2.2.2.2.2.1; have d12 := hD.2.2.2.2.2.2.2.2.2.2.2.2.1; have d13 := hD.2.2.2.2.2.2.2.2.2.2.2.2.2.1; have d14 := hD.2.2.2.2.2.2.2.2.2.2.2.2.2.2.1; have d15 := hD.2.2.2.2.2.2.2.2.2.2.2.2.2.2.2.1; have d16 := hD.2.2.2.2.2.2.2.2.2.2.2.2.2.2.2.2.1; have d17 := hD.2.2.2.2.2.2.2.2.2.2.2.2.2.2.2.2.2.1; have d18 := hD.2.2.2.2.2.2.2.2.2.2.2.2.2.2.2.2.2.2.1; have d19 := hD.2.2.2.2.2.2.2.2.2.2.2.2.2.2.2.2.2.2.2.1; have d20 := hD.2.2.2.2.2.2.2.2.2.2.2.2.2.2.2.2.2.2.2.2.1; have d21 := hD.2.2.2.2.2.2.2.2.2.2.2.2.2.2.2.2.2.2.2.2.2.1; have d22 := hD.2.2.2.2.2.2.2.2.2.2.2.2.2.2.2.2.2.2.2.2.2.2.1; have d23 := hD.2.2.2.2.2.2.2.2.2.2.2.2.2.2.2.2.2.2.2.2.2.2.2.1; have d24 := hD.2.2.2.2.2.2.2.2.2.2.2.2.2.2.2.2.2.2.2.2.2.2.2.2.1; clear hD
          have e0 : u 0 = .slice (some ⟨yb, yo, none⟩) y.length pya := d0; clear d0
          have e1 : u 1 = .int .i64 (y.length : Int) := d1; clear d1
          have e2 : u 2 = .bool true := d2; clear d2
          have e3 : u 3 = .bool true := d3; clear d3
          have e4 : u 4 = .slice (some ⟨yb, yo, none⟩) y.length pya := d4; clear d4
          have e5 : u 5 = .pointer (some ⟨yb, yo, none⟩) := d5; clear d5
          have e6 : u 6 = .int .i64 z.1 := d6; clear d6
          have e7 : u 7 = .pointer (some ⟨w1.heap.size, 2, none⟩) := d7; clear d7
          have e8 : u 8 = .slice (some ⟨gb, go, none⟩) cs.senders.length ps2 := d8; clear d8
          have e9 : u 9 = .pointer (some ⟨gb, go, none⟩) := d9; clear d9
          have e10 : u 10 = .pointer (some ⟨gb, go, none⟩) := d10; clear d10
          have e11 : u 11 = .int .i64 z.1 := d11; clear d11
          have e12 : u 12 = .bool true := d12; clear d12
          have e13 : u 13 = .bool true := d13; clear d13
          have e14 : u 14 = .bool true := d14; clear d14
          have e15 : u 15 = .pointer (some ⟨w2.heap.size, 2, none⟩) := d15; clear d15
          have e16 : u 16 = .slice ax2 r.senders.length px2 := d16; clear d16
          have e17 : u 17 = .int .i64 (r.senders.length : Int) := d17; clear d17
          have e18 : u 18 = .pointer (some ⟨w1.heap.size, 2, none⟩) := d18; clear d18
          have e19 : u 19 = .slice (some ⟨gb, go, none⟩) cs.senders.length ps2 := d19; clear d19
          have e20 : u 20 = .int .i64 (cs.senders.length : Int) := d20; clear d20
          have e21 : u 21 = .int .i64 ((cs.senders.length : Int) - 1) := d21; clear d21
          have e22 : u 22 = .bool true := d22; clear d22
          have e23 : u 23 = .bool true := d23; clear d23
          have e24 : u 24 = .bool true := d24; clear d24
          simp only [putL, Act.put, List.setIfInBounds_toArray, List.set_cons_zero, List.set_cons_succ, e0, e1, e2, e3, e4, e5, e6, e7, e8, e9, e10, e11, e12, e13, e14, e15, e16, e17, e18, e19, e20, e21, e22, e23, e24] at hK ⊢
          refine Closed.mk ?_
          go_simp
          exact hK.out _ _ ⟨hA, hN, x_s, x_x, x_t, o_s, c_0, c_1⟩ trivial rfl
        · refine GoalL.mk (by rfl) ⟨fun _ _ _ _ _ h => h, fun _ _ _ _ _ _ h => h⟩ ?_
          intro f u wq hf hC hD K hK
          have hA := hC.1; have hN := hC.2.1; have x_s := hC.2.2.1; have x_x := hC.2.2.2.1; have x_t := hC.2.2.2.2.1; have o_s := hC.2.2.2.2.2.1; have c_0 := hC.2.2.2.2.2.2.1; have c_1 := hC.2.2.2.2.2.2.2; clear hC
          have d0 := hD.1; have d1 := hD.2.1; have d2 := hD.2.2.1; have d3 := hD.2.2.2.1; have d4 := hD.2.2.2.2.1; have d5 := hD.2.2.2.2.2.1; have d6 := hD.2.2.2.2.2.2.1; have d7 := hD.2.2.2.2.2.2.2.1; have d8 := hD.2.2.2.2.2.2.2.2.1; have d9 := hD.2.2.2.2.2.2.2.2.2.1; have d10 := hD.2.2.2.2.2.2.2.2.2.2.1; have d11 := hD.2.2.2.2.2.2.2.2.2.2.2.1; have d12 := hD.2.2.2.2.2.2.2.2.2.2.2.2.1; have d13 := hD.2.2.2.2.2.2.2.2.2.2.2.2.2.1; have d14 := hD.2.2.2.2.2.2.2.2.2.2.2.2.2.2.1; have d15 := hD.2.2.2.2.2.2.2.2.2.2.2.2.2.2.2.1; have d16 := hD.2.2.2.2.2.2.2.2.2.2.2.2.2.2.2.2.1; have d17 := hD.2.2.2.2.2.2.2.2.2.2.2.2.2.2.2.2.2.1; have d18 := hD.2.2.2.2.2.2.2.2.2.2.2.2.2.2.2.2.2.2.1; have d19 := hD.2.2.2.2.2.2.2.2.2.2.2.2.2.2.2.2.2.2.2.1; have d20 := hD.2.2.2.2.2.2.2.2.2.2.2.2.2.2.2.2.2.2.2.2.1; have d21 := hD.2.2.2.2.2.2.2.2.2.2.2.2.2.2.2.2.2.2.2.2.2.1; have d22 := hD.2.2.2.2.2.2.2.2.2.2.2.2.2.2.2.2.2.2.2.2.2.2.1; have d23 := hD.2.2.2.2.2.2.2.2.2.2.2.2.2.2.2.2.2.2.2.2.2.2.2.1; have d24 := hD.2.2.2.2.2.2.2.2.2.2.2.2.2.2.2.2.2.2.2.2.2.2.2.2.1; have d25 := hD.2.2.2.2.2.2.2.2.2.2.2.2.2.2.2.2.2.2.2.2.2.2.2.2.2.1; clear hD
          have e0 : u 0 = .slice (some ⟨yb, yo, none⟩) y.length pya := d0; clear d0
          have e1 : u 1 = .int .i64 (y.length : Int) := d1; clear d1
          have e2 : u 2 = .bool true := d2; clear d2
          have e3 : u 3 = .bool true := d3; clear d3
          have e4 : u 4 = .slice (some ⟨yb, yo, none⟩) y.length pya := d4; clear d4
          have e5 : u 5 = .pointer (some ⟨yb, yo, none⟩) := d5; clear d5
          have e6 : u 6 = .int .i64 z.1 := d6; clear d6
          have e7 : u 7 = .pointer (some ⟨w1.heap.size, 2, none⟩) := d7; clear d7
          have e8 : u 8 = .slice (some ⟨gb, go, none⟩) cs.senders.length ps2 := d8; clear d8
          have e9 : u 9 = .pointer (some ⟨gb, go, none⟩) := d9; clear d9
          have e10 : u 10 = .pointer (some ⟨gb, go, none⟩) := d10; clear d10
          have e11 : u 11 = .int .i64 z.1 := d11; clear d11
          have e12 : u 12 = .bool true := d12; clear d12
          have e13 : u 13 = .bool true := d13; clear d13
          have e14 : u 14 = .bool true := d14; clear d14
          have e15 : u 15 = .pointer (some ⟨w2.heap.size, 2, none⟩) := d15; clear d15
          have e16 : u 16 = .slice ax2 r.senders.length px2 := d16; clear d16
          have e17 : u 17 = .int .i64 (r.senders.length : Int) := d17; clear d17
          have e18 : u 18 = .pointer (some ⟨w1.heap.size, 2, none⟩) := d18; clear d18
          have e19 : u 19 = .slice (some ⟨gb, go, none⟩) cs.senders.length ps2 := d19; clear d19
          have e20 : u 20 = .int .i64 (cs.senders.length : Int) := d20; clear d20
          have e21 : u 21 = .int .i64 ((cs.senders.length : Int) - 1) := d21; clear d21
          have e22 : u 22 = .bool true := d22; clear d22
          have e23 : u 23 = .bool true := d23; clear d23
          have e24 : u 24 = .bool true := d24; clear d24
          have e25 : u 25 = .pointer (some ⟨w2.heap.size, 1, none⟩) := d25; clear d25
          simp only [putL, Act.put, List.setIfInBounds_toArray, List.set_cons_zero, List.set_cons_succ, e0, e1, e2, e3, e4, e5, e6, e7, e8, e9, e10, e11, e12, e13, e14, e15, e16, e17, e18, e19, e20, e21, e22, e23, e24, e25] at hK ⊢
          obtain ⟨kx_0, kx_1, kx_2, kx_3, kx_4, fx_0, fx_1, fx_2, fx_3, fx_4⟩ := box5 x_x
          refine Closed.mk ?_
          go_simp
          exact hK.out _ _ ⟨hA, hN, x_s, x_x, x_t, o_s, c_0, c_1⟩ trivial rfl
        · refine GoalL.mk (by rfl) ⟨fun _ _ _ _ _ h => h, fun _ _ _ _ _ _ h => h⟩ ?_
          intro f u wq hf hC hD K hK
          have hA := hC.1; have hN := hC.2.1; have x_s := hC.2.2.1; have x_x := hC.2.2.2.1; have x_t := hC.2.2.2.2.1; have o_s := hC.2.2.2.2.2.1; have c_0 := hC.2.2.2.2.2.2.1; have c_1 := hC.2.2.2.2.2.2.2; clear hC
          have d0 := hD.1; have d1 := hD.2.1; have d2 := hD.2.2.1; have d3 := hD.2.2.2.1; have d4 := hD.2.2.2.2.1; have d5 := hD.2.2.2.2.2.1; have d6 := hD.2.2.2.2.2.2.1; have d7 := hD.2.2.2.2.2.2.2.1; have d8 := hD.2.2.2.2.2.2.2.2.1; have d9 := hD.2.2.2.2.2.2.2.2.2.1; have d10 := hD.2.2.2.2.2.2.2.2.2.2.1; have d11 := hD.2.2.2.2.2.2.2.2.2.2.2.1; have d12 := hD.2.2.2.2.2.2.2.2.2.2.2.2.1; have d13 := hD.2.2.2.2.2.2.2.2.2.2.2.2.2.1; have d14 := hD.2.2.2.2.2.2.2.2.2.2.2.2.2.2.1; have d15 := hD.2.2.2.2.2.2.2.2.2.2.2.2.2.2.2.1; have d16 := hD.2.2.2.2.2.2.2.2.2.2.2.2.2.2.2.2.1; have d17 := hD.2.2.2.2.2.2.2.2.2.2.2.2.2.2.2.2.2.1; have d18 := hD.2.2.2.2.2.2.2.2.2.2.2.2.2.2.2.2.2.2.1; have d19 := hD.2.2.2.2.2.2.2.2.2.2.2.2.2.2.2.2.2.2.2.1; have d20 := hD.2.2.2.2.2.2.2.2.2.2.2.2.2.2.2.2.2.2.2.2.1; have d21 := hD.2.2.2.2.2.2.2.2.2.2.2.2.2.2.2.2.2.2.2.2.2.1; have d22 := hD.2.2.2.2.2.2.2.2.2.2.2.2.2.2.2.2.2.2.2.2.2.2.1; have d23 := hD.2.2.2.2.2.2.2.2.2.2.2.2.2.2.2.2.2.2.2.2.2.2.2.1; have d24 := hD.2.2.2.2.2.2.2.2.2.2.2.2.2.2.2.2.2.2.2.2.2.2.2.2.1; have d25 := hD.2.2.2.2.2.2.2.2.2.2.2.2.2.2.2.2.2.2.2.2.2.2.2.2.2.1; have d26 := hD.2.2.2.2.2.2.2.2.2.2.2.2.2.2.2.2.2.2.2.2.2.2.2.2.2.2.1; clear hD
          have e0 : u 0 = .slice (some ⟨yb, yo, none⟩) y.length pya := d0; clear d0
          have e1 : u 1 = .int .i64 (y.length : Int) := d1; clear d1
          have e2 : u 2 = .bool true := d2; clear d2
          have e3 : u 3 = .bool true := d3; clear d3
          have e4 : u 4 = .slice (some ⟨yb, yo, none⟩) y.length pya := d4; clear d4
          have e5 : u 5 = .pointer (some ⟨yb, yo, none⟩) := d5; clear d5
          have e6 : u 6 = .int .i64 z.1 := d6; clear d6
          have e7 : u 7 = .pointer (some ⟨w1.heap.size, 2, none⟩) := d7; clear d7
          have e8 : u 8 = .slice (some ⟨gb, go, none⟩) cs.senders.length ps2 := d8; clear d8
          have e9 : u 9 = .pointer (some ⟨gb, go, none⟩) := d9; clear d9
          have e10 : u 10 = .pointer (some ⟨gb, go, none⟩) := d10; clear d10
          have e11 : u 11 = .int .i64 z.1 := d11; clear d11
          have e12 : u 12 = .bool true := d12; clear d12
          have e13 : u 13 = .bool true := d13; clear d13
          have e14 : u 14 = .bool true := d14; clear d14
          have e15 : u 15 = .pointer (some ⟨w2.heap.size, 2, none⟩) := d15; clear d15
          have e16 : u 16 = .slice ax2 r.senders.length px2 := d16; clear d16
          have e17 : u 17 = .int .i64 (r.senders.length : Int) := d17; clear d17
          have e18 : u 18 = .pointer (some ⟨w1.heap.size, 2, none⟩) := d18; clear d18
          have e19 : u 19 = .slice (some ⟨gb, go, none⟩) cs.senders.length ps2 := d19; clear d19
          have e20 : u 20 = .int .i64 (cs.senders.length : Int) := d20; clear d20
          have e21 : u 21 = .int .i64 ((cs.senders.length : Int) - 1) := d21; clear d21
          have e22 : u 22 = .bool true := d22; clear d22
          have e23 : u 23 = .bool true := d23; clear d23
          have e24 : u 24 = .bool true := d24; clear d24
          have e25 : u 25 = .pointer (some ⟨w2.heap.size, 1, none⟩) := d25; clear d25
          have e26 : u 26 = .slice ax1 r.items.length px1 := d26; clear d26
          simp only [putL, Act.put, List.setIfInBounds_toArray, List.set_cons_zero, List.set_cons_succ, e0, e1, e2, e3, e4, e5, e6, e7, e8, e9, e10, e11, e12, e13, e14, e15, e16, e17, e18, e19, e20, e21, e22, e23, e24, e25, e26] at hK ⊢
          refine Closed.mk ?_
          go_simp
          exact hK.out _ _ ⟨hA, hN, x_s, x_x, x_t, o_s, c_0, c_1⟩ trivial rfl
        · refine GoalL.mk (by rfl) ⟨fun _ _ _ _ _ h => h, fun _ _ _ _ _ _ h => h⟩ ?_
          intro f u wq hf hC hD K hK
          have hA := hC.1; have hN := hC.2.1; have x_s := hC.2.2.1; have x_x := hC.2.2.2.1; have x_t := hC.2.2.2.2.1; have o_s := hC.2.2.2.2.2.1; have c_0 := hC.2.2.2.2.2.2.1; have c_1 := hC.2.2.2.2.2.2.2; clear hC
          have d0 := hD.1; have d1 := hD.2.1; have d2 := hD.2.2.1; have d3 := hD.2.2.2.1; have d4 := hD.2.2.2.2.1; have d5 := hD.2.2.2.2.2.1; have d6 := hD.2.2.2.2.2.2.1; have d7 := hD.2.2.2.2.2.2.2.1; have d8 := hD.2.2.2.2.2.2.2.2.1; have d9 := hD.2.2.2.2.2.2.2.2.2.1; have d10 := hD.2.2.2.2.2.2.2.2.2.2.1; have d11 := hD.2.2.2.2.2.2.2.2.2.2.2.1; have d12 := hD.2.2.2.2.2.2.2.2.2.2.2.2.1; have d13 := hD.2.2.2.2.2.2.2.2.2.2.2.2.2.1; have d14 := hD.2.2.2.2.2.2.2.2.2.2.2.2.2.2.1; have d15 := hD.2.2.2.2.2.2.2.2.2.2.2.2.2.2.2.1; have d16 := hD.2.2.2.2.2.2.2.2.2.2.2.2.2.2.2.2.1; have d17 := hD.2.2.2.2.2.2.2.2.2.2.2.2.2.2.2.2.2.1; have d18 := hD.2.2.2.2.2.2.2.2.2.2.2.2.2.2.2.2.2.2.1; have d19 := hD.2.2.2.2.2.2.2.2.2.2.2.2.2.2.2.2.2.2.2.1; have d20 := hD.2.2.2.2.2.2.2.2.2.2.2.2.2.2.2.2.2.2.2.2.1; have d21 := hD.2.2.2.2.2.2.2.2.2.2.2.2.2.2.2.2.2.2.2.2.2.1; have d22 := hD.2.2.2.2.2.2.2.2.2.2.2.2.2.2.2.2.2.2.2.2.2.2.1; have d23 := hD.2.2.2.2.2.2.2.2.2.2.2.2.2.2.2.2.2.2.2.2.2.2.2.1; have d24 := hD.2.2.2.2.2.2.2.2.2.2.2.2.2.2.2.2.2.2.2.2.2.2.2.2.1; clear hD
          have e0 : u 0 = .slice (some ⟨yb, yo, none⟩) y.length pya := d0; clear d0
          have e1 : u 1 = .int .i64 (y.length : Int) := d1; clear d1
          have e2 : u 2 = .bool true := d2; clear d2
          have e3 : u 3 = .bool true := d3; clear d3
          have e4 : u 4 = .slice (some ⟨yb, yo, none⟩) y.length pya := d4; clear d4
          have e5 : u 5 = .pointer (some ⟨yb, yo, none⟩) := d5; clear d5
          have e6 : u 6 = .int .i64 z.1 := d6; clear d6
          have e7 : u 7 = .pointer (some ⟨w1.heap.size, 2, none⟩) := d7; clear d7
          have e8 : u 8 = .slice (some ⟨gb, go, none⟩) cs.senders.length ps2 := d8; clear d8
          have e9 : u 9 = .pointer (some ⟨gb, go, none⟩) := d9; clear d9
          have e10 : u 10 = .pointer (some ⟨gb, go, none⟩) := d10; clear d10
          have e11 : u 11 = .int .i64 z.1 := d11; clear d11
          have e12 : u 12 = .bool true := d12; clear d12
          have e13 : u 13 = .bool true := d13; clear d13
          have e14 : u 14 = .bool true := d14; clear d14
          have e15 : u 15 = .pointer (some ⟨w2.heap.size, 2, none⟩) := d15; clear d15
          have e16 : u 16 = .slice ax2 r.senders.length px2 := d16; clear d16
          have e17 : u 17 = .int .i64 (r.senders.length : Int) := d17; clear d17
          have e18 : u 18 = .pointer (some ⟨w1.heap.size, 2, none⟩) := d18; clear d18
          have e19 : u 19 = .slice (some ⟨gb, go, none⟩) cs.senders.length ps2 := d19; clear d19
          have e20 : u 20 = .int .i64 (cs.senders.length : Int) := d20; clear d20
          have e21 : u 21 = .int .i64 ((cs.senders.length : Int) - 1) := d21; clear d21
          have e22 : u 22 = .bool true := d22; clear d22
          have e23 : u 23 = .bool true := d23; clear d23
          have e24 : u 24 = .bool true := d24; clear d24
          simp only [putL, Act.put, List.setIfInBounds_toArray, List.set_cons_zero, List.set_cons_succ, e0, e1, e2, e3, e4, e5, e6, e7, e8, e9, e10, e11, e12, e13, e14, e15, e16, e17, e18, e19, e20, e21, e22, e23, e24] at hK ⊢
          refine Closed.mk ?_
          go_simp
          exact hK.out _ _ ⟨hA, hN, x_s, x_x, x_t, o_s, c_0, c_1⟩ trivial rfl
        · refine GoalL.mk (by rfl) ⟨fun _ _ _ _ _ h => h, fun _ _ _ _ _ _ h => h⟩ ?_
          intro f u wq hf hC hD K hK
          have hA := hC.1; have hN := hC.2.1; have x_s := hC.2.2.1; have x_x := hC.2.2.2.1; have x_t := hC.2.2.2.2.1; have o_s := hC.2.2.2.2.2.1; have c_0 := hC.2.2.2.2.2.2.1; have c_1 := hC.2.2.2.2.2.2.2; clear hC
          have d0 := hD.1; have d1 := hD.2.1; have d2 := hD.2.2.1; have d3 := hD.2.2.2.1; have d4 := hD.2.2.2.2.1; have d5 := hD.2.2.2.2.2.1; have d6 := hD.2.2.2.2.2.2.1; have d7 := hD.2.2.2.2.2.2.2.1; have d8 := hD.2.2.2.2.2.2.2.2.1; have d9 := hD.2.2.2.2.2.2.2.2.2.1; have d10 := hD.2.2.2.2.2.2.2.2.2.2.1; have d11 := hD.2.2.2.2.2.2.2.2.2.2.2.1; have d12 := hD.2.2.2.2.2.2.2.2.2.2.2.2.1; have d13 := hD.2.2.2.2.2.2.2.2.2.2.2.2.2.1; have d14 := hD.2.2.2.2.2.2.2.2.2.2.2.2.2.2.1; have d15 := hD.2.2.2.2.2.2.2.2.2.2.2.2.2.2.2.1; have d16 := hD.2.2.2.2.2.2.2.2.2.2.2.2.2.2.2.2.1; have d17 := hD.2.2.2.2.2.2.2.2.2.2.2.2.2.2.2.2.2.1; have d18 := hD.2.2.2.2.2.2.2.2.2.2.2.2.2.2.2.2.2.2.1; have d19 := hD.2.2.2.2.2.2.2.2.2.2.2.2.2.2.2.2.2.2.2.1; have d20 := hD.2.2.2.2.2.2.2.2.2.2.2.2.2.2.2.2.2.2.2.2.1; have d21 := hD.2.2.2.2.2.2.2.2.2.2.2.2.2.2.2.2.2.2.2.2.2.1; have d22 := hD.2.2.2.2.2.2.2.2.2.2.2.2.2.2.2.2.2.2.2.2.2.2.1; have d23 := hD.2.2.2.2.2.2.2.2.2.2.2.2.2.2.2.2.2.2.2.2.2.2.2.1; have d24 := hD.2.2.2.2.2.2.2.2.2.2.2.2.2.2.2.2.2.2.2.2.2.2.2.2.1; have d28 := hD.2.2.2.2.2.2.2.2.2.2.2.2.2.2.2.2.2.2.2.2.2.2.2.2.2.1; clear hD
          have e0 : u 0 = .slice (some ⟨yb, yo, none⟩) y.length pya := d0; clear d0
          have e1 : u 1 = .int .i64 (y.length : Int) := d1; clear d1
          have e2 : u 2 = .bool true := d2; clear d2
          have e3 : u 3 = .bool true := d3; clear d3
          have e4 : u 4 = .slice (some ⟨yb, yo, none⟩) y.length pya := d4; clear d4
          have e5 : u 5 = .pointer (some ⟨yb, yo, none⟩) := d5; clear d5
          have e6 : u 6 = .int .i64 z.1 := d6; clear d6
          have e7 : u 7 = .pointer (some ⟨w1.heap.size, 2, none⟩) := d7; clear d7
          have e8 : u 8 = .slice (some ⟨gb, go, none⟩) cs.senders.length ps2 := d8; clear d8
          have e9 : u 9 = .pointer (some ⟨gb, go, none⟩) := d9; clear d9
          have e10 : u 10 = .pointer (some ⟨gb, go, none⟩) := d10; clear d10
          have e11 : u 11 = .int .i64 z.1 := d11; clear d11
          have e12 : u 12 = .bool true := d12; clear d12
          have e13 : u 13 = .bool true := d13; clear d13
          have e14 : u 14 = .bool true := d14; clear d14
          have e15 : u 15 = .pointer (some ⟨w2.heap.size, 2, none⟩) := d15; clear d15
          have e16 : u 16 = .slice ax2 r.senders.length px2 := d16; clear d16
          have e17 : u 17 = .int .i64 (r.senders.length : Int) := d17; clear d17
          have e18 : u 18 = .pointer (some ⟨w1.heap.size, 2, none⟩) := d18; clear d18
          have e19 : u 19 = .slice (some ⟨gb, go, none⟩) cs.senders.length ps2 := d19; clear d19
          have e20 : u 20 = .int .i64 (cs.senders.length : Int) := d20; clear d20
          have e21 : u 21 = .int .i64 ((cs.senders.length : Int) - 1) := d21; clear d21
          have e22 : u 22 = .bool true := d22; clear d22
          have e23 : u 23 = .bool true := d23; clear d23
          have e24 : u 24 = .bool true := d24; clear d24
          have e28 : u 28 = .pointer (some ⟨w1.heap.size, 1, none⟩) := d28; clear d28
          simp only [putL, Act.put, List.setIfInBounds_toArray, List.set_cons_zero, List.set_cons_succ, e0, e1, e2, e3, e4, e5, e6, e7, e8, e9, e10, e11, e12, e13, e14, e15, e16, e17, e18, e19, e20, e21, e22, e23, e24, e28] at hK ⊢
          obtain ⟨ks_0, ks_1, ks_2, ks_3, ks_4, fs_0, fs_1, fs_2, fs_3, fs_4⟩ := box5 x_s
          refine Closed.mk ?_
          go_simp
          exact hK.out _ _ ⟨hA, hN, x_s, x_x, x_t, o_s, c_0, c_1⟩ trivial rfl
        · refine GoalL.mk (by rfl) ⟨fun _ _ _ _ _ h => h, fun _ _ _ _ _ _ h => h⟩ ?_
          intro f u wq hf hC hD K hK
          have hA := hC.1; have hN := hC.2.1; have x_s := hC.2.2.1; have x_x := hC.2.2.2.1; have x_t := hC.2.2.2.2.1; have o_s := hC.2.2.2.2.2.1; have c_0 := hC.2.2.2.2.2.2.1; have c_1 := hC.2.2.2.2.2.2.2; clear hC
          have d0 := hD.1; have d1 := hD.2.1; have d2 := hD.2.2.1; have d3 := hD.2.2.2.1; have d4 := hD.2.2.2.2.1; have d5 := hD.2.2.2.2.2.1; have d6 := hD.2.2.2.2.2.2.1; have d7 := hD.2.2.2.2.2.2.2.1; have d8 := hD.2.2.2.2.2.2.2.2.1; have d9 := hD.2.2.2.2.2.2.2.2.2.1; have d10 := hD.2.2.2.2.2.2.2.2.2.2.1; have d11 := hD.2.2.2.2.2.2.2.2.2.2.2.1; have d12 := hD.2.2.2.2.2.2.2.2.2.2.2.2.1; have d13 := hD.2.2.2.2.2.2.2.2.2.2.2.2.2.1; have d14 := hD.2.2.2.2.2.2.2.2.2.2.2.2.2.2.1; have d15 := hD.2.2.2.2.2.2.2.2.2.2.2.2.2.2.2.1; have d16 := hD.2.2.2.2.2.2.2.2.2.2.2.2.2.2.2.2.1; have d17 := hD.2.2.2.2.2.2.2.2.2.2.2.2.2.2.2.2.2.1; have d18 := hD.2.2.2.2.2.2.2.2.2.2.2.2.2.2.2.2.2.2.1; have d19 := hD.2.2.2.2.2.2.2.2.2.2.2.2.2.2.2.2.2.2.2.1; have d20 := hD.2.2.2.2.2.2.2.2.2.2.2.2.2.2.2.2.2.2.2.2.1; have d21 := hD.2.2.2.2.2.2.2.2.2.2.2.2.2.2.2.2.2.2.2.2.2.1; have d22 := hD.2.2.2.2.2.2.2.2.2.2.2.2.2.2.2.2.2.2.2.2.2.2.1; have d23 := hD.2.2.2.2.2.2.2.2.2.2.2.2.2.2.2.2.2.2.2.2.2.2.2.1; have d24 := hD.2.2.2.2.2.2.2.2.2.2.2.2.2.2.2.2.2.2.2.2.2.2.2.2.1; have d28 := hD.2.2.2.2.2.2.2.2.2.2.2.2.2.2.2.2.2.2.2.2.2.2.2.2.2.1; have d29 := hD.2.2.2.2.2.2.2.2.2.2.2.2.2.2.2.2.2.2.2.2.2.2.2.2.2.2.1; clear hD
          have e0 : u 0 = .slice (some ⟨yb, yo, none⟩) y.length pya := d0; clear d0
          have e1 : u 1 = .int .i64 (y.length : Int) := d1; clear d1
          have e2 : u 2 = .bool true := d2; clear d2
          have e3 : u 3 = .bool true := d3; clear d3
          have e4 : u 4 = .slice (some ⟨yb, yo, none⟩) y.length pya := d4; clear d4
          have e5 : u 5 = .pointer (some ⟨yb, yo, none⟩) := d5; clear d5
          have e6 : u 6 = .int .i64 z.1 := d6; clear d6
          have e7 : u 7 = .pointer (some ⟨w1.heap.size, 2, none⟩) := d7; clear d7
          have e8 : u 8 = .slice (some ⟨gb, go, none⟩) cs.senders.length ps2 := d8; clear d8
          have e9 : u 9 = .pointer (some ⟨gb, go, none⟩) := d9; clear d9
          have e10 : u 10 = .pointer (some ⟨gb, go, none⟩) := d10; clear d10
          have e11 : u 11 = .int .i64 z.1 := d11; clear d11
          have e12 : u 12 = .bool true := d12; clear d12
          have e13 : u 13 = .bool true := d13; clear d13
          have e14 : u 14 = .bool true := d14; clear d14
          have e15 : u 15 = .pointer (some ⟨w2.heap.size, 2, none⟩) := d15; clear d15
          have e16 : u 16 = .slice ax2 r.senders.length px2 := d16; clear d16
          have e17 : u 17 = .int .i64 (r.senders.length : Int) := d17; clear d17
          have e18 : u 18 = .pointer (some ⟨w1.heap.size, 2, none⟩) := d18; clear d18
          have e19 : u 19 = .slice (some ⟨gb, go, none⟩) cs.senders.length ps2 := d19; clear d19
          have e20 : u 20 = .int .i64 (cs.senders.length : Int) := d20; clear d20
          have e21 : u 21 = .int .i64 ((cs.senders.length : Int) - 1) := d21; clear d21
          have e22 : u 22 = .bool true := d22; clear d22
          have e23 : u 23 = .bool true := d23; clear d23
          have e24 : u 24 = .bool true := d24; clear d24
          have e28 : u 28 = .pointer (some ⟨w1.heap.size, 1, none⟩) := d28; clear d28
          have e29 : u 29 = .slice as1 cs.items.length ps1 := d29; clear d29
          simp only [putL, Act.put, List.setIfInBounds_toArray, List.set_cons_zero, List.set_cons_succ, e0, e1, e2, e3, e4, e5, e6, e7, e8, e9, e10, e11, e12, e13, e14, e15, e16, e17, e18, e19, e20, e21, e22, e23, e24, e28, e29] at hK ⊢
          refine Closed.mk ?_
          go_simp
          exact hK.out _ _ ⟨hA, hN, x_s, x_x, x_t, o_s, c_0, c_1⟩ trivial rfl
        · refine GoalL.mk (by rfl) ⟨fun _ _ _ _ _ h => h, fun _ _ _ _ _ _ h => h⟩ ?_
          intro f u wq hf hC hD K hK
          have hA := hC.1; have hN := hC.2.1; have x_s := hC.2.2.1; have x_x := hC.2.2.2.1; have x_t := hC.2.2.2.2.1; have o_s := hC.2.2.2.2.2.1; have c_0 := hC.2.2.2.2.2.2.1; have c_1 := hC.2.2.2.2.2.2.2; clear hC
          have d0 := hD.1; have d1 := hD.2.1; have d2 := hD.2.2.1; have d3 := hD.2.2.2.1; have d4 := hD.2.2.2.2.1; have d5 := hD.2.2.2.2.2.1; have d6 := hD.2.2.2.2.2.2.1; have d7 := hD.2.2.2.2.2.2.2.1; have d8 := hD.2.2.2.2.2.2.2.2.1; have d9 := hD.2.2.2.2.2.2.2.2.2.1; have d10 := hD.2.2.2.2.2.2.2.2.2.2.1; have d11 := hD.2.2.2.2.2.2.2.2.2.2.2.1; have d12 := hD.2.2.2.2.2.2.2.2.2.2.2.2.1; have d13 := hD.2.2.2.2.2.2.2.2.2.2.2.2.2.1; have d14 := hD.2.2.2.2.2.2.2.2.2.2.2.2.2.2.1; have d15 := hD.2.2.2.2.2.2.2.2.2.2.2.2.2.2.2.1; have d16 := hD.2.2.2.2.2.2.2.2.2.2.2.2.2.2.2.2.1; have d17 := hD.2.2.2.2.2.2.2.2.2.2.2.2.2.2.2.2.2.1; have d18 := hD.2.2.2.2.2.2.2.2.2.2.2.2.2.2.2.2.2.2.1; have d19 := hD.2.2.2.2.2.2.2.2.2.2.2.2.2.2.2.2.2.2.2.1; have d20 := hD.2.2.2.2.2.2.2.2.2.2.2.2.2.2.2.2.2.2.2.2.1; have d21 := hD.2.2.2.2.2.2.2.2.2.2.2.2.2.2.2.2.2.2.2.2.2.1; have d22 := hD.2.2.2.2.2.2.2.2.2.2.2.2.2.2.2.2.2.2.2.2.2.2.1; have d23 := hD.2.2.2.2.2.2.2.2.2.2.2.2.2.2.2.2.2.2.2.2.2.2.2.1; have d24 := hD.2.2.2.2.2.2.2.2.2.2.2.2.2.2.2.2.2.2.2.2.2.2.2.2.1; have d25 := hD.2.2.2.2.2.2.2.2.2.2.2.2.2.2.2.2.2.2.2.2.2.2.2.2.2.1; have d26 := hD.2.2.2.2.2.2.2.2.2.2.2.2.2.2.2.2.2.2.2.2.2.2.2.2.2.2.1; have d27 := hD.2.2.2.2.2.2.2.2.2.2.2.2.2.2.2.2.2.2.2.2.2.2.2.2.2.2.2.1; have d28 := hD.2.2.2.2.2.2.2.2.2.2.2.2.2.2.2.2.2.2.2.2.2.2.2.2.2.2.2.2.1; have d29 := hD.2.2.2.2.2.2.2.2.2.2.2.2.2.2.2.2.2.2.2.2.2.2.2.2.2.2.2.2.2.1; have d30 := hD.2.2.2.2.2.2.2.2.2.2.2.2.2.2.2.2.2.2.2.2.2.2.2.2.2.2.2.2.2.2.1; clear hD
          have e0 : u 0 = .slice (some ⟨yb, yo, none⟩) y.length pya := d0; clear d0
          have e1 : u 1 = .int .i64 (y.length : Int) := d1; clear d1
          have e2 : u 2 = .bool true := d2; clear d2
          have e3 : u 3 = .bool true := d3; clear d3
          have e4 : u 4 = .slice (some ⟨yb, yo, none⟩) y.length pya := d4; clear d4
          have e5 : u 5 = .pointer (some ⟨yb, yo, none⟩) := d5; clear d5
          have e6 : u 6 = .int .i64 z.1 := d6; clear d6
          have e7 : u 7 = .pointer (some ⟨w1.heap.size, 2, none⟩) := d7; clear d7
          have e8 : u 8 = .slice (some ⟨gb, go, none⟩) cs.senders.length ps2 := d8; clear d8
          have e9 : u 9 = .pointer (some ⟨gb, go, none⟩) := d9; clear d9
          have e10 : u 10 = .pointer (some ⟨gb, go, none⟩) := d10; clear d10
          have e11 : u 11 = .int .i64 z.1 := d11; clear d11
          have e12 : u 12 = .bool true := d12; clear d12
          have e13 : u 13 = .bool true := d13; clear d13
          have e14 : u 14 = .bool true := d14; clear d14
          have e15 : u 15 = .pointer (some ⟨w2.heap.size, 2, none⟩) := d15; clear d15
          have e16 : u 16 = .slice ax2 r.senders.length px2 := d16; clear d16
          have e17 : u 17 = .int .i64 (r.senders.length : Int) := d17; clear d17
          have e18 : u 18 = .pointer (some ⟨w1.heap.size, 2, none⟩) := d18; clear d18
          have e19 : u 19 = .slice (some ⟨gb, go, none⟩) cs.senders.length ps2 := d19; clear d19
          have e20 : u 20 = .int .i64 (cs.senders.length : Int) := d20; clear d20
          have e21 : u 21 = .int .i64 ((cs.senders.length : Int) - 1) := d21; clear d21
          have e22 : u 22 = .bool true := d22; clear d22
          have e23 : u 23 = .bool true := d23; clear d23
          have e24 : u 24 = .bool true := d24; clear d24
          have e25 : u 25 = .pointer (some ⟨w2.heap.size, 1, none⟩) := d25; clear d25
          have e26 : u 26 = .slice ax1 r.items.length px1 := d26; clear d26
          have e27 : u 27 = .int .i64 (r.items.length : Int) := d27; clear d27
          have e28 : u 28 = .pointer (some ⟨w1.heap.size, 1, none⟩) := d28; clear d28
          have e29 : u 29 = .slice as1 cs.items.length ps1 := d29; clear d29
          have e30 : u 30 = .int .i64 (cs.items.length : Int) := d30; clear d30
          simp only [putL, Act.put, List.setIfInBounds_toArray, List.set_cons_zero, List.set_cons_succ, e0, e1, e2, e3, e4, e5, e6, e7, e8, e9, e10, e11, e12, e13, e14, e15, e16, e17, e18, e19, e20, e21, e22, e23, e24, e25, e26, e27, e28, e29, e30] at hK ⊢
          refine Closed.mk ?_
          go_simp
          exact hK.out _ _ ⟨hA, hN, x_s, x_x, x_t, o_s, c_0, c_1⟩ trivial rfl
        · refine GoalL.mk (by rfl) ⟨fun _ _ _ _ _ h => h, fun _ _ _ _ _ _ h => h⟩ ?_
          intro f u wq hf hC hD K hK
          have hA := hC.1; have hN := hC.2.1; have x_s := hC.2.2.1; have x_x := hC.2.2.2.1; have x_t := hC.2.2.2.2.1; have o_s := hC.2.2.2.2.2.1; have c_0 := hC.2.2.2.2.2.2.1; have c_1 := hC.2.2.2.2.2.2.2; clear hC
          have d0 := hD.1; have d1 := hD.2.1; have d2 := hD.2.2.1; have d3 := hD.2.2.2.1; have d4 := hD.2.2.2.2.1; have d5 := hD.2.2.2.2.2.1; have d6 := hD.2.2.2.2.2.2.1; have d7 := hD.2.2.2.2.2.2.2.1; have d8 := hD.2.2.2.2.2.2.2.2.1; have d9 := hD.2.2.2.2.2.2.2.2.2.1; have d10 := hD.2.2.2.2.2.2.2.2.2.2.1; have d11 := hD.2.2.2.2.2.2.2.2.2.2.2.1; have d12 := hD.2.2.2.2.2.2.2.2.2.2.2.2.1; have d13 := hD.2.2.2.2.2.2.2.2.2.2.2.2.2.1; have d14 := hD.2.2.2.2.2.2.2.2.2.2.2.2.2.2.1; have d15 := hD.2.2.2.2.2.2.2.2.2.2.2.2.2.2.2.1; have d16 := hD.2.2.2.2.2.2.2.2.2.2.2.2.2.2.2.2.1; have d17 := hD.2.2.2.2.2.2.2.2.2.2.2.2.2.2.2.2.2.1; have d18 := hD.2.2.2.2.2.2.2.2.2.2.2.2.2.2.2.2.2.2.1; have d19 := hD.2.2.2.2.2.2.2.2.2.2.2.2.2.2.2.2.2.2.2.1; have d20 := hD.2.2.2.2.2.2.2.2.2.2.2.2.2.2.2.2.2.2.2.2.1; have d21 := hD.2.2.2.2.2.2.2.2.2.2.2.2.2.2.2.2.2.2.2.2.2.1; have d22 := hD.2.2.2.2.2.2.2.2.2.2.2.2.2.2.2.2.2.2.2.2.2.2.1; have d23 := hD.2.2.2.2.2.2.2.2.2.2.2.2.2.2.2.2.2.2.2.2.2.2.2.1; have d24 := hD.2.2.2.2.2.2.2.2.2.2.2.2.2.2.2.2.2.2.2.2.2.2.2.2.1; have d25 := hD.2.2.2.2.2.2.2.2.2.2.2.2.2.2.2.2.2.2.2.2.2.2.2.2.2.1; have d26 := hD.2.2.2.2.2.2.2.2.2.2.2.2.2.2.2.2.2.2.2.2.2.2.2.2.2.2.1; have d27 := hD.2.2.2.2.2.2.2.2.2.2.2.2.2.2.2.2.2.2.2.2.2.2.2.2.2.2.2.1; have d28 := hD.2.2.2.2.2.2.2.2.2.2.2.2.2.2.2.2.2.2.2.2.2.2.2.2.2.2.2.2.1; have d29 := hD.2.2.2.2.2.2.2.2.2.2.2.2.2.2.2.2.2.2.2.2.2.2.2.2.2.2.2.2.2.1; have d30 := hD.2.2.2.2.2.2.2.2.2.2.2.2.2.2.2.2.2.2.2.2.2.2.2.2.2.2.2.2.2.2.1; have d31 := hD.2.2.2.2.2.2.2.2.2.2.2.2.2.2.2.2.2.2.2.2.2.2.2.2.2.2.2.2.2.2.2.1; clear hD
          have e0 : u 0 = .slice (some ⟨yb, yo, none⟩) y.length pya := d0; clear d0
          have e1 : u 1 = .int .i64 (y.length : Int) := d1; clear d1
          have e2 : u 2 = .bool true := d2; clear d2
          have e3 : u 3 = .bool true := d3; clear d3
          have e4 : u 4 = .slice (some ⟨yb, yo, none⟩) y.length pya := d4; clear d4
          have e5 : u 5 = .pointer (some ⟨yb, yo, none⟩) := d5; clear d5
          have e6 : u 6 = .int .i64 z.1 := d6; clear d6
          have e7 : u 7 = .pointer (some ⟨w1.heap.size, 2, none⟩) := d7; clear d7
          have e8 : u 8 = .slice (some ⟨gb, go, none⟩) cs.senders.length ps2 := d8; clear d8
          have e9 : u 9 = .pointer (some ⟨gb, go, none⟩) := d9; clear d9
          have e10 : u 10 = .pointer (some ⟨gb, go, none⟩) := d10; clear d10
          have e11 : u 11 = .int .i64 z.1 := d11; clear d11
          have e12 : u 12 = .bool true := d12; clear d12
          have e13 : u 13 = .bool true := d13; clear d13
          have e14 : u 14 = .bool true := d14; clear d14
          have e15 : u 15 = .pointer (some ⟨w2.heap.size, 2, none⟩) := d15; clear d15
          have e16 : u 16 = .slice ax2 r.senders.length px2 := d16; clear d16
          have e17 : u 17 = .int .i64 (r.senders.length : Int) := d17; clear d17
          have e18 : u 18 = .pointer (some ⟨w1.heap.size, 2, none⟩) := d18; clear d18
          have e19 : u 19 = .slice (some ⟨gb, go, none⟩) cs.senders.length ps2 := d19; clear d19
          have e20 : u 20 = .int .i64 (cs.senders.length : Int) := d20; clear d20
          have e21 : u 21 = .int .i64 ((cs.senders.length : Int) - 1) := d21; clear d21
          have e22 : u 22 = .bool true := d22; clear d22
          have e23 : u 23 = .bool true := d23; clear d23
          have e24 : u 24 = .bool true := d24; clear d24
          have e25 : u 25 = .pointer (some ⟨w2.heap.size, 1, none⟩) := d25; clear d25
          have e26 : u 26 = .slice ax1 r.items.length px1 := d26; clear d26
          have e27 : u 27 = .int .i64 (r.items.length : Int) := d27; clear d27
          have e28 : u 28 = .pointer (some ⟨w1.heap.size, 1, none⟩) := d28; clear d28
          have e29 : u 29 = .slice as1 cs.items.length ps1 := d29; clear d29
          have e30 : u 30 = .int .i64 (cs.items.length : Int) := d30; clear d30
          have e31 : u 31 = .bool true := d31; clear d31
          simp only [putL, Act.put, List.setIfInBounds_toArray, List.set_cons_zero, List.set_cons_succ, e0, e1, e2, e3, e4, e5, e6, e7, e8, e9, e10, e11, e12, e13, e14, e15, e16, e17, e18, e19, e20, e21, e22, e23, e24, e25, e26, e27, e28, e29, e30, e31] at hK ⊢
          refine Closed.mk ?_
          go_simp
          exact hK.out _ _ ⟨hA, hN, x_s, x_x, x_t, o_s, c_0, c_1⟩ trivial rfl
        · refine GoalL.mk (by rfl) ⟨fun _ _ _ _ _ h => h, fun _ _ _ _ _ _ h => h⟩ ?_
          intro f u wq hf hC hD K hK
          have hA := hC.1; have hN := hC.2.1; have x_s := hC.2.2.1; have x_x := hC.2.2.2.1; have x_t := hC.2.2.2.2.1; have o_s := hC.2.2.2.2.2.1; have c_0 := hC.2.2.2.2.2.2.1; have c_1 := hC.2.2.2.2.2.2.2; clear hC
          have d0 := hD.1; have d1 := hD.2.1; have d2 := hD.2.2.1; have d3 := hD.2.2.2.1; have d4 := hD.2.2.2.2.1; have d5 := hD.2.2.2.2.2.1; have d6 := hD.2.2.2.2.2.2.1; have d7 := hD.2.2.2.2.2.2.2.1; have d8 := hD.2.2.2.2.2.2.2.2.1; have d9 := hD.2.2.2.2.2.2.2.2.2.1; have d10 := hD.2.2.2.2.2.2.2.2.2.2.1; have d11 := hD.2.2.2.2.2.2.2.2.2.2.2.1; have d12 := hD.2.2.2.2.2.2.2.2.2.2.2.2.1; have d13 := hD.2.2.2.2.2.2.2.2.2.2.2.2.2.1; have d14 := hD.2.2.2.2.2.2.2.2.2.2.2.2.2.2.1; have d15 := hD.2.2.2.2.2.2.2.2.2.2.2.2.2.2.2.1; have d16 := hD.2.2.2.2.2.2.2.2.2.2.2.2.2.2.2.2.1; have d17 := hD.2.2.2.2.2.2.2.2.2.2.2.2.2.2.2.2.2.1; have d18 := hD.2.2.2.2.2.2.2.2.2.2.2.2.2.2.2.2.2.2.1; have d19 := hD.2.2.2.2.2.2.2.2.2.2.2.2.2.2.2.2.2.2.2.1; have d20 := hD.2.2.2.2.2.2.2.2.2.2.2.2.2.2.2.2.2.2.2.2.1; have d21 := hD.2.2.2.2.2.2.2.2.2.2.2.2.2.2.2.2.2.2.2.2.2.1; have d22 := hD.2.2.2.2.2.2.2.2.2.2.2.2.2.2.2.2.2.2.2.2.2.2.1; have d23 := hD.2.2.2.2.2.2.2.2.2.2.2.2.2.2.2.2.2.2.2.2.2.2.2.1; have d24 := hD.2.2.2.2.2.2.2.2.2.2.2.2.2.2.2.2.2.2.2.2.2.2.2.2.1; have d25 := hD.2.2.2.2.2.2.2.2.2.2.2.2.2.2.2.2.2.2.2.2.2.2.2.2.2.1; have d26 := hD.2.2.2.2.2.2.2.2.2.2.2.2.2.2.2.2.2.2.2.2.2.2.2.2.2.2.1; have d27 := hD.2.2.2.2.2.2.2.2.2.2.2.2.2.2.2.2.2.2.2.2.2.2.2.2.2.2.2.1; have d28 := hD.2.2.2.2.2.2.2.2.2.2.2.2.2.2.2.2.2.2.2.2.2.2.2.2.2.2.2.2.1; have d29 := hD.2.2.2.2.2.2.2.2.2.2.2.2.2.2.2.2.2.2.2.2.2.2.2.2.2.2.2.2.2.1; have d30 := hD.2.2.2.2.2.2.2.2.2.2.2.2.2.2.2.2.2.2.2.2.2.2.2.2.2.2.2.2.2.2.1; have d31 := hD.2.2.2.2.2.2.2.2.2.2.2.2.2.2.2.2.2.2.2.2.2.2.2.2.2.2.2.2.2.2.2.1; have d32 := hD.2.2.2.2.2.2.2.2.2.2.2.2.2.2.2.2.2.2.2.2.2.2.2.2.2.2.2.2.2.2.2.2.1; clear hD
          have e0 : u 0 = .slice (some ⟨yb, yo, none⟩) y.length pya := d0; clear d0
          have e1 : u 1 = .int .i64 (y.length : Int) := d1; clear d1
          have e2 : u 2 = .bool true := d2; clear d2
          have e3 : u 3 = .bool true := d3; clear d3
          have e4 : u 4 = .slice (some ⟨yb, yo, none⟩) y.length pya := d4; clear d4
          have e5 : u 5 = .pointer (some ⟨yb, yo, none⟩) := d5; clear d5
          have e6 : u 6 = .int .i64 z.1 := d6; clear d6
          have e7 : u 7 = .pointer (some ⟨w1.heap.size, 2, none⟩) := d7; clear d7
          have e8 : u 8 = .slice (some ⟨gb, go, none⟩) cs.senders.length ps2 := d8; clear d8
          have e9 : u 9 = .pointer (some ⟨gb, go, none⟩) := d9; clear d9
          have e10 : u 10 = .pointer (some ⟨gb, go, none⟩) := d10; clear d10
          have e11 : u 11 = .int .i64 z.1 := d11; clear d11
          have e12 : u 12 = .bool true := d12; clear d12
          have e13 : u 13 = .bool true := d13; clear d13
          have e14 : u 14 = .bool true := d14; clear d14
          have e15 : u 15 = .pointer (some ⟨w2.heap.size, 2, none⟩) := d15; clear d15
          have e16 : u 16 = .slice ax2 r.senders.length px2 := d16; clear d16
          have e17 : u 17 = .int .i64 (r.senders.length : Int) := d17; clear d17
          have e18 : u 18 = .pointer (some ⟨w1.heap.size, 2, none⟩) := d18; clear d18
          have e19 : u 19 = .slice (some ⟨gb, go, none⟩) cs.senders.length ps2 := d19; clear d19
          have e20 : u 20 = .int .i64 (cs.senders.length : Int) := d20; clear d20
          have e21 : u 21 = .int .i64 ((cs.senders.length : Int) - 1) := d21; clear d21
          have e22 : u 22 = .bool true := d22; clear d22
          have e23 : u 23 = .bool true := d23; clear d23
          have e24 : u 24 = .bool true := d24; clear d24
          have e25 : u 25 = .pointer (some ⟨w2.heap.size, 1, none⟩) := d25; clear d25
          have e26 : u 26 = .slice ax1 r.items.length px1 := d26; clear d26
          have e27 : u 27 = .int .i64 (r.items.length : Int) := d27; clear d27
          have e28 : u 28 = .pointer (some ⟨w1.heap.size, 1, none⟩) := d28; clear d28
          have e29 : u 29 = .slice as1 cs.items.length ps1 := d29; clear d29
          have e30 : u 30 = .int .i64 (cs.items.length : Int) := d30; clear d30
          have e31 : u 31 = .bool true := d31; clear d31
          have e32 : u 32 = .bool true := d32; clear d32
          simp only [putL, Act.put, List.setIfInBounds_toArray, List.set_cons_zero, List.set_cons_succ, e0, e1, e2, e3, e4, e5, e6, e7, e8, e9, e10, e11, e12, e13, e14, e15, e16, e17, e18, e19, e20, e21, e22, e23, e24, e25, e26, e27, e28, e29, e30, e31, e32] at hK ⊢
          refine Closed.mk ?_
          go_simp
          exact hK.out _ _ ⟨hA, hN, x_s, x_x, x_t, o_s, c_0, c_1⟩ trivial rfl
        intro u w6 hC hD
        have hA := hC.1; have hN := hC.2.1; have x_s := hC.2.2.1; have x_x := hC.2.2.2.1; have x_t := hC.2.2.2.2.1; have o_s := hC.2.2.2.2.2.1; have c_0 := hC.2.2.2.2.2.2.1; have c_1 := hC.2.2.2.2.2.2.2; clear hC
        have d0 := hD.1; have d1 := hD.2.1; have d2 := hD.2.2.1; have d3 := hD.2.2.2.1; have d4 := hD.2.2.2.2.1; have d5 := hD.2.2.2.2.2.1; have d6 := hD.2.2.2.2.2.2.1; have d7 := hD.2.2.2.2.2.2.2.1; have d8 := hD.2.2.2.2.2.2.2.2.1; have d9 := hD.2.2.2.2.2.2.2.2.2.1; have d10 := hD.2.2.2.2.2.2.2.2.2.2.1; have d11 := hD.2.2.2.2.2.2.2.2.2.2.2.1; have d12 := hD.2.2.2.2.2.2.2.2.2.2.2.2.1; have d13 := hD.2.2.2.2.2.2.2.2.2.2.2.2.2.1; have d14 := hD.2.2.2.2.2.2.2.2.2.2.2.2.2.2.1; have d15 := hD.2.2.2.2.2.2.2.2.2.2.2.2.2.2.2.1; have d16 := hD.2.2.2.2.2.2.2.2.2.2.2.2.2.2.2.2.1; have d17 := hD.2.2.2.2.2.2.2.2.2.2.2.2.2.2.2.2.2.1; have d18 := hD.2.2.2.2.2.2.2.2.2.2.2.2.2.2.2.2.2.2.1; have d19 := hD.2.2.2.2.2.2.2.2.2.2.2.2.2.2.2.2.2.2.2.1; have d20 := hD.2.2.2.2.2.2.2.2.2.2.2.2.2.2.2.2.2.2.2.2.1; have d21 := hD.2.2.2.2.2.2.2.2.2.2.2.2.2.2.2.2.2.2.2.2.2.1; have d22 := hD.2.2.2.2.2.2.2.2.2.2.2.2.2.2.2.2.2.2.2.2.2.2.1; have d23 := hD.2.2.2.2.2.2.2.2.2.2.2.2.2.2.2.2.2.2.2.2.2.2.2.1; have d24 := hD.2.2.2.2.2.2.2.2.2.2.2.2.2.2.2.2.2.2.2.2.2.2.2.2.1; have d25 := hD.2.2.2.2.2.2.2.2.2.2.2.2.2.2.2.2.2.2.2.2.2.2.2.2.2.1; have d26 := hD.2.2.2.2.2.2.2.2.2.2.2.2.2.2.2.2.2.2.2.2.2.2.2.2.2.2.1; have d27 := hD.2.2.2.2.2.2.2.2.2.2.2.2.2.2.2.2.2.2.2.2.2.2.2.2.2.2.2.1; have d28 := hD.2.2.2.2.2.2.2.2.2.2.2.2.2.2.2.2.2.2.2.2.2.2.2.2.2.2.2.2.1; have d29 := hD.2.2.2.2.2.2.2.2.2.2.2.2.2.2.2.2.2.2.2.2.2.2.2.2.2.2.2.2.2.1; have d30 := hD.2.2.2.2.2.2.2.2.2.2.2.2.2.2.2.2.2.2.2.2.2.2.2.2.2.2.2.2.2.2.1; have d31 := hD.2.2.2.2.2.2.2.2.2.2.2.2.2.2.2.2.2.2.2.2.2.2.2.2.2.2.2.2.2.2.2.1; have d32 := hD.2.2.2.2.2.2.2.2.2.2.2.2.2.2.2.2.2.2.2.2.2.2.2.2.2.2.2.2.2.2.2.2.1; have d33 := hD.2.2.2.2.2.2.2.2.2.2.2.2.2.2.2.2.2.2.2.2.2.2.2.2.2.2.2.2.2.2.2.2.2.1; clear hD
        have e0 : u 0 = .slice (some ⟨yb, yo, none⟩) y.length pya := d0; clear d0
        have e1 : u 1 = .int .i64 (y.length : Int) := d1; clear d1
        have e2 : u 2 = .bool true := d2; clear d2
        have e3 : u 3 = .bool true := d3; clear d3
        have e4 : u 4 = .slice (some ⟨yb, yo, none⟩) y.length pya := d4; clear d4
        have e5 : u 5 = .pointer (some ⟨yb, yo, none⟩) := d5; clear d5
        have e6 : u 6 = .int .i64 z.1 := d6; clear d6
        have e7 : u 7 = .pointer (some ⟨w1.heap.size, 2, none⟩) := d7; clear d7
        have e8 : u 8 = .slice (some ⟨gb, go, none⟩) cs.senders.length ps2 := d8; clear d8
        have e9 : u 9 = .pointer (some ⟨gb, go, none⟩) := d9; clear d9
        have e10 : u 10 = .pointer (some ⟨gb, go, none⟩) := d10; clear d10
        have e11 : u 11 = .int .i64 z.1 := d11; clear d11
        have e12 : u 12 = .bool true := d12; clear d12
        have e13 : u 13 = .bool true := d13; clear d13
        have e14 : u 14 = .bool true := d14; clear d14
        have e15 : u 15 = .pointer (some ⟨w2.heap.size, 2, none⟩) := d15; clear d15
        have e16 : u 16 = .slice ax2 r.senders.length px2 := d16; clear d16
        have e17 : u 17 = .int .i64 (r.senders.length : Int) := d17; clear d17
        have e18 : u 18 = .pointer (some ⟨w1.heap.size, 2, none⟩) := d18; clear d18
        have e19 : u 19 = .slice (some ⟨gb, go, none⟩) cs.senders.length ps2 := d19; clear d19
        have e20 : u 20 = .int .i64 (cs.senders.length : Int) := d20; clear d20
        have e21 : u 21 = .int .i64 ((cs.senders.length : Int) - 1) := d21; clear d21
        have e22 : u 22 = .bool true := d22; clear d22
        have e23 : u 23 = .bool true := d23; clear d23
        have e24 : u 24 = .bool true := d24; clear d24
        have e25 : u 25 = .pointer (some ⟨w2.heap.size, 1, none⟩) := d25; clear d25
        have e26 : u 26 = .slice ax1 r.items.length px1 := d26; clear d26
        have e27 : u 27 = .int .i64 (r.items.length : Int) := d27; clear d27
        have e28 : u 28 = .pointer (some ⟨w1.heap.size, 1, none⟩) := d28; clear d28
        have e29 : u 29 = .slice as1 cs.items.length ps1 := d29; clear d29
        have e30 : u 30 = .int .i64 (cs.items.length : Int) := d30; clear d30
        have e31 : u 31 = .bool true := d31; clear d31
        have e32 : u 32 = .bool true := d32; clear d32
        have e33 : u 33 = .bool true := d33; clear d33
        have B6 := Lib.hid hA; have N6 := hN; have S6 := hA.size
        have Xs_6 := Lib.hid x_s; clear x_s
        have Xx_6 := Lib.hid x_x; clear x_x
        have Xt_6 := Lib.hid x_t; clear x_t
        have Os_6 := Lib.hid o_s; clear o_s
        obtain ⟨cs6_0, cs6_1, cs6_2, cs6_3, cs6_4, fs6_0, fs6_1, fs6_2, fs6_3, fs6_4⟩ := box5 Xs_6.out; have ls6 := heap_lt Xs_6.out
        obtain ⟨cx6_0, cx6_1, cx6_2, cx6_3, cx6_4, fx6_0, fx6_1, fx6_2, fx6_3, fx6_4⟩ := box5 Xx_6.out; have lx6 := heap_lt Xx_6.out
        obtain ⟨ct6_0, ct6_1, ct6_2, ct6_3, ct6_4, ft6_0, ft6_1, ft6_2, ft6_3, ft6_4⟩ := box5 Xt_6.out; have lt6 := heap_lt Xt_6.out
        clear hA hN
        simp only [putL, Act.put, List.setIfInBounds_toArray, List.set_cons_zero, List.set_cons_succ, e0, e1, e2, e3, e4, e5, e6, e7, e8, e9, e10, e11, e12, e13, e14, e15, e16, e17, e18, e19, e20, e21, e22, e23, e24, e25, e26, e27, e28, e29, e30, e31, e32, e33]
        refine Closed.mk (wpAnyH_done (by kernel_rfl) ?_ _)
        go_wp2_with (fail)
        go_ret
        exact ⟨rfl, B6.out⟩
      · have d1 := len_eq hq
        go_wp2_with (fail)
        refine (ChanSameO _ _ r r _ (Ox_5.out.row) (Ot_5.out.row)).mono ?_
        rw [decide_eq_true rfl]
        rintro e w6 ⟨rfl, hb⟩
        have B6 := Lib.hid (Below.trans B5.out (hb.mono (by first | omega | (simp only [szA, szS, szD, World.heap_drewN] at * <;> omega))) : Below w.heap.size w w6)
        have Z6 := hb.size
        have N6 : w5.heap.size ≤ w6.heap.size := (by first | with_reducible exact Z6 | (simp only [szA, szS, szD] at Z6; omega))
        clear Z6
        have Xs_6 := Lib.hid (below_at hb Xs_5.out)
        have Xx_6 := Lib.hid (below_at hb Xx_5.out)
        have Xt_6 := Lib.hid (below_at hb Xt_5.out)
        have Os_6 := Lib.hid (Os_5.out.kept hb)
        have Ox_6 := Lib.hid (Ox_5.out.kept hb)
        have Oya_6 := Lib.hid (Oya_5.out.kept hb)
        have Ot_6 := Lib.hid (Ot_5.out.kept hb)
        have Oyb_6 := Lib.hid (Oyb_5.out.kept hb)
        clear hb
        obtain ⟨cs6_0, cs6_1, cs6_2, cs6_3, cs6_4, fs6_0, fs6_1, fs6_2, fs6_3, fs6_4⟩ := box5 Xs_6.out; have ls6 := heap_lt Xs_6.out
        obtain ⟨cx6_0, cx6_1, cx6_2, cx6_3, cx6_4, fx6_0, fx6_1, fx6_2, fx6_3, fx6_4⟩ := box5 Xx_6.out; have lx6 := heap_lt Xx_6.out
        obtain ⟨ct6_0, ct6_1, ct6_2, ct6_3, ct6_4, ft6_0, ft6_1, ft6_2, ft6_3, ft6_4⟩ := box5 Xt_6.out; have lt6 := heap_lt Xt_6.out
        have S6 : w.heap.size ≤ w6.heap.size := (by omega)
        clear cs5_0 cs5_1 cs5_2 cs5_3 cs5_4 fs5_0 fs5_1 fs5_2 fs5_3 fs5_4 cx5_0 cx5_1 cx5_2 cx5_3 cx5_4 fx5_0 fx5_1 fx5_2 fx5_3 fx5_4 ct5_0 ct5_1 ct5_2 ct5_3 ct5_4 ft5_0 ft5_1 ft5_2 ft5_3 ft5_4
        go_wp2_with (fail)
        refine (wkInts_calls _ _ y y _ (Oya_6.out.row encI_len) (Oyb_6.out.row encI_len)).mono ?_
        rw [decide_eq_true rfl]
        rintro e w7 ⟨rfl, hb⟩
        have B7 := Lib.hid (Below.trans B6.out (hb.mono (by first | omega | (simp only [szA, szS, szD, World.heap_drewN] at * <;> omega))) : Below w.heap.size w w7)
        have Z7 := hb.size
        have N7 : w6.heap.size ≤ w7.heap.size := (by first | with_reducible exact Z7 | (simp only [szA, szS, szD] at Z7; omega))
        clear Z7
        have Xs_7 := Lib.hid (below_at hb Xs_6.out)
        have Xx_7 := Lib.hid (below_at hb Xx_6.out)
        have Xt_7 := Lib.hid (below_at hb Xt_6.out)
        have Os_7 := Lib.hid (Os_6.out.kept hb)
        have Ox_7 := Lib.hid (Ox_6.out.kept hb)
        have Oya_7 := Lib.hid (Oya_6.out.kept hb)
        have Ot_7 := Lib.hid (Ot_6.out.kept hb)
        have Oyb_7 := Lib.hid (Oyb_6.out.kept hb)
        clear hb
        obtain ⟨cs7_0, cs7_1, cs7_2, cs7_3, cs7_4, fs7_0, fs7_1, fs7_2, fs7_3, fs7_4⟩ := box5 Xs_7.out; have ls7 := heap_lt Xs_7.out
        obtain ⟨cx7_0, cx7_1, cx7_2, cx7_3, cx7_4, fx7_0, fx7_1, fx7_2, fx7_3, fx7_4⟩ := box5 Xx_7.out; have lx7 := heap_lt Xx_7.out
        obtain ⟨ct7_0, ct7_1, ct7_2, ct7_3, ct7_4, ft7_0, ft7_1, ft7_2, ft7_3, ft7_4⟩ := box5 Xt_7.out; have lt7 := heap_lt Xt_7.out
        have S7 : w.heap.size ≤ w7.heap.size := (by omega)
        clear cs6_0 cs6_1 cs6_2 cs6_3 cs6_4 fs6_0 fs6_1 fs6_2 fs6_3 fs6_4 cx6_0 cx6_1 cx6_2 cx6_3 cx6_4 fx6_0 fx6_1 fx6_2 fx6_3 fx6_4 ct6_0 ct6_1 ct6_2 ct6_3 ct6_4 ft6_0 ft6_1 ft6_2 ft6_3 ft6_4
        go_wp2_with (fail)
        go_ret
        exact ⟨rfl, B7.out⟩

  · go_enter Try.func11, Try.ntmps11
    go_wp2
    go_ret
    exact ⟨rfl, Below.refl _ _⟩
end Go.Proofs.Ytpgiinklbnlloaa
