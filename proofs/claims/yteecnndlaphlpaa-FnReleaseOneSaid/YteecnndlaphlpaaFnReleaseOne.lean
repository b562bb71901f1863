/- FnReleaseOne: the law's walk (made by gen_semlaws.py). -/
import Derived.Test.YteecnndlaphlpaaDrawsSem
import Derived.Test.YteecnndlaphlpaaLawSem
import Derived.Test.YteecnndlaphlpaaJoin
namespace Go.Proofs.Yteecnndlaphlpaa
open Go.RowKit
set_option linter.unusedSimpArgs false
set_option linter.unusedVariables false
set_option maxHeartbeats 8000000 in
theorem FnReleaseOne_calls (v : Value) (bs : List Int) (w : World) (h : Row 1 encB w v bs) (hbs : ∀ x ∈ bs, 0 ≤ x ∧ x ≤ 255) :
    Calls Try.prog 11 #[v] w fun e w' => e = .returned (.bool true) ∧ Below w.heap.size w w' := by
  have HB := Lib.hid hbs; clear hbs
  have H0 := Lib.hid h
  obtain ⟨a, c, rfl, l1, l2, l3⟩ := h
  clear l3
  by_cases hl : bs.length ≤ 1048576
  · go_enter Try.func11, Try.ntmps11
    go_wp2_with (fail)
    refine (DrawRelease_calls _ bs _ (Row.below H0.out (Below.refl _ _)) HB.out).mono ?_
    rintro e w1 ⟨vs, cs, y1, rfl, ho_s, hfs, ⟨hy10, hy11⟩, hb⟩
    have B1 := Lib.hid (Below.trans (Below.refl _ _) (hb.mono (by first | omega | (simp only [szA, szS, szD, World.heap_drewN] at * <;> omega))) : Below w.heap.size w w1)
    have Z1 := hb.size
    have N1 : w.heap.size ≤ w1.heap.size := (by first | exact Z1 | (simp only [szA, szS, szD] at Z1; omega))
    clear Z1
    have Os_1 := Lib.hid (ho_s.mono (lo' := w.heap.size) (by first | omega | (simp only [szA, szS, szD, World.heap_drewN] at * <;> omega)) (Nat.le_refl _)); obtain ⟨as2, ps2, rfl, hx_s⟩ := ho_s; clear hx_s
    clear hb
    have S1 : w.heap.size ≤ w1.heap.size := by omega
    obtain ⟨r, y, b1, hr⟩ : ∃ r y b1, rel cs y1 = (r, y, b1) := ⟨_, _, _, rfl⟩
    have HR := Lib.hid hr; clear hr
    go_wp2_with (fail)
    refine (ReleaseO _ cs y1 r y b1 _ ((Os_1.out.alloc _).row) HR.out).mono ?_
    rintro e w2 ⟨vx, va, rfl, ho_x, ho_ya, hap, hb⟩
    have B2 := Lib.hid (Below.trans (Below.alloc B1.out (by first | omega | (simp only [szA, szS, szD, World.heap_drewN] at * <;> omega)) _) (hb.mono (by first | omega | (simp only [szA, szS, szD, World.heap_drewN] at * <;> omega))) : Below w.heap.size w w2)
    have Z2 := hb.size
    have N2 : w1.heap.size + 1 ≤ w2.heap.size := (by first | exact Z2 | (simp only [szA, szS, szD] at Z2; omega))
    clear Z2
    have Xs_2 : Hid (w2.heap[w1.heap.size]? = some (.cells #[.int .i64 cs.free, .int .i64 cs.limit, .slice as2 cs.q.length ps2] 26 (0, 0))) := below_at hb (heap_at' (n := w1.heap.size) (by first | omega | (simp only [szA, szS, szD, World.heap_drewN] at * <;> omega)))
    have Os_2 := Lib.hid ((Os_1.out.alloc _).kept hb)
    have Ox_2 := Lib.hid (ho_x.mono (lo' := w.heap.size) (by first | omega | (simp only [szA, szS, szD, World.heap_drewN] at * <;> omega)) (Nat.le_refl _)); obtain ⟨ax2, px2, rfl, hx_x⟩ := ho_x; clear hx_x
    have Oya_2 := Lib.hid (Own.mono (base' := w.heap.size) ho_ya.own (by first | omega | (simp only [szA, szS, szD, World.heap_drewN] at * <;> omega))); obtain ⟨aya, pya, rfl, hx_ya⟩ := ho_ya; clear hx_ya
    clear hb
    obtain ⟨cs2_0, cs2_1, cs2_2, fs2_0, fs2_1, fs2_2⟩ := box3 Xs_2.out; have ls2 := heap_lt Xs_2.out
    have S2 : w.heap.size ≤ w2.heap.size := by omega
    clear hap
    go_wp2_with (fail)
    refine (sReleaseO _ cs y1 r y b1 _ ((Os_2.out.alloc _).row) HR.out).mono ?_
    rintro e w3 ⟨vt, vb, rfl, ho_t, ho_yb, hap, hb⟩
    have B3 := Lib.hid (Below.trans (Below.alloc B2.out (by first | omega | (simp only [szA, szS, szD, World.heap_drewN] at * <;> omega)) _) (hb.mono (by first | omega | (simp only [szA, szS, szD, World.heap_drewN] at * <;> omega))) : Below w.heap.size w w3)
    have Z3 := hb.size
    have N3 : w2.heap.size + 1 ≤ w3.heap.size := (by first | exact Z3 | (simp only [szA, szS, szD] at Z3; omega))
    clear Z3
    have Xs_3 := Lib.hid (below_at hb (heap_up Xs_2.out))
    have Xx_3 : Hid (w3.heap[w2.heap.size]? = some (.cells #[.int .i64 r.free, .int .i64 r.limit, .slice ax2 r.q.length px2] 26 (0, 0))) := below_at hb (heap_at' (n := w2.heap.size) (by first | omega | (simp only [szA, szS, szD, World.heap_drewN] at * <;> omega)))
    have Os_3 := Lib.hid ((Os_2.out.alloc _).kept hb)
    have Ox_3 := Lib.hid ((Ox_2.out.alloc _).kept hb)
    have Oya_3 := Lib.hid ((Oya_2.out.alloc _).kept hb)
    have Ot_3 := Lib.hid (ho_t.mono (lo' := w.heap.size) (by first | omega | (simp only [szA, szS, szD, World.heap_drewN] at * <;> omega)) (Nat.le_refl _)); obtain ⟨at2, pt2, rfl, hx_t⟩ := ho_t; clear hx_t
    have Oyb_3 := Lib.hid (Own.mono (base' := w.heap.size) ho_yb.own (by first | omega | (simp only [szA, szS, szD, World.heap_drewN] at * <;> omega))); obtain ⟨ayb, pyb, rfl, hx_yb⟩ := ho_yb; clear hx_yb
    clear hb
    obtain ⟨cs3_0, cs3_1, cs3_2, fs3_0, fs3_1, fs3_2⟩ := box3 Xs_3.out; have ls3 := heap_lt Xs_3.out
    obtain ⟨cx3_0, cx3_1, cx3_2, fx3_0, fx3_1, fx3_2⟩ := box3 Xx_3.out; have lx3 := heap_lt Xx_3.out
    have S3 : w.heap.size ≤ w3.heap.size := by omega
    clear cs2_0 cs2_1 cs2_2 fs2_0 fs2_1 fs2_2
    clear hap
    go_wp2_with (fail)
    refine (SemSameO _ _ r r _ ((Ox_3.out.alloc _).row) ((Ot_3.out.alloc _).row)).mono ?_
    rw [decide_eq_true rfl]
    rintro e w4 ⟨rfl, hb⟩
    have B4 := Lib.hid (Below.trans (Below.alloc B3.out (by first | omega | (simp only [szA, szS, szD, World.heap_drewN] at * <;> omega)) _) (hb.mono (by first | omega | (simp only [szA, szS, szD, World.heap_drewN] at * <;> omega))) : Below w.heap.size w w4)
    have Z4 := hb.size
    have N4 : w3.heap.size + 1 ≤ w4.heap.size := (by first | exact Z4 | (simp only [szA, szS, szD] at Z4; omega))
    clear Z4
    have Xs_4 := Lib.hid (below_at hb (heap_up Xs_3.out))
    have Xx_4 := Lib.hid (below_at hb (heap_up Xx_3.out))
    have Xt_4 : Hid (w4.heap[w3.heap.size]? = some (.cells #[.int .i64 r.free, .int .i64 r.limit, .slice at2 r.q.length pt2] 26 (0, 0))) := below_at hb (heap_at' (n := w3.heap.size) (by first | omega | (simp only [szA, szS, szD, World.heap_drewN] at * <;> omega)))
    have Os_4 := Lib.hid ((Os_3.out.alloc _).kept hb)
    have Ox_4 := Lib.hid ((Ox_3.out.alloc _).kept hb)
    have Oya_4 := Lib.hid ((Oya_3.out.alloc _).kept hb)
    have Ot_4 := Lib.hid ((Ot_3.out.alloc _).kept hb)
    have Oyb_4 := Lib.hid ((Oyb_3.out.alloc _).kept hb)
    clear hb
    obtain ⟨cs4_0, cs4_1, cs4_2, fs4_0, fs4_1, fs4_2⟩ := box3 Xs_4.out; have ls4 := heap_lt Xs_4.out
    obtain ⟨cx4_0, cx4_1, cx4_2, fx4_0, fx4_1, fx4_2⟩ := box3 Xx_4.out; have lx4 := heap_lt Xx_4.out
    obtain ⟨ct4_0, ct4_1, ct4_2, ft4_0, ft4_1, ft4_2⟩ := box3 Xt_4.out; have lt4 := heap_lt Xt_4.out
    have S4 : w.heap.size ≤ w4.heap.size := by omega
    clear cs3_0 cs3_1 cs3_2 fs3_0 fs3_1 fs3_2 cx3_0 cx3_1 cx3_2 fx3_0 fx3_1 fx3_2
    go_wp2_with (fail)
    refine (wkInts_calls _ _ y y _ (Oya_4.out.row encI_len) (Oyb_4.out.row encI_len)).mono ?_
    rw [decide_eq_true rfl]
    rintro e w5 ⟨rfl, hb⟩
    have B5 := Lib.hid (Below.trans B4.out (hb.mono (by first | omega | (simp only [szA, szS, szD, World.heap_drewN] at * <;> omega))) : Below w.heap.size w w5)
    have Z5 := hb.size
    have N5 : w4.heap.size ≤ w5.heap.size := (by first | exact Z5 | (simp only [szA, szS, szD] at Z5; omega))
    clear Z5
    have Xs_5 := Lib.hid (below_at hb Xs_4.out)
    have Xx_5 := Lib.hid (below_at hb Xx_4.out)
    have Xt_5 := Lib.hid (below_at hb Xt_4.out)
    have Os_5 := Lib.hid (Os_4.out.kept hb)
    have Ox_5 := Lib.hid (Ox_4.out.kept hb)
    have Oya_5 := Lib.hid (Oya_4.out.kept hb)
    have Ot_5 := Lib.hid (Ot_4.out.kept hb)
    have Oyb_5 := Lib.hid (Oyb_4.out.kept hb)
    clear hb
    obtain ⟨cs5_0, cs5_1, cs5_2, fs5_0, fs5_1, fs5_2⟩ := box3 Xs_5.out; have ls5 := heap_lt Xs_5.out
    obtain ⟨cx5_0, cx5_1, cx5_2, fx5_0, fx5_1, fx5_2⟩ := box3 Xx_5.out; have lx5 := heap_lt Xx_5.out
    obtain ⟨ct5_0, ct5_1, ct5_2, ft5_0, ft5_1, ft5_2⟩ := box3 Xt_5.out; have lt5 := heap_lt Xt_5.out
    have S5 : w.heap.size ≤ w5.heap.size := by omega
    clear cs4_0 cs4_1 cs4_2 fs4_0 fs4_1 fs4_2 cx4_0 cx4_1 cx4_2 fx4_0 fx4_1 fx4_2 ct4_0 ct4_1 ct4_2 ft4_0 ft4_1 ft4_2
    cases b1
    · go_wp2_with (fail)
      refine (SemSameO _ _ r r _ (Ox_5.out.row) (Ot_5.out.row)).mono ?_
      rw [decide_eq_true rfl]
      rintro e w6 ⟨rfl, hb⟩
      have B6 := Lib.hid (Below.trans B5.out (hb.mono (by first | omega | (simp only [szA, szS, szD, World.heap_drewN] at * <;> omega))) : Below w.heap.size w w6)
      have Z6 := hb.size
      have N6 : w5.heap.size ≤ w6.heap.size := (by first | exact Z6 | (simp only [szA, szS, szD] at Z6; omega))
      clear Z6
      have Xs_6 := Lib.hid (below_at hb Xs_5.out)
      have Xx_6 := Lib.hid (below_at hb Xx_5.out)
      have Xt_6 := Lib.hid (below_at hb Xt_5.out)
      have Os_6 := Lib.hid (Os_5.out.kept hb)
      have Ox_6 := Lib.hid (Ox_5.out.kept hb)
      have Oya_6 := Lib.hid (Oya_5.out.kept hb)
      have Ot_6 := Lib.hid (Ot_5.out.kept hb)
      have Oyb_6 := Lib.hid (Oyb_5.out.kept hb)
      clear hb
      obtain ⟨cs6_0, cs6_1, cs6_2, fs6_0, fs6_1, fs6_2⟩ := box3 Xs_6.out; have ls6 := heap_lt Xs_6.out
      obtain ⟨cx6_0, cx6_1, cx6_2, fx6_0, fx6_1, fx6_2⟩ := box3 Xx_6.out; have lx6 := heap_lt Xx_6.out
      obtain ⟨ct6_0, ct6_1, ct6_2, ft6_0, ft6_1, ft6_2⟩ := box3 Xt_6.out; have lt6 := heap_lt Xt_6.out
      have S6 : w.heap.size ≤ w6.heap.size := by omega
      clear cs5_0 cs5_1 cs5_2 fs5_0 fs5_1 fs5_2 cx5_0 cx5_1 cx5_2 fx5_0 fx5_1 fx5_2 ct5_0 ct5_1 ct5_2 ft5_0 ft5_1 ft5_2
      go_wp2_with (fail)
      refine (wkInts_calls _ _ y y _ (Oya_6.out.row encI_len) (Oyb_6.out.row encI_len)).mono ?_
      rw [decide_eq_true rfl]
      rintro e w7 ⟨rfl, hb⟩
      have B7 := Lib.hid (Below.trans B6.out (hb.mono (by first | omega | (simp only [szA, szS, szD, World.heap_drewN] at * <;> omega))) : Below w.heap.size w w7)
      have Z7 := hb.size
      have N7 : w6.heap.size ≤ w7.heap.size := (by first | exact Z7 | (simp only [szA, szS, szD] at Z7; omega))
      clear Z7
      have Xs_7 := Lib.hid (below_at hb Xs_6.out)
      have Xx_7 := Lib.hid (below_at hb Xx_6.out)
      have Xt_7 := Lib.hid (below_at hb Xt_6.out)
      have Os_7 := Lib.hid (Os_6.out.kept hb)
      have Ox_7 := Lib.hid (Ox_6.out.kept hb)
      have Oya_7 := Lib.hid (Oya_6.out.kept hb)
      have Ot_7 := Lib.hid (Ot_6.out.kept hb)
      have Oyb_7 := Lib.hid (Oyb_6.out.kept hb)
      clear hb
      obtain ⟨cs7_0, cs7_1, cs7_2, fs7_0, fs7_1, fs7_2⟩ := box3 Xs_7.out; have ls7 := heap_lt Xs_7.out
      obtain ⟨cx7_0, cx7_1, cx7_2, fx7_0, fx7_1, fx7_2⟩ := box3 Xx_7.out; have lx7 := heap_lt Xx_7.out
      obtain ⟨ct7_0, ct7_1, ct7_2, ft7_0, ft7_1, ft7_2⟩ := box3 Xt_7.out; have lt7 := heap_lt Xt_7.out
      have S7 : w.heap.size ≤ w7.heap.size := by omega
      clear cs6_0 cs6_1 cs6_2 fs6_0 fs6_1 fs6_2 cx6_0 cx6_1 cx6_2 fx6_0 fx6_1 fx6_2 ct6_0 ct6_1 ct6_2 ft6_0 ft6_1 ft6_2
      go_wp2_with (fail)
      go_ret
      exact ⟨rfl, B7.out⟩
    · have VS := Lib.hid (rel_ok HR.out).2.1
      obtain ⟨m1, m2, m3, m4, m5, m6, _⟩ := rel_bounds HR.out
      have hup := (rel_ok HR.out).2.2.2.1
      go_wp2_with (fail)
      go_loopw [11, 13] (fun va v wr => ∃ (k : Nat) (c : SemD) (a : Option Addr) (p : Nat) (aa : Option Addr) (pa : Nat) (al : List Int), (k : Int) ≤ y1 ∧ v = .int .i64 k ∧ va = .slice aa al.length pa ∧ wr.heap[w5.heap.size + 1]? = some (.cells #[.int .i64 c.free, .int .i64 c.limit, .slice a c.q.length p] 26 (0, 0)) ∧ SemOwn w.heap.size wr.heap.size wr (.agg #[.int .i64 c.free, .int .i64 c.limit, .slice a c.q.length p]) c ∧ Own w5.heap.size 3 1 encI wr (.slice aa al.length pa) al ∧ RelI cs k c al ∧ Below w5.heap.size w5 wr) (fun _ v _ => (y1 - intOf v).toNat)
      case atStart => exact ⟨0, cs, _, _, _, _, [], by omega, rfl, rfl, (heap_at' (n := w5.heap.size + 1) (by first | omega | (simp only [szA, szS, szD, World.heap_drewN] at * <;> omega))), ((Os_5.out.alloc _).alloc _).mono (Nat.le_refl _) (by first | omega | (simp only [szA, szS, szD]; omega)), Own.empty (heap_up (heap_at' (n := w5.heap.size) (by first | omega | (simp only [szA, szS, szD, World.heap_drewN] at * <;> omega)))) (Nat.le_refl _), RelI.start VS.out, Below.alloc (Below.alloc (Below.refl _ _) (Nat.le_refl _) _) (by simp only [szA]; omega) _⟩
      case round =>
        obtain ⟨w20, rfl⟩ : ∃ x : World, x = wr := ⟨_, rfl⟩
        obtain ⟨k, c, ac2, pc2, aal, pal, al, hk, rfl, rfl, hx, ho, hal, hI, hb⟩ := hrel
        have B20 := Lib.hid (Below.trans B5.out (hb.mono (by omega)) : Below w.heap.size w w20); have S20 : w.heap.size ≤ w20.heap.size := B20.out.size; have SB20 : w5.heap.size ≤ w20.heap.size := hb.size; have HB_20 := Lib.hid hb
        have Xc_20 := Lib.hid hx; have Oc_20 := Lib.hid ho; have Oal_20 := Lib.hid hal; have HI := Lib.hid hI; clear hx ho hal hI hb
        have hall := HI.out.len VS.out
        by_cases hlt : (k : Int) < y1
        · obtain ⟨cc20_0, cc20_1, cc20_2, fc20_0, fc20_1, fc20_2⟩ := box3 Xc_20.out; have lc20 := heap_lt Xc_20.out
          obtain ⟨r', y', h1, h2⟩ := HI.out.step VS.out hup hlt
          have HR' := Lib.hid h1; have HI' := Lib.hid h2; clear h1 h2
          have hyl := HI'.out.len VS.out
          rw [List.length_append] at hyl
          go_wp2_with (fail)
          refine (ReleaseO _ c 1 r' y' true _ (Oc_20.out.row) HR'.out).mono ?_
          rintro e w21 ⟨vn, vy, rfl, ho_n, ho_yn, hap, hb⟩
          have B21 := Lib.hid (Below.trans B20.out (hb.mono (by first | omega | (simp only [szA, szS, szD, World.heap_drewN] at * <;> omega))) : Below w.heap.size w w21)
          have HB_21 := Lib.hid (Below.trans HB_20.out (hb.mono (by first | omega | (simp only [szA, szS, szD, World.heap_drewN] at * <;> omega))) : Below w5.heap.size w5 w21)
          have Z21 := hb.size
          have N21 : w20.heap.size ≤ w21.heap.size := (by first | exact Z21 | (simp only [szA, szS, szD] at Z21; omega))
          clear Z21
          have Xc_21 := Lib.hid (below_at hb Xc_20.out)
          have Oc_21 := Lib.hid (Oc_20.out.kept hb)
          have Oal_21 := Lib.hid (Oal_20.out.kept hb)
          have On_21 := Lib.hid (ho_n.mono (lo' := w.heap.size) (by first | omega | (simp only [szA, szS, szD, World.heap_drewN] at * <;> omega)) (Nat.le_refl _)); obtain ⟨an2, pn2, rfl, hx_n⟩ := ho_n; clear hx_n
          have Oyn_21 := Lib.hid (Own.mono (base' := w.heap.size) ho_yn.own (by first | omega | (simp only [szA, szS, szD, World.heap_drewN] at * <;> omega))); obtain ⟨ayn, pyn, rfl, hx_yn⟩ := ho_yn; clear hx_yn
          clear hb
          obtain ⟨cc21_0, cc21_1, cc21_2, fc21_0, fc21_1, fc21_2⟩ := box3 Xc_21.out; have lc21 := heap_lt Xc_21.out
          have S21 : w.heap.size ≤ w21.heap.size := by omega
          clear hap
          go_wp2_with (at_builtin; refine wpList_join _ encI_len encI_one rfl _ _ 36 rfl 3 _ 8 Try.underlying36 info_int rfl (by decide) w5.heap.size (.slice aal al.length pal) al rfl (Oal_21.out.alloc _) (by first | omega | (simp only [szA]; omega)) (.slice ayn y'.length pyn) y' rfl ((Oyn_21.out.alloc _).row encI_len) (by decide) (by omega) ?_; intro ad22 cp22 w22 hown hg; obtain ⟨alL22, halL22⟩ : ∃ l, al ++ y' = l := ⟨_, rfl⟩; have lalL22 : al.length + y'.length = alL22.length := (by rw [← halL22, List.length_append]); rw [halL22, lalL22] at hown; rw [lalL22]; have HalL22 := Lib.hid halL22; clear halL22; have KalL22 := Lib.hid lalL22; clear lalL22; have Xc_22 := Lib.hid (grown_at2 hg (heap_up Xc_21.out) (Oal_21.out.ne Xc_21.out (by decide))); have Xn_22 : Hid (w22.heap[w21.heap.size]? = some (.cells #[.int .i64 r'.free, .int .i64 r'.limit, .slice an2 r'.q.length pn2] 26 (0, 0))) := grown_at2 hg (heap_at' (n := w21.heap.size) (by first | omega | (simp only [szA, szS, szD, World.heap_drewN] at * <;> omega))) (Oal_21.out.not_new (by omega)); have Oc_22 := Lib.hid ((Oc_21.out.alloc _).grownT (Oal_21.out.alloc _) hg (by decide)); have On_22 := Lib.hid ((On_21.out.alloc _).grownT (Oal_21.out.alloc _) hg (by decide)); have Oal_22 := Lib.hid hown; have B22 := Lib.hid (Below.grown (Below.alloc B21.out (by first | omega | (simp only [szA, szS, szD, World.heap_drewN] at * <;> omega)) _) hg (by first | omega | (simp only [szA, szS, szD, World.heap_drewN]; omega)) (fun g e => Nat.le_trans (by omega) (Oal_21.out.blk g e))); have HB_22 := Lib.hid (Below.grown (Below.alloc HB_21.out (by first | omega | (simp only [szA, szS, szD, World.heap_drewN] at * <;> omega)) _) hg (by first | omega | (simp only [szA, szS, szD, World.heap_drewN]; omega)) (fun g e => Oal_21.out.blk g e)); have N22 : w21.heap.size + 1 ≤ w22.heap.size := (by first | exact hg.size | (have := hg.size; simp only [szA, szS, szD] at this; omega)); clear hown hg; obtain ⟨cc22_0, cc22_1, cc22_2, fc22_0, fc22_1, fc22_2⟩ := box3 Xc_22.out; have lc22 := heap_lt Xc_22.out; obtain ⟨cn22_0, cn22_1, cn22_2, fn22_0, fn22_1, fn22_2⟩ := box3 Xn_22.out; have ln22 := heap_lt Xn_22.out; have S22 : w.heap.size ≤ w22.heap.size := by omega)
          clear cc21_0 cc21_1 cc21_2 fc21_0 fc21_1 fc21_2
          go_roundw
          case rel => exact ⟨k + 1, r', _, _, _, _, alL22, by omega, by go_num, rfl, (set_at (a := ⟨w5.heap.size + 1, 2, none⟩) (set_at (a := ⟨w5.heap.size + 1, 1, none⟩) (set_at (a := ⟨w5.heap.size + 1, 0, none⟩) Xc_22.out rfl rfl (.int .i64 r'.free)) rfl rfl (.int .i64 r'.limit)) rfl rfl (.slice an2 r'.q.length pn2)), (((On_22.out.setB (w5.heap.size + 1) 0 Xc_22.out (by decide) (.int .i64 r'.free)).setB (w5.heap.size + 1) 1 (set_at (a := ⟨w5.heap.size + 1, 0, none⟩) Xc_22.out rfl rfl (.int .i64 r'.free)) (by decide) (.int .i64 r'.limit)).setB (w5.heap.size + 1) 2 (set_at (a := ⟨w5.heap.size + 1, 1, none⟩) (set_at (a := ⟨w5.heap.size + 1, 0, none⟩) Xc_22.out rfl rfl (.int .i64 r'.free)) rfl rfl (.int .i64 r'.limit)) (by decide) (.slice an2 r'.q.length pn2)).mono (Nat.le_refl _) (by first | omega | (simp only [szA, szS, szD]; omega)), (((Oal_22.out.setB (w5.heap.size + 1) 0 Xc_22.out (by decide) (.int .i64 r'.free)).setB (w5.heap.size + 1) 1 (set_at (a := ⟨w5.heap.size + 1, 0, none⟩) Xc_22.out rfl rfl (.int .i64 r'.free)) (by decide) (.int .i64 r'.limit)).setB (w5.heap.size + 1) 2 (set_at (a := ⟨w5.heap.size + 1, 1, none⟩) (set_at (a := ⟨w5.heap.size + 1, 0, none⟩) Xc_22.out rfl rfl (.int .i64 r'.free)) rfl rfl (.int .i64 r'.limit)) (by decide) (.slice an2 r'.q.length pn2)), by rw [← HalL22.out]; exact HI'.out, (below_setAt (below_setAt (below_setAt HB_22.out (w5.heap.size + 1) 0 (by first | omega | (simp only [szA, szS, szD, World.heap_drewN] at * <;> omega)) (.int .i64 r'.free)) (w5.heap.size + 1) 1 (by first | omega | (simp only [szA, szS, szD, World.heap_drewN] at * <;> omega)) (.int .i64 r'.limit)) (w5.heap.size + 1) 2 (by first | omega | (simp only [szA, szS, szD, World.heap_drewN] at * <;> omega)) (.slice an2 r'.q.length pn2))⟩
          case measure => simp [intOf]; omega
        · obtain ⟨e1, e2⟩ := HI.out.fin HR.out (by omega)
          have E1 := Lib.hid e1; have E2 := Lib.hid e2; clear e1 e2
          have Xs_20 := Lib.hid (below_at HB_20.out Xs_5.out)
          have Xx_20 := Lib.hid (below_at HB_20.out Xx_5.out)
          have Xt_20 := Lib.hid (below_at HB_20.out Xt_5.out)
          have Os_20 := Lib.hid (Os_5.out.kept HB_20.out)
          have Ox_20 := Lib.hid (Ox_5.out.kept HB_20.out)
          have Oya_20 := Lib.hid (Oya_5.out.kept HB_20.out)
          have Ot_20 := Lib.hid (Ot_5.out.kept HB_20.out)
          have Oyb_20 := Lib.hid (Oyb_5.out.kept HB_20.out)
          obtain ⟨cc20_0, cc20_1, cc20_2, fc20_0, fc20_1, fc20_2⟩ := box3 Xc_20.out; have lc20 := heap_lt Xc_20.out
          obtain ⟨cs20_0, cs20_1, cs20_2, fs20_0, fs20_1, fs20_2⟩ := box3 Xs_20.out; have ls20 := heap_lt Xs_20.out
          obtain ⟨cx20_0, cx20_1, cx20_2, fx20_0, fx20_1, fx20_2⟩ := box3 Xx_20.out; have lx20 := heap_lt Xx_20.out
          obtain ⟨ct20_0, ct20_1, ct20_2, ft20_0, ft20_1, ft20_2⟩ := box3 Xt_20.out; have lt20 := heap_lt Xt_20.out
          go_wp2_with (fail)
          refine (wkInts_calls _ _ al y _ (Oal_20.out.row encI_len) (Oya_20.out.row encI_len)).mono ?_
          rw [decide_eq_true E2.out]
          rintro e w21 ⟨rfl, hb⟩
          have B21 := Lib.hid (Below.trans B20.out (hb.mono (by first | omega | (simp only [szA, szS, szD, World.heap_drewN] at * <;> omega))) : Below w.heap.size w w21)
          have HB_21 := Lib.hid (Below.trans HB_20.out (hb.mono (by first | omega | (simp only [szA, szS, szD, World.heap_drewN] at * <;> omega))) : Below w5.heap.size w5 w21)
          have Z21 := hb.size
          have N21 : w20.heap.size ≤ w21.heap.size := (by first | exact Z21 | (simp only [szA, szS, szD] at Z21; omega))
          clear Z21
          have Xc_21 := Lib.hid (below_at hb Xc_20.out)
          have Xs_21 := Lib.hid (below_at hb Xs_20.out)
          have Xx_21 := Lib.hid (below_at hb Xx_20.out)
          have Xt_21 := Lib.hid (below_at hb Xt_20.out)
          have Oc_21 := Lib.hid (Oc_20.out.kept hb)
          have Oal_21 := Lib.hid (Oal_20.out.kept hb)
          have Os_21 := Lib.hid (Os_20.out.kept hb)
          have Ox_21 := Lib.hid (Ox_20.out.kept hb)
          have Oya_21 := Lib.hid (Oya_20.out.kept hb)
          have Ot_21 := Lib.hid (Ot_20.out.kept hb)
          have Oyb_21 := Lib.hid (Oyb_20.out.kept hb)
          clear hb
          obtain ⟨cc21_0, cc21_1, cc21_2, fc21_0, fc21_1, fc21_2⟩ := box3 Xc_21.out; have lc21 := heap_lt Xc_21.out
          obtain ⟨cs21_0, cs21_1, cs21_2, fs21_0, fs21_1, fs21_2⟩ := box3 Xs_21.out; have ls21 := heap_lt Xs_21.out
          obtain ⟨cx21_0, cx21_1, cx21_2, fx21_0, fx21_1, fx21_2⟩ := box3 Xx_21.out; have lx21 := heap_lt Xx_21.out
          obtain ⟨ct21_0, ct21_1, ct21_2, ft21_0, ft21_1, ft21_2⟩ := box3 Xt_21.out; have lt21 := heap_lt Xt_21.out
          have S21 : w.heap.size ≤ w21.heap.size := by omega
          go_wp2_with (fail)
          refine (SemSameO _ _ c r _ (Oc_21.out.row) (Ox_21.out.row)).mono ?_
          rw [decide_eq_true E1.out]
          rintro e w22 ⟨rfl, hb⟩
          have B22 := Lib.hid (Below.trans B21.out (hb.mono (by first | omega | (simp only [szA, szS, szD, World.heap_drewN] at * <;> omega))) : Below w.heap.size w w22)
          have HB_22 := Lib.hid (Below.trans HB_21.out (hb.mono (by first | omega | (simp only [szA, szS, szD, World.heap_drewN] at * <;> omega))) : Below w5.heap.size w5 w22)
          have Z22 := hb.size
          have N22 : w21.heap.size ≤ w22.heap.size := (by first | exact Z22 | (simp only [szA, szS, szD] at Z22; omega))
          clear Z22
          have Xc_22 := Lib.hid (below_at hb Xc_21.out)
          have Xs_22 := Lib.hid (below_at hb Xs_21.out)
          have Xx_22 := Lib.hid (below_at hb Xx_21.out)
          have Xt_22 := Lib.hid (below_at hb Xt_21.out)
          have Oc_22 := Lib.hid (Oc_21.out.kept hb)
          have Oal_22 := Lib.hid (Oal_21.out.kept hb)
          have Os_22 := Lib.hid (Os_21.out.kept hb)
          have Ox_22 := Lib.hid (Ox_21.out.kept hb)
          have Oya_22 := Lib.hid (Oya_21.out.kept hb)
          have Ot_22 := Lib.hid (Ot_21.out.kept hb)
          have Oyb_22 := Lib.hid (Oyb_21.out.kept hb)
          clear hb
          obtain ⟨cc22_0, cc22_1, cc22_2, fc22_0, fc22_1, fc22_2⟩ := box3 Xc_22.out; have lc22 := heap_lt Xc_22.out
          obtain ⟨cs22_0, cs22_1, cs22_2, fs22_0, fs22_1, fs22_2⟩ := box3 Xs_22.out; have ls22 := heap_lt Xs_22.out
          obtain ⟨cx22_0, cx22_1, cx22_2, fx22_0, fx22_1, fx22_2⟩ := box3 Xx_22.out; have lx22 := heap_lt Xx_22.out
          obtain ⟨ct22_0, ct22_1, ct22_2, ft22_0, ft22_1, ft22_2⟩ := box3 Xt_22.out; have lt22 := heap_lt Xt_22.out
          have S22 : w.heap.size ≤ w22.heap.size := by omega
          clear cc21_0 cc21_1 cc21_2 fc21_0 fc21_1 fc21_2 cs21_0 cs21_1 cs21_2 fs21_0 fs21_1 fs21_2 cx21_0 cx21_1 cx21_2 fx21_0 fx21_1 fx21_2 ct21_0 ct21_1 ct21_2 ft21_0 ft21_1 ft21_2
          go_wp2_with (fail)
          go_ret
          exact ⟨rfl, B22.out⟩

  · go_enter Try.func11, Try.ntmps11
    go_wp2
    go_ret
    exact ⟨rfl, Below.refl _ _⟩
end Go.Proofs.Yteecnndlaphlpaa
