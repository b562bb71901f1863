/- FnCancelAll: the law's walk (made by gen_cancellaws.py). -/
import Derived.Test.YtmmkbiljjhigfaaDrawsSem
import Derived.Test.YtmmkbiljjhigfaaDrawsCancel
import Derived.Test.YtmmkbiljjhigfaaLawSem
import Derived.Test.YtmmkbiljjhigfaaLawCancel
namespace Go.Proofs.Ytmmkbiljjhigfaa
open Go.RowKit
set_option linter.unusedSimpArgs false
set_option linter.unusedVariables false
set_option maxHeartbeats 8000000 in
theorem FnCancelAll_calls (v : Value) (bs : List Int) (w : World) (h : Row 1 encB w v bs) (hbs : ∀ x ∈ bs, 0 ≤ x ∧ x ≤ 255) :
    Calls Try.prog 10 #[v] w fun e w' => e = .returned (.bool true) ∧ Below w.heap.size w w' := by
  have HB := Lib.hid hbs; clear hbs
  have H0 := Lib.hid h
  obtain ⟨a, c, rfl, l1, l2, l3⟩ := h
  clear l3
  by_cases hl : bs.length ≤ 1048576
  · go_enter Try.func10, Try.ntmps10
    go_wp2_with (fail)
    refine (DrawCancelWait_calls _ bs _ (Row.below H0.out (Below.refl _ _)) HB.out).mono ?_
    rintro e w1 ⟨vs, cs, y0, rfl, ho_s, hfs, hb⟩
    have B1 := Lib.hid (Below.trans (Below.refl _ _) (hb.mono (by first | omega | (simp only [szA, szS, szD, World.heap_drewN] at * <;> omega))) : Below w.heap.size w w1)
    have Z1 := hb.size
    have N1 : w.heap.size ≤ w1.heap.size := (by first | exact Z1 | (simp only [szA, szS, szD] at Z1; omega))
    clear Z1
    have Os_1 := Lib.hid (ho_s.mono (lo' := w.heap.size) (by first | omega | (simp only [szA, szS, szD, World.heap_drewN] at * <;> omega)) (Nat.le_refl _)); obtain ⟨as2, ps2, rfl, hx_s⟩ := ho_s; clear hx_s
    clear hb
    have S1 : w.heap.size ≤ w1.heap.size := (by omega)
    obtain ⟨r, y, b1, hr⟩ : ∃ r y b1, cancel cs y0 = (r, y, b1) := ⟨_, _, _, rfl⟩
    have HR := Lib.hid hr; clear hr
    go_wp2_with (fail)
    refine (CancelWaitO _ cs y0 r y b1 _ ((Os_1.out.alloc _).row) HR.out).mono ?_
    rintro e w2 ⟨vx, va, rfl, ho_x, ho_ya, hap, hb⟩
    have B2 := Lib.hid (Below.trans (Below.alloc B1.out (by first | omega | (simp only [szA, szS, szD, World.heap_drewN] at * <;> omega)) _) (hb.mono (by first | omega | (simp only [szA, szS, szD, World.heap_drewN] at * <;> omega))) : Below w.heap.size w w2)
    have Z2 := hb.size
    have N2 : w1.heap.size + 1 ≤ w2.heap.size := (by first | exact Z2 | (simp only [szA, szS, szD] at Z2; omega))
    clear Z2
    have Xs_2 : Hid (w2.heap[w1.heap.size]? = some (.cells #[.int .i64 cs.free, .int .i64 cs.limit, .slice as2 cs.q.length ps2] 48 (0, 0))) := below_at hb (heap_at' (n := w1.heap.size) (by first | omega | (simp only [szA, szS, szD, World.heap_drewN] at * <;> omega)))
    have Os_2 := Lib.hid ((Os_1.out.alloc _).kept hb)
    have Ox_2 := Lib.hid (ho_x.mono (lo' := w.heap.size) (by first | omega | (simp only [szA, szS, szD, World.heap_drewN] at * <;> omega)) (Nat.le_refl _)); obtain ⟨ax2, px2, rfl, hx_x⟩ := ho_x; clear hx_x
    have Oya_2 := Lib.hid (Own.mono (base' := w.heap.size) ho_ya.own (by first | omega | (simp only [szA, szS, szD, World.heap_drewN] at * <;> omega))); obtain ⟨aya, pya, rfl, hx_ya⟩ := ho_ya; clear hx_ya
    clear hb
    obtain ⟨cs2_0, cs2_1, cs2_2, fs2_0, fs2_1, fs2_2⟩ := box3 Xs_2.out; have ls2 := heap_lt Xs_2.out
    have S2 : w.heap.size ≤ w2.heap.size := (by omega)
    clear hap
    go_wp2_with (fail)
    refine (sCancelWaitO _ cs y0 r y b1 _ ((Os_2.out.alloc _).row) HR.out).mono ?_
    rintro e w3 ⟨vt, vb, rfl, ho_t, ho_yb, hap, hb⟩
    have B3 := Lib.hid (Below.trans (Below.alloc B2.out (by first | omega | (simp only [szA, szS, szD, World.heap_drewN] at * <;> omega)) _) (hb.mono (by first | omega | (simp only [szA, szS, szD, World.heap_drewN] at * <;> omega))) : Below w.heap.size w w3)
    have Z3 := hb.size
    have N3 : w2.heap.size + 1 ≤ w3.heap.size := (by first | exact Z3 | (simp only [szA, szS, szD] at Z3; omega))
    clear Z3
    have Xs_3 := Lib.hid (below_at hb (heap_up Xs_2.out))
    have Xx_3 : Hid (w3.heap[w2.heap.size]? = some (.cells #[.int .i64 r.free, .int .i64 r.limit, .slice ax2 r.q.length px2] 48 (0, 0))) := below_at hb (heap_at' (n := w2.heap.size) (by first | omega | (simp only [szA, szS, szD, World.heap_drewN] at * <;> omega)))
    have Os_3 := Lib.hid ((Os_2.out.alloc _).kept hb)
    have Ox_3 := Lib.hid ((Ox_2.out.alloc _).kept hb)
    have Oya_3 := Lib.hid ((Oya_2.out.alloc _).kept hb)
    have Ot_3 := Lib.hid (ho_t.mono (lo' := w.heap.size) (by first | omega | (simp only [szA, szS, szD, World.heap_drewN] at * <;> omega)) (Nat.le_refl _)); obtain ⟨at2, pt2, rfl, hx_t⟩ := ho_t; clear hx_t
    have Oyb_3 := Lib.hid (Own.mono (base' := w.heap.size) ho_yb.own (by first | omega | (simp only [szA, szS, szD, World.heap_drewN] at * <;> omega))); obtain ⟨ayb, pyb, rfl, hx_yb⟩ := ho_yb; clear hx_yb
    clear hb
    obtain ⟨cs3_0, cs3_1, cs3_2, fs3_0, fs3_1, fs3_2⟩ := box3 Xs_3.out; have ls3 := heap_lt Xs_3.out
    obtain ⟨cx3_0, cx3_1, cx3_2, fx3_0, fx3_1, fx3_2⟩ := box3 Xx_3.out; have lx3 := heap_lt Xx_3.out
    have S3 : w.heap.size ≤ w3.heap.size := (by omega)
    clear cs2_0 cs2_1 cs2_2 fs2_0 fs2_1 fs2_2
    clear hap
    go_wp2_with (fail)
    refine (SemSameO _ _ r r _ ((Ox_3.out.alloc _).row) ((Ot_3.out.alloc _).row)).mono ?_
    rw [decide_eq_true rfl]
    rintro e w4 ⟨rfl, hb⟩
    have B4 := Lib.hid (Below.trans (Below.alloc B3.out (by first | omega | (simp only [szA, szS, szD, World.heap_drewN] at * <;> omega)) _) (hb.mono (by first | omega | (simp only [szA, szS, szD, World.heap_drewN] at * <;> omega))) : Below w.heap.size w w4)
    have Z4 := hb.size
    have N4 : w3.heap.size + 1 ≤ w4.heap.size := (by first | exact Z4 | (simp only [szA, szS, szD] at Z4; omega))
    clear Z4
    have Xs_4 := Lib.hid (below_at hb (heap_up Xs_3.out))
    have Xx_4 := Lib.hid (below_at hb (heap_up Xx_3.out))
    have Xt_4 : Hid (w4.heap[w3.heap.size]? = some (.cells #[.int .i64 r.free, .int .i64 r.limit, .slice at2 r.q.length pt2] 48 (0, 0))) := below_at hb (heap_at' (n := w3.heap.size) (by first | omega | (simp only [szA, szS, szD, World.heap_drewN] at * <;> omega)))
    have Os_4 := Lib.hid ((Os_3.out.alloc _).kept hb)
    have Ox_4 := Lib.hid ((Ox_3.out.alloc _).kept hb)
    have Oya_4 := Lib.hid ((Oya_3.out.alloc _).kept hb)
    have Ot_4 := Lib.hid ((Ot_3.out.alloc _).kept hb)
    have Oyb_4 := Lib.hid ((Oyb_3.out.alloc _).kept hb)
    clear hb
    obtain ⟨cs4_0, cs4_1, cs4_2, fs4_0, fs4_1, fs4_2⟩ := box3 Xs_4.out; have ls4 := heap_lt Xs_4.out
    obtain ⟨cx4_0, cx4_1, cx4_2, fx4_0, fx4_1, fx4_2⟩ := box3 Xx_4.out; have lx4 := heap_lt Xx_4.out
    obtain ⟨ct4_0, ct4_1, ct4_2, ft4_0, ft4_1, ft4_2⟩ := box3 Xt_4.out; have lt4 := heap_lt Xt_4.out
    have S4 : w.heap.size ≤ w4.heap.size := (by omega)
    clear cs3_0 cs3_1 cs3_2 fs3_0 fs3_1 fs3_2 cx3_0 cx3_1 cx3_2 fx3_0 fx3_1 fx3_2
    go_wp2_with (fail)
    refine (wkInts_calls _ _ y y _ (Oya_4.out.row encI_len) (Oyb_4.out.row encI_len)).mono ?_
    rw [decide_eq_true rfl]
    rintro e w5 ⟨rfl, hb⟩
    have B5 := Lib.hid (Below.trans B4.out (hb.mono (by first | omega | (simp only [szA, szS, szD, World.heap_drewN] at * <;> omega))) : Below w.heap.size w w5)
    have Z5 := hb.size
    have N5 : w4.heap.size ≤ w5.heap.size := (by first | exact Z5 | (simp only [szA, szS, szD] at Z5; omega))
    clear Z5
    have Xs_5 := Lib.hid (below_at hb Xs_4.out)
    have Xx_5 := Lib.hid (below_at hb Xx_4.out)
    have Xt_5 := Lib.hid (below_at hb Xt_4.out)
    have Os_5 := Lib.hid (Os_4.out.kept hb)
    have Ox_5 := Lib.hid (Ox_4.out.kept hb)
    have Oya_5 := Lib.hid (Oya_4.out.kept hb)
    have Ot_5 := Lib.hid (Ot_4.out.kept hb)
    have Oyb_5 := Lib.hid (Oyb_4.out.kept hb)
    clear hb
    obtain ⟨cs5_0, cs5_1, cs5_2, fs5_0, fs5_1, fs5_2⟩ := box3 Xs_5.out; have ls5 := heap_lt Xs_5.out
    obtain ⟨cx5_0, cx5_1, cx5_2, fx5_0, fx5_1, fx5_2⟩ := box3 Xx_5.out; have lx5 := heap_lt Xx_5.out
    obtain ⟨ct5_0, ct5_1, ct5_2, ft5_0, ft5_1, ft5_2⟩ := box3 Xt_5.out; have lt5 := heap_lt Xt_5.out
    have S5 : w.heap.size ≤ w5.heap.size := (by omega)
    clear cs4_0 cs4_1 cs4_2 fs4_0 fs4_1 fs4_2 cx4_0 cx4_1 cx4_2 fx4_0 fx4_1 fx4_2 ct4_0 ct4_1 ct4_2 ft4_0 ft4_1 ft4_2
    cases b1
    · go_wp2_with (fail)
      refine (SemSameO _ _ r r _ (Ox_5.out.row) (Ot_5.out.row)).mono ?_
      rw [decide_eq_true rfl]
      rintro e w6 ⟨rfl, hb⟩
      have B6 := Lib.hid (Below.trans B5.out (hb.mono (by first | omega | (simp only [szA, szS, szD, World.heap_drewN] at * <;> omega))) : Below w.heap.size w w6)
      have Z6 := hb.size
      have N6 : w5.heap.size ≤ w6.heap.size := (by first | exact Z6 | (simp only [szA, szS, szD] at Z6; omega))
      clear Z6
      have Xs_6 := Lib.hid (below_at hb Xs_5.out)
      have Xx_6 := Lib.hid (below_at hb Xx_5.out)
      have Xt_6 := Lib.hid (below_at hb Xt_5.out)
      have Os_6 := Lib.hid (Os_5.out.kept hb)
      have Ox_6 := Lib.hid (Ox_5.out.kept hb)
      have Oya_6 := Lib.hid (Oya_5.out.kept hb)
      have Ot_6 := Lib.hid (Ot_5.out.kept hb)
      have Oyb_6 := Lib.hid (Oyb_5.out.kept hb)
      clear hb
      obtain ⟨cs6_0, cs6_1, cs6_2, fs6_0, fs6_1, fs6_2⟩ := box3 Xs_6.out; have ls6 := heap_lt Xs_6.out
      obtain ⟨cx6_0, cx6_1, cx6_2, fx6_0, fx6_1, fx6_2⟩ := box3 Xx_6.out; have lx6 := heap_lt Xx_6.out
      obtain ⟨ct6_0, ct6_1, ct6_2, ft6_0, ft6_1, ft6_2⟩ := box3 Xt_6.out; have lt6 := heap_lt Xt_6.out
      have S6 : w.heap.size ≤ w6.heap.size := (by omega)
      clear cs5_0 cs5_1 cs5_2 fs5_0 fs5_1 fs5_2 cx5_0 cx5_1 cx5_2 fx5_0 fx5_1 fx5_2 ct5_0 ct5_1 ct5_2 ft5_0 ft5_1 ft5_2
      go_wp2_with (fail)
      refine (wkInts_calls _ _ y y _ (Oya_6.out.row encI_len) (Oyb_6.out.row encI_len)).mono ?_
      rw [decide_eq_true rfl]
      rintro e w7 ⟨rfl, hb⟩
      have B7 := Lib.hid (Below.trans B6.out (hb.mono (by first | omega | (simp only [szA, szS, szD, World.heap_drewN] at * <;> omega))) : Below w.heap.size w w7)
      have Z7 := hb.size
      have N7 : w6.heap.size ≤ w7.heap.size := (by first | exact Z7 | (simp only [szA, szS, szD] at Z7; omega))
      clear Z7
      have Xs_7 := Lib.hid (below_at hb Xs_6.out)
      have Xx_7 := Lib.hid (below_at hb Xx_6.out)
      have Xt_7 := Lib.hid (below_at hb Xt_6.out)
      have Os_7 := Lib.hid (Os_6.out.kept hb)
      have Ox_7 := Lib.hid (Ox_6.out.kept hb)
      have Oya_7 := Lib.hid (Oya_6.out.kept hb)
      have Ot_7 := Lib.hid (Ot_6.out.kept hb)
      have Oyb_7 := Lib.hid (Oyb_6.out.kept hb)
      clear hb
      obtain ⟨cs7_0, cs7_1, cs7_2, fs7_0, fs7_1, fs7_2⟩ := box3 Xs_7.out; have ls7 := heap_lt Xs_7.out
      obtain ⟨cx7_0, cx7_1, cx7_2, fx7_0, fx7_1, fx7_2⟩ := box3 Xx_7.out; have lx7 := heap_lt Xx_7.out
      obtain ⟨ct7_0, ct7_1, ct7_2, ft7_0, ft7_1, ft7_2⟩ := box3 Xt_7.out; have lt7 := heap_lt Xt_7.out
      have S7 : w.heap.size ≤ w7.heap.size := (by omega)
      clear cs6_0 cs6_1 cs6_2 fs6_0 fs6_1 fs6_2 cx6_0 cx6_1 cx6_2 fx6_0 fx6_1 fx6_2 ct6_0 ct6_1 ct6_2 ft6_0 ft6_1 ft6_2
      go_wp2_with (fail)
      go_ret
      exact ⟨rfl, B7.out⟩
    · obtain ⟨-, -, -, -, h3, -, -, -, h7, h8, -⟩ := cancel_ok HR.out
      have HV := Lib.hid h3; clear h3
      go_wp2_with (fail)
      go_loopw [] (fun wr => ∃ (c : SemD) (a : Option Addr) (p : Nat), wr.heap[w2.heap.size]? = some (.cells #[.int .i64 c.free, .int .i64 c.limit, .slice a c.q.length p] 48 (0, 0)) ∧ wr.heap[w1.heap.size]? = some (.cells #[.int .i64 cs.free, .int .i64 cs.limit, .slice as2 cs.q.length ps2] 48 (0, 0)) ∧ SemOwn w.heap.size wr.heap.size wr (.agg #[.int .i64 c.free, .int .i64 c.limit, .slice a c.q.length p]) c ∧ semB c = true ∧ c.free ≤ cs.free ∧ c.limit = cs.limit ∧ Below w.heap.size w wr) (fun wr => qLen wr (w2.heap.size))
      case atStart => exact ⟨r, _, _, Xx_5.out, Xs_5.out, Ox_5.out.mono (Nat.le_refl _) (by first | omega | (simp only [szA, szS, szD]; omega)), HV.out, h7, h8, B5.out⟩
      case round =>
        obtain ⟨w20, rfl⟩ : ∃ x : World, x = wr := ⟨_, rfl⟩
        obtain ⟨c, ac2, pc2, hx, hs, ho, hv, hf, hl, hb⟩ := hrel
        have Xc_20 := Lib.hid hx; have Xs_20 := Lib.hid hs; have Oc_20 := Lib.hid ho; have VC := Lib.hid hv; have B20 := Lib.hid hb; have S20 := hb.size; have HL := Lib.hid hl; clear hx hs ho hv hb hl h8
        obtain ⟨m1, m2, m3, m4, m5, _⟩ := semB_small VC.out
        have hqc := (semB_true.1 VC.out).1.2.2.2.2
        obtain ⟨cc20_0, cc20_1, cc20_2, fc20_0, fc20_1, fc20_2⟩ := box3 Xc_20.out; have lc20 := heap_lt Xc_20.out
        obtain ⟨cs20_0, cs20_1, cs20_2, fs20_0, fs20_1, fs20_2⟩ := box3 Xs_20.out; have ls20 := heap_lt Xs_20.out
        by_cases hq : 0 < c.q.length
        · have d1 := len_ne hq
          obtain ⟨z, hz⟩ := get_ex (show c.q.length - 1 < c.q.length by omega)
          obtain ⟨r', y', hr'⟩ := cancel_last VC.out hz
          obtain ⟨-, -, -, -, g3, -, -, -, g7, g8, g9⟩ := cancel_ok hr'
          have HR' := Lib.hid hr'; have VR := Lib.hid g3; have G8 := Lib.hid g8; clear hr' g3 g8
          have RC := PRow.at_ (SemRow.at_ (Oc_20.out.row))
          obtain ⟨bb, off, hab, hblt, hc⟩ := RC (by omega)
          subst hab
          obtain ⟨c1, c2⟩ := hc _ z hz
          clear hc hz RC
          obtain ⟨n1, hn1⟩ : ∃ n1 : Nat, c.q.length = n1 + 1 := ⟨c.q.length - 1, by omega⟩
          have HN1 := Lib.hid hn1
          rw [show c.q.length - 1 = n1 by omega] at c1 c2
          have j1 : (c.q.length : Int) - 1 = (n1 : Int) := by omega
          have j2 : (n1 : Int) < (c.q.length : Int) := by omega
          have j3 : n1 < c.q.length := by omega
          have j0 : (0 : Int) ≤ (n1 : Int) := by omega
          have hwr : IntKind.i64.wrap (n1 : Int) = (n1 : Int) := IntWalk.i64_in _ (by omega)
          clear hn1
          go_wp2_with (fail)
          have ne1 : w20.heap.size ≠ bb := by omega
          have ne2 := ne1.symm
          have ne3 : w20.heap.size ≠ w2.heap.size := by omega
          have ne4 := ne3.symm
          have HB_20 := Lib.hid (Below.refl w20.heap.size w20)
          go_region_held3 (fun w' => w'.cell? ⟨w2.heap.size, 0, none⟩ = some (.int .i64 c.free) ∧ w'.cell? ⟨w2.heap.size, 1, none⟩ = some (.int .i64 c.limit) ∧ w'.cell? ⟨w2.heap.size, 2, none⟩ = some (.slice (some ⟨bb, off, none⟩) c.q.length pc2) ∧ w'.cell? ⟨bb, off + n1 * 2, none⟩ = some (.int .i64 z.1)) (go_keep) (first
            | (go_at_call 39; refine (CancelWaitO _ c z.1 r' y' true _ (by exact (((Oc_20.out.alloc _).drew).row)) HR'.out).mono ?_; rintro e w21 ⟨vn, vy, rfl, ho_n, ho_yn, hap, hb⟩; have B21 := Lib.hid (Below.trans (Below.alloc B20.out (by first | omega | (simp only [szA, szS, szD, World.heap_drewN] at * <;> omega)) _).drew (hb.mono (by first | omega | (simp only [szA, szS, szD, World.heap_drewN] at * <;> omega))) : Below w.heap.size w w21); have HB_21 := Lib.hid (Below.trans (Below.alloc HB_20.out (by first | omega | (simp only [szA, szS, szD, World.heap_drewN] at * <;> omega)) _).drew (hb.mono (by first | omega | (simp only [szA, szS, szD, World.heap_drewN] at * <;> omega))) : Below w20.heap.size w20 w21); have Z21 := hb.size; have N21 : w20.heap.size + 1 ≤ w21.heap.size := (by first | exact Z21 | (simp only [szA, szS, szD] at Z21; omega)); clear Z21; have Xc_21 := Lib.hid (below_at hb (heap_drew (heap_up Xc_20.out))); have Xs_21 := Lib.hid (below_at hb (heap_drew (heap_up Xs_20.out))); have Xnx_21 : Hid (w21.heap[w20.heap.size]? = some (.cells #[.int .i64 0, .int .i64 0, .slice none 0 0] 48 (0, 0))) := below_at hb (heap_drew (heap_at' (n := w20.heap.size) (by first | omega | (simp only [szA, szS, szD, World.heap_drewN] at * <;> omega)))); have Oc_21 := Lib.hid (((Oc_20.out.alloc _).drew).kept hb); have On_21 := Lib.hid (ho_n.mono (lo' := w.heap.size) (by first | omega | (simp only [szA, szS, szD, World.heap_drewN] at * <;> omega)) (Nat.le_refl _)); obtain ⟨an2, pn2, rfl, hx_n⟩ := ho_n; clear hx_n; have Oyn_21 := Lib.hid (Own.mono (base' := w.heap.size) ho_yn.own (by first | omega | (simp only [szA, szS, szD, World.heap_drewN] at * <;> omega))); obtain ⟨ayn, pyn, rfl, hx_yn⟩ := ho_yn; clear hx_yn; clear hb; obtain ⟨cc21_0, cc21_1, cc21_2, fc21_0, fc21_1, fc21_2⟩ := box3 Xc_21.out; have lc21 := heap_lt Xc_21.out; obtain ⟨cs21_0, cs21_1, cs21_2, fs21_0, fs21_1, fs21_2⟩ := box3 Xs_21.out; have ls21 := heap_lt Xs_21.out; obtain ⟨cnx21_0, cnx21_1, cnx21_2, fnx21_0, fnx21_1, fnx21_2⟩ := box3 Xnx_21.out; have lnx21 := heap_lt Xnx_21.out; have S21 : w.heap.size ≤ w21.heap.size := (by omega); clear hap; have cF := (HB_21.out.cell (p := ⟨bb, off + n1 * 2, none⟩) hblt).trans c1; have ne5 : w21.heap.size ≠ bb := (by omega); have ne6 := ne5.symm; have ne7 : w21.heap.size ≠ w2.heap.size := (by omega); have ne8 := ne7.symm)
            | (go_at_call 39; refine (CancelWaitO _ c z.1 r' y' true _ (by exact ((Oc_20.out.drew).row)) HR'.out).mono ?_; rintro e w21 ⟨vn, vy, rfl, ho_n, ho_yn, hap, hb⟩; have B21 := Lib.hid (Below.trans B20.out.drew (hb.mono (by first | omega | (simp only [szA, szS, szD, World.heap_drewN] at * <;> omega))) : Below w.heap.size w w21); have HB_21 := Lib.hid (Below.trans HB_20.out.drew (hb.mono (by first | omega | (simp only [szA, szS, szD, World.heap_drewN] at * <;> omega))) : Below w20.heap.size w20 w21); have Z21 := hb.size; have N21 : w20.heap.size ≤ w21.heap.size := (by first | exact Z21 | (simp only [szA, szS, szD] at Z21; omega)); clear Z21; have Xc_21 := Lib.hid (below_at hb (heap_drew Xc_20.out)); have Xs_21 := Lib.hid (below_at hb (heap_drew Xs_20.out)); have Oc_21 := Lib.hid ((Oc_20.out.drew).kept hb); have On_21 := Lib.hid (ho_n.mono (lo' := w.heap.size) (by first | omega | (simp only [szA, szS, szD, World.heap_drewN] at * <;> omega)) (Nat.le_refl _)); obtain ⟨an2, pn2, rfl, hx_n⟩ := ho_n; clear hx_n; have Oyn_21 := Lib.hid (Own.mono (base' := w.heap.size) ho_yn.own (by first | omega | (simp only [szA, szS, szD, World.heap_drewN] at * <;> omega))); obtain ⟨ayn, pyn, rfl, hx_yn⟩ := ho_yn; clear hx_yn; clear hb; obtain ⟨cc21_0, cc21_1, cc21_2, fc21_0, fc21_1, fc21_2⟩ := box3 Xc_21.out; have lc21 := heap_lt Xc_21.out; obtain ⟨cs21_0, cs21_1, cs21_2, fs21_0, fs21_1, fs21_2⟩ := box3 Xs_21.out; have ls21 := heap_lt Xs_21.out; have S21 : w.heap.size ≤ w21.heap.size := (by omega); clear hap; have cF := (HB_21.out.cell (p := ⟨bb, off + n1 * 2, none⟩) hblt).trans c1; have ne5 : w21.heap.size ≠ bb := (by omega); have ne6 := ne5.symm; have ne7 : w21.heap.size ≠ w2.heap.size := (by omega); have ne8 := ne7.symm)
          )
          · go_wp2_with (fail)
            go_roundw
            case rel => exact ⟨r', _, _, (heap_up (set_at (a := ⟨w2.heap.size, 2, none⟩) (set_at (a := ⟨w2.heap.size, 1, none⟩) (set_at (a := ⟨w2.heap.size, 0, none⟩) Xc_21.out rfl rfl (.int .i64 r'.free)) rfl rfl (.int .i64 r'.limit)) rfl rfl (.slice an2 r'.q.length pn2))), (heap_up (set_off (a := ⟨w2.heap.size, 2, none⟩) (set_off (a := ⟨w2.heap.size, 1, none⟩) (set_off (a := ⟨w2.heap.size, 0, none⟩) Xs_21.out (by first | omega | (simp only [szA, szS, szD, World.heap_drewN] at * <;> omega)) (.int .i64 r'.free)) (by first | omega | (simp only [szA, szS, szD, World.heap_drewN] at * <;> omega)) (.int .i64 r'.limit)) (by first | omega | (simp only [szA, szS, szD, World.heap_drewN] at * <;> omega)) (.slice an2 r'.q.length pn2))), ((((On_21.out.setB (w2.heap.size) 0 Xc_21.out (by decide) (.int .i64 r'.free)).setB (w2.heap.size) 1 (set_at (a := ⟨w2.heap.size, 0, none⟩) Xc_21.out rfl rfl (.int .i64 r'.free)) (by decide) (.int .i64 r'.limit)).setB (w2.heap.size) 2 (set_at (a := ⟨w2.heap.size, 1, none⟩) (set_at (a := ⟨w2.heap.size, 0, none⟩) Xc_21.out rfl rfl (.int .i64 r'.free)) rfl rfl (.int .i64 r'.limit)) (by decide) (.slice an2 r'.q.length pn2)).alloc _).mono (Nat.le_refl _) (by first | omega | (simp only [szA, szS, szD]; omega)), VR.out, by omega, by rw [G8.out]; exact HL.out, (Below.alloc (below_setAt (below_setAt (below_setAt B21.out (w2.heap.size) 0 (by first | omega | (simp only [szA, szS, szD, World.heap_drewN] at * <;> omega)) (.int .i64 r'.free)) (w2.heap.size) 1 (by first | omega | (simp only [szA, szS, szD, World.heap_drewN] at * <;> omega)) (.int .i64 r'.limit)) (w2.heap.size) 2 (by first | omega | (simp only [szA, szS, szD, World.heap_drewN] at * <;> omega)) (.slice an2 r'.q.length pn2)) (by first | omega | (simp only [szA, szS, szD, World.heap_drewN] at * <;> omega)) _)⟩
            case measure => show qLen _ _ < qLen _ _; rw [qLen_of (heap_up (set_at (a := ⟨w2.heap.size, 2, none⟩) (set_at (a := ⟨w2.heap.size, 1, none⟩) (set_at (a := ⟨w2.heap.size, 0, none⟩) Xc_21.out rfl rfl (.int .i64 r'.free)) rfl rfl (.int .i64 r'.limit)) rfl rfl (.slice an2 r'.q.length pn2))), qLen_of Xc_20.out]; exact g9
          · go_wp2_with (fail)
            go_roundw
            case rel => exact ⟨r', _, _, (set_at (a := ⟨w2.heap.size, 2, none⟩) (set_at (a := ⟨w2.heap.size, 1, none⟩) (set_at (a := ⟨w2.heap.size, 0, none⟩) (set_off (a := ⟨w20.heap.size, 2, none⟩) (set_off (a := ⟨w20.heap.size, 1, none⟩) (set_off (a := ⟨w20.heap.size, 0, none⟩) Xc_21.out (by first | omega | (simp only [szA, szS, szD, World.heap_drewN] at * <;> omega)) (.int .i64 r'.free)) (by first | omega | (simp only [szA, szS, szD, World.heap_drewN] at * <;> omega)) (.int .i64 r'.limit)) (by first | omega | (simp only [szA, szS, szD, World.heap_drewN] at * <;> omega)) (.slice an2 r'.q.length pn2)) rfl rfl (.int .i64 r'.free)) rfl rfl (.int .i64 r'.limit)) rfl rfl (.slice an2 r'.q.length pn2)), (set_off (a := ⟨w2.heap.size, 2, none⟩) (set_off (a := ⟨w2.heap.size, 1, none⟩) (set_off (a := ⟨w2.heap.size, 0, none⟩) (set_off (a := ⟨w20.heap.size, 2, none⟩) (set_off (a := ⟨w20.heap.size, 1, none⟩) (set_off (a := ⟨w20.heap.size, 0, none⟩) Xs_21.out (by first | omega | (simp only [szA, szS, szD, World.heap_drewN] at * <;> omega)) (.int .i64 r'.free)) (by first | omega | (simp only [szA, szS, szD, World.heap_drewN] at * <;> omega)) (.int .i64 r'.limit)) (by first | omega | (simp only [szA, szS, szD, World.heap_drewN] at * <;> omega)) (.slice an2 r'.q.length pn2)) (by first | omega | (simp only [szA, szS, szD, World.heap_drewN] at * <;> omega)) (.int .i64 r'.free)) (by first | omega | (simp only [szA, szS, szD, World.heap_drewN] at * <;> omega)) (.int .i64 r'.limit)) (by first | omega | (simp only [szA, szS, szD, World.heap_drewN] at * <;> omega)) (.slice an2 r'.q.length pn2)), ((((((On_21.out.setB (w20.heap.size) 0 Xnx_21.out (by decide) (.int .i64 r'.free)).setB (w20.heap.size) 1 (set_at (a := ⟨w20.heap.size, 0, none⟩) Xnx_21.out rfl rfl (.int .i64 r'.free)) (by decide) (.int .i64 r'.limit)).setB (w20.heap.size) 2 (set_at (a := ⟨w20.heap.size, 1, none⟩) (set_at (a := ⟨w20.heap.size, 0, none⟩) Xnx_21.out rfl rfl (.int .i64 r'.free)) rfl rfl (.int .i64 r'.limit)) (by decide) (.slice an2 r'.q.length pn2)).setB (w2.heap.size) 0 (set_off (a := ⟨w20.heap.size, 2, none⟩) (set_off (a := ⟨w20.heap.size, 1, none⟩) (set_off (a := ⟨w20.heap.size, 0, none⟩) Xc_21.out (by first | omega | (simp only [szA, szS, szD, World.heap_drewN] at * <;> omega)) (.int .i64 r'.free)) (by first | omega | (simp only [szA, szS, szD, World.heap_drewN] at * <;> omega)) (.int .i64 r'.limit)) (by first | omega | (simp only [szA, szS, szD, World.heap_drewN] at * <;> omega)) (.slice an2 r'.q.length pn2)) (by decide) (.int .i64 r'.free)).setB (w2.heap.size) 1 (set_at (a := ⟨w2.heap.size, 0, none⟩) (set_off (a := ⟨w20.heap.size, 2, none⟩) (set_off (a := ⟨w20.heap.size, 1, none⟩) (set_off (a := ⟨w20.heap.size, 0, none⟩) Xc_21.out (by first | omega | (simp only [szA, szS, szD, World.heap_drewN] at * <;> omega)) (.int .i64 r'.free)) (by first | omega | (simp only [szA, szS, szD, World.heap_drewN] at * <;> omega)) (.int .i64 r'.limit)) (by first | omega | (simp only [szA, szS, szD, World.heap_drewN] at * <;> omega)) (.slice an2 r'.q.length pn2)) rfl rfl (.int .i64 r'.free)) (by decide) (.int .i64 r'.limit)).setB (w2.heap.size) 2 (set_at (a := ⟨w2.heap.size, 1, none⟩) (set_at (a := ⟨w2.heap.size, 0, none⟩) (set_off (a := ⟨w20.heap.size, 2, none⟩) (set_off (a := ⟨w20.heap.size, 1, none⟩) (set_off (a := ⟨w20.heap.size, 0, none⟩) Xc_21.out (by first | omega | (simp only [szA, szS, szD, World.heap_drewN] at * <;> omega)) (.int .i64 r'.free)) (by first | omega | (simp only [szA, szS, szD, World.heap_drewN] at * <;> omega)) (.int .i64 r'.limit)) (by first | omega | (simp only [szA, szS, szD, World.heap_drewN] at * <;> omega)) (.slice an2 r'.q.length pn2)) rfl rfl (.int .i64 r'.free)) rfl rfl (.int .i64 r'.limit)) (by decide) (.slice an2 r'.q.length pn2)).mono (Nat.le_refl _) (by first | omega | (simp only [szA, szS, szD]; omega)), VR.out, by omega, by rw [G8.out]; exact HL.out, (below_setAt (below_setAt (below_setAt (below_setAt (below_setAt (below_setAt B21.out (w20.heap.size) 0 (by first | omega | (simp only [szA, szS, szD, World.heap_drewN] at * <;> omega)) (.int .i64 r'.free)) (w20.heap.size) 1 (by first | omega | (simp only [szA, szS, szD, World.heap_drewN] at * <;> omega)) (.int .i64 r'.limit)) (w20.heap.size) 2 (by first | omega | (simp only [szA, szS, szD, World.heap_drewN] at * <;> omega)) (.slice an2 r'.q.length pn2)) (w2.heap.size) 0 (by first | omega | (simp only [szA, szS, szD, World.heap_drewN] at * <;> omega)) (.int .i64 r'.free)) (w2.heap.size) 1 (by first | omega | (simp only [szA, szS, szD, World.heap_drewN] at * <;> omega)) (.int .i64 r'.limit)) (w2.heap.size) 2 (by first | omega | (simp only [szA, szS, szD, World.heap_drewN] at * <;> omega)) (.slice an2 r'.q.length pn2))⟩
            case measure => show qLen _ _ < qLen _ _; rw [qLen_of (set_at (a := ⟨w2.heap.size, 2, none⟩) (set_at (a := ⟨w2.heap.size, 1, none⟩) (set_at (a := ⟨w2.heap.size, 0, none⟩) (set_off (a := ⟨w20.heap.size, 2, none⟩) (set_off (a := ⟨w20.heap.size, 1, none⟩) (set_off (a := ⟨w20.heap.size, 0, none⟩) Xc_21.out (by first | omega | (simp only [szA, szS, szD, World.heap_drewN] at * <;> omega)) (.int .i64 r'.free)) (by first | omega | (simp only [szA, szS, szD, World.heap_drewN] at * <;> omega)) (.int .i64 r'.limit)) (by first | omega | (simp only [szA, szS, szD, World.heap_drewN] at * <;> omega)) (.slice an2 r'.q.length pn2)) rfl rfl (.int .i64 r'.free)) rfl rfl (.int .i64 r'.limit)) rfl rfl (.slice an2 r'.q.length pn2)), qLen_of Xc_20.out]; exact g9
        · have d1 := len_eq (n := c.q.length) (by omega)
          have d2 := decide_eq_true hf
          have d3 : (c.limit == cs.limit) = true := beq_iff_eq.2 HL.out
          go_wp2
          go_ret
          exact ⟨rfl, B20.out⟩

  · go_enter Try.func10, Try.ntmps10
    go_wp2
    go_ret
    exact ⟨rfl, Below.refl _ _⟩
end Go.Proofs.Ytmmkbiljjhigfaa
