/- FnFinishOnce: the law's walk (made by gen_oncelaws.py). -/
import Derived.Test.YtmmkbiljjhigfaaDrawsOnce
import Derived.Test.YtmmkbiljjhigfaaLawOnce
import Derived.Test.YtmmkbiljjhigfaaOnceFinish
namespace Go.Proofs.Ytmmkbiljjhigfaa
open Go.RowKit
set_option linter.unusedSimpArgs false
set_option linter.unusedVariables false
set_option maxHeartbeats 8000000 in
theorem FnFinishOnce_calls (v : Value) (bs : List Int) (w : World) (h : Row 1 encB w v bs) (hbs : ∀ x ∈ bs, 0 ≤ x ∧ x ≤ 255) :
    Calls Try.prog 7 #[v] w fun e w' => e = .returned (.bool true) ∧ Below w.heap.size w w' := by
  have HB := Lib.hid hbs; clear hbs
  have H0 := Lib.hid h
  obtain ⟨a, c, rfl, l1, l2, l3⟩ := h
  clear l3
  by_cases hl : bs.length ≤ 1048576
  · go_enter Try.func7, Try.ntmps7
    go_wp2_with (fail)
    refine (DrawFinishOnce_calls _ bs _ (Row.below H0.out (Below.refl _ _)) HB.out).mono ?_
    rintro e w1 ⟨vs, cs, y0, y1, rfl, ho_s, hfs, hb⟩
    have B1 := Lib.hid (Below.trans (Below.refl _ _) (hb.mono (by first | omega | (simp only [szA, szS, szD, World.heap_drewN] at * <;> omega))) : Below w.heap.size w w1)
    have Z1 := hb.size
    have N1 : w.heap.size ≤ w1.heap.size := (by first | exact Z1 | (simp only [szA, szS, szD] at Z1; omega))
    clear Z1
    have Os_1 := Lib.hid (ho_s.mono (lo' := w.heap.size) (by first | omega | (simp only [szA, szS, szD, World.heap_drewN] at * <;> omega)) (Nat.le_refl _)); obtain ⟨as3, ps3, rfl, hx_s⟩ := ho_s; clear hx_s
    clear hb
    have S1 : w.heap.size ≤ w1.heap.size := by omega
    obtain ⟨r, y, b1, hr⟩ : ∃ r y b1, finish cs y0 y1 = (r, y, b1) := ⟨_, _, _, rfl⟩
    have HR := Lib.hid hr; clear hr
    go_wp2_with (fail)
    refine (FinishOnceO _ cs y0 y1 r y b1 _ ((Os_1.out.alloc _).row) HR.out).mono ?_
    rintro e w2 ⟨vx, va, rfl, ho_x, ho_ya, hb⟩
    have B2 := Lib.hid (Below.trans (Below.alloc B1.out (by first | omega | (simp only [szA, szS, szD, World.heap_drewN] at * <;> omega)) _) (hb.mono (by first | omega | (simp only [szA, szS, szD, World.heap_drewN] at * <;> omega))) : Below w.heap.size w w2)
    have Z2 := hb.size
    have N2 : w1.heap.size + 1 ≤ w2.heap.size := (by first | exact Z2 | (simp only [szA, szS, szD] at Z2; omega))
    clear Z2
    have Xs_2 : Hid (w2.heap[w1.heap.size]? = some (.cells #[.int .i64 cs.state, .int .i64 cs.owner, .int .i64 cs.value, .slice as3 cs.waits.length ps3] 25 (0, 0))) := below_at hb (heap_at' (n := w1.heap.size) (by first | omega | (simp only [szA, szS, szD, World.heap_drewN] at * <;> omega)))
    have Os_2 := Lib.hid ((Os_1.out.alloc _).kept hb)
    have Ox_2 := Lib.hid (ho_x.mono (lo' := w.heap.size) (by first | omega | (simp only [szA, szS, szD, World.heap_drewN] at * <;> omega)) (Nat.le_refl _)); obtain ⟨ax3, px3, rfl, hx_x⟩ := ho_x; clear hx_x
    have Oya_2 := Lib.hid (Own.mono (base' := w.heap.size) ho_ya.own (by first | omega | (simp only [szA, szS, szD, World.heap_drewN] at * <;> omega))); obtain ⟨aya, pya, rfl, hx_ya⟩ := ho_ya; clear hx_ya
    clear hb
    obtain ⟨cs2_0, cs2_1, cs2_2, cs2_3, fs2_0, fs2_1, fs2_2, fs2_3⟩ := box4 Xs_2.out; have ls2 := heap_lt Xs_2.out
    have S2 : w.heap.size ≤ w2.heap.size := by omega
    go_wp2_with (fail)
    refine (sFinishOnceO _ cs y0 y1 r y b1 _ ((Os_2.out.alloc _).row) HR.out).mono ?_
    rintro e w3 ⟨vt, vb, rfl, ho_t, ho_yb, hb⟩
    have B3 := Lib.hid (Below.trans (Below.alloc B2.out (by first | omega | (simp only [szA, szS, szD, World.heap_drewN] at * <;> omega)) _) (hb.mono (by first | omega | (simp only [szA, szS, szD, World.heap_drewN] at * <;> omega))) : Below w.heap.size w w3)
    have Z3 := hb.size
    have N3 : w2.heap.size + 1 ≤ w3.heap.size := (by first | exact Z3 | (simp only [szA, szS, szD] at Z3; omega))
    clear Z3
    have Xs_3 := Lib.hid (below_at hb (heap_up Xs_2.out))
    have Xx_3 : Hid (w3.heap[w2.heap.size]? = some (.cells #[.int .i64 r.state, .int .i64 r.owner, .int .i64 r.value, .slice ax3 r.waits.length px3] 25 (0, 0))) := below_at hb (heap_at' (n := w2.heap.size) (by first | omega | (simp only [szA, szS, szD, World.heap_drewN] at * <;> omega)))
    have Os_3 := Lib.hid ((Os_2.out.alloc _).kept hb)
    have Ox_3 := Lib.hid ((Ox_2.out.alloc _).kept hb)
    have Oya_3 := Lib.hid ((Oya_2.out.alloc _).kept hb)
    have Ot_3 := Lib.hid (ho_t.mono (lo' := w.heap.size) (by first | omega | (simp only [szA, szS, szD, World.heap_drewN] at * <;> omega)) (Nat.le_refl _)); obtain ⟨at3, pt3, rfl, hx_t⟩ := ho_t; clear hx_t
    have Oyb_3 := Lib.hid (Own.mono (base' := w.heap.size) ho_yb.own (by first | omega | (simp only [szA, szS, szD, World.heap_drewN] at * <;> omega))); obtain ⟨ayb, pyb, rfl, hx_yb⟩ := ho_yb; clear hx_yb
    clear hb
    obtain ⟨cs3_0, cs3_1, cs3_2, cs3_3, fs3_0, fs3_1, fs3_2, fs3_3⟩ := box4 Xs_3.out; have ls3 := heap_lt Xs_3.out
    obtain ⟨cx3_0, cx3_1, cx3_2, cx3_3, fx3_0, fx3_1, fx3_2, fx3_3⟩ := box4 Xx_3.out; have lx3 := heap_lt Xx_3.out
    have S3 : w.heap.size ≤ w3.heap.size := by omega
    clear cs2_0 cs2_1 cs2_2 cs2_3 fs2_0 fs2_1 fs2_2 fs2_3
    go_wp2_with (fail)
    refine (OnceSameO _ _ r r _ ((Ox_3.out.alloc _).row) ((Ot_3.out.alloc _).row)).mono ?_
    rw [decide_eq_true rfl]
    rintro e w4 ⟨rfl, hb⟩
    have B4 := Lib.hid (Below.trans (Below.alloc B3.out (by first | omega | (simp only [szA, szS, szD, World.heap_drewN] at * <;> omega)) _) (hb.mono (by first | omega | (simp only [szA, szS, szD, World.heap_drewN] at * <;> omega))) : Below w.heap.size w w4)
    have Z4 := hb.size
    have N4 : w3.heap.size + 1 ≤ w4.heap.size := (by first | exact Z4 | (simp only [szA, szS, szD] at Z4; omega))
    clear Z4
    have Xs_4 := Lib.hid (below_at hb (heap_up Xs_3.out))
    have Xx_4 := Lib.hid (below_at hb (heap_up Xx_3.out))
    have Xt_4 : Hid (w4.heap[w3.heap.size]? = some (.cells #[.int .i64 r.state, .int .i64 r.owner, .int .i64 r.value, .slice at3 r.waits.length pt3] 25 (0, 0))) := below_at hb (heap_at' (n := w3.heap.size) (by first | omega | (simp only [szA, szS, szD, World.heap_drewN] at * <;> omega)))
    have Os_4 := Lib.hid ((Os_3.out.alloc _).kept hb)
    have Ox_4 := Lib.hid ((Ox_3.out.alloc _).kept hb)
    have Oya_4 := Lib.hid ((Oya_3.out.alloc _).kept hb)
    have Ot_4 := Lib.hid ((Ot_3.out.alloc _).kept hb)
    have Oyb_4 := Lib.hid ((Oyb_3.out.alloc _).kept hb)
    clear hb
    obtain ⟨cs4_0, cs4_1, cs4_2, cs4_3, fs4_0, fs4_1, fs4_2, fs4_3⟩ := box4 Xs_4.out; have ls4 := heap_lt Xs_4.out
    obtain ⟨cx4_0, cx4_1, cx4_2, cx4_3, fx4_0, fx4_1, fx4_2, fx4_3⟩ := box4 Xx_4.out; have lx4 := heap_lt Xx_4.out
    obtain ⟨ct4_0, ct4_1, ct4_2, ct4_3, ft4_0, ft4_1, ft4_2, ft4_3⟩ := box4 Xt_4.out; have lt4 := heap_lt Xt_4.out
    have S4 : w.heap.size ≤ w4.heap.size := by omega
    clear cs3_0 cs3_1 cs3_2 cs3_3 fs3_0 fs3_1 fs3_2 fs3_3 cx3_0 cx3_1 cx3_2 cx3_3 fx3_0 fx3_1 fx3_2 fx3_3
    go_wp2_with (fail)
    refine (wkInts_calls _ _ y y _ (Oya_4.out.row encI_len) (Oyb_4.out.row encI_len)).mono ?_
    rw [decide_eq_true rfl]
    rintro e w5 ⟨rfl, hb⟩
    have B5 := Lib.hid (Below.trans B4.out (hb.mono (by first | omega | (simp only [szA, szS, szD, World.heap_drewN] at * <;> omega))) : Below w.heap.size w w5)
    have Z5 := hb.size
    have N5 : w4.heap.size ≤ w5.heap.size := (by first | exact Z5 | (simp only [szA, szS, szD] at Z5; omega))
    clear Z5
    have Xs_5 := Lib.hid (below_at hb Xs_4.out)
    have Xx_5 := Lib.hid (below_at hb Xx_4.out)
    have Xt_5 := Lib.hid (below_at hb Xt_4.out)
    have Os_5 := Lib.hid (Os_4.out.kept hb)
    have Ox_5 := Lib.hid (Ox_4.out.kept hb)
    have Oya_5 := Lib.hid (Oya_4.out.kept hb)
    have Ot_5 := Lib.hid (Ot_4.out.kept hb)
    have Oyb_5 := Lib.hid (Oyb_4.out.kept hb)
    clear hb
    obtain ⟨cs5_0, cs5_1, cs5_2, cs5_3, fs5_0, fs5_1, fs5_2, fs5_3⟩ := box4 Xs_5.out; have ls5 := heap_lt Xs_5.out
    obtain ⟨cx5_0, cx5_1, cx5_2, cx5_3, fx5_0, fx5_1, fx5_2, fx5_3⟩ := box4 Xx_5.out; have lx5 := heap_lt Xx_5.out
    obtain ⟨ct5_0, ct5_1, ct5_2, ct5_3, ft5_0, ft5_1, ft5_2, ft5_3⟩ := box4 Xt_5.out; have lt5 := heap_lt Xt_5.out
    have S5 : w.heap.size ≤ w5.heap.size := by omega
    clear cs4_0 cs4_1 cs4_2 cs4_3 fs4_0 fs4_1 fs4_2 fs4_3 cx4_0 cx4_1 cx4_2 cx4_3 fx4_0 fx4_1 fx4_2 fx4_3 ct4_0 ct4_1 ct4_2 ct4_3 ft4_0 ft4_1 ft4_2 ft4_3
    cases b1
    · go_wp2_with (fail)
      refine (OnceSameO _ _ r r _ (Ox_5.out.row) (Ot_5.out.row)).mono ?_
      rw [decide_eq_true rfl]
      rintro e w6 ⟨rfl, hb⟩
      have B6 := Lib.hid (Below.trans B5.out (hb.mono (by first | omega | (simp only [szA, szS, szD, World.heap_drewN] at * <;> omega))) : Below w.heap.size w w6)
      have Z6 := hb.size
      have N6 : w5.heap.size ≤ w6.heap.size := (by first | exact Z6 | (simp only [szA, szS, szD] at Z6; omega))
      clear Z6
      have Xs_6 := Lib.hid (below_at hb Xs_5.out)
      have Xx_6 := Lib.hid (below_at hb Xx_5.out)
      have Xt_6 := Lib.hid (below_at hb Xt_5.out)
      have Os_6 := Lib.hid (Os_5.out.kept hb)
      have Ox_6 := Lib.hid (Ox_5.out.kept hb)
      have Oya_6 := Lib.hid (Oya_5.out.kept hb)
      have Ot_6 := Lib.hid (Ot_5.out.kept hb)
      have Oyb_6 := Lib.hid (Oyb_5.out.kept hb)
      clear hb
      obtain ⟨cs6_0, cs6_1, cs6_2, cs6_3, fs6_0, fs6_1, fs6_2, fs6_3⟩ := box4 Xs_6.out; have ls6 := heap_lt Xs_6.out
      obtain ⟨cx6_0, cx6_1, cx6_2, cx6_3, fx6_0, fx6_1, fx6_2, fx6_3⟩ := box4 Xx_6.out; have lx6 := heap_lt Xx_6.out
      obtain ⟨ct6_0, ct6_1, ct6_2, ct6_3, ft6_0, ft6_1, ft6_2, ft6_3⟩ := box4 Xt_6.out; have lt6 := heap_lt Xt_6.out
      have S6 : w.heap.size ≤ w6.heap.size := by omega
      clear cs5_0 cs5_1 cs5_2 cs5_3 fs5_0 fs5_1 fs5_2 fs5_3 cx5_0 cx5_1 cx5_2 cx5_3 fx5_0 fx5_1 fx5_2 fx5_3 ct5_0 ct5_1 ct5_2 ct5_3 ft5_0 ft5_1 ft5_2 ft5_3
      go_wp2_with (fail)
      refine (wkInts_calls _ _ y y _ (Oya_6.out.row encI_len) (Oyb_6.out.row encI_len)).mono ?_
      rw [decide_eq_true rfl]
      rintro e w7 ⟨rfl, hb⟩
      have B7 := Lib.hid (Below.trans B6.out (hb.mono (by first | omega | (simp only [szA, szS, szD, World.heap_drewN] at * <;> omega))) : Below w.heap.size w w7)
      have Z7 := hb.size
      have N7 : w6.heap.size ≤ w7.heap.size := (by first | exact Z7 | (simp only [szA, szS, szD] at Z7; omega))
      clear Z7
      have Xs_7 := Lib.hid (below_at hb Xs_6.out)
      have Xx_7 := Lib.hid (below_at hb Xx_6.out)
      have Xt_7 := Lib.hid (below_at hb Xt_6.out)
      have Os_7 := Lib.hid (Os_6.out.kept hb)
      have Ox_7 := Lib.hid (Ox_6.out.kept hb)
      have Oya_7 := Lib.hid (Oya_6.out.kept hb)
      have Ot_7 := Lib.hid (Ot_6.out.kept hb)
      have Oyb_7 := Lib.hid (Oyb_6.out.kept hb)
      clear hb
      obtain ⟨cs7_0, cs7_1, cs7_2, cs7_3, fs7_0, fs7_1, fs7_2, fs7_3⟩ := box4 Xs_7.out; have ls7 := heap_lt Xs_7.out
      obtain ⟨cx7_0, cx7_1, cx7_2, cx7_3, fx7_0, fx7_1, fx7_2, fx7_3⟩ := box4 Xx_7.out; have lx7 := heap_lt Xx_7.out
      obtain ⟨ct7_0, ct7_1, ct7_2, ct7_3, ft7_0, ft7_1, ft7_2, ft7_3⟩ := box4 Xt_7.out; have lt7 := heap_lt Xt_7.out
      have S7 : w.heap.size ≤ w7.heap.size := by omega
      clear cs6_0 cs6_1 cs6_2 cs6_3 fs6_0 fs6_1 fs6_2 fs6_3 cx6_0 cx6_1 cx6_2 cx6_3 fx6_0 fx6_1 fx6_2 fx6_3 ct6_0 ct6_1 ct6_2 ct6_3 ft6_0 ft6_1 ft6_2 ft6_3
      go_wp2_with (fail)
      go_ret
      exact ⟨rfl, B7.out⟩
    · have HF := Lib.hid (finish_got HR.out)
      have HV := Lib.hid HF.out.1; have HY := Lib.hid HF.out.2.2.2; have HX := Lib.hid HF.out.2.2.1; have hst := HF.out.2.1; have HS := Lib.hid hst; clear hst
      go_wp2_with (fail)
      go_loopw [12] (fun v wr => ∃ (k : Nat), k ≤ 6 ∧ v = .int .i64 k ∧ Below w5.heap.size w5 wr) (fun v _ => 6 - (intOf v).toNat)
      case atStart => exact ⟨0, by omega, rfl, Below.refl _ _⟩
      case round =>
        obtain ⟨w20, rfl⟩ : ∃ x : World, x = wr := ⟨_, rfl⟩
        obtain ⟨k, hk, rfl, hb⟩ := hrel
        have B20 := Lib.hid (Below.trans B5.out (hb.mono (by omega)) : Below w.heap.size w w20); have S20 : w.heap.size ≤ w20.heap.size := B20.out.size; have SB20 : w5.heap.size ≤ w20.heap.size := hb.size; have HB_20 := Lib.hid hb; clear hb
        have Xs_20 := Lib.hid (below_at HB_20.out Xs_5.out)
        have Xx_20 := Lib.hid (below_at HB_20.out Xx_5.out)
        have Xt_20 := Lib.hid (below_at HB_20.out Xt_5.out)
        have Os_20 := Lib.hid (Os_5.out.kept HB_20.out)
        have Ox_20 := Lib.hid (Ox_5.out.kept HB_20.out)
        have Oya_20 := Lib.hid (Oya_5.out.kept HB_20.out)
        have Ot_20 := Lib.hid (Ot_5.out.kept HB_20.out)
        have Oyb_20 := Lib.hid (Oyb_5.out.kept HB_20.out)
        obtain ⟨cs20_0, cs20_1, cs20_2, cs20_3, fs20_0, fs20_1, fs20_2, fs20_3⟩ := box4 Xs_20.out; have ls20 := heap_lt Xs_20.out
        obtain ⟨cx20_0, cx20_1, cx20_2, cx20_3, fx20_0, fx20_1, fx20_2, fx20_3⟩ := box4 Xx_20.out; have lx20 := heap_lt Xx_20.out
        obtain ⟨ct20_0, ct20_1, ct20_2, ct20_3, ft20_0, ft20_1, ft20_2, ft20_3⟩ := box4 Xt_20.out; have lt20 := heap_lt Xt_20.out
        by_cases hk6 : k < 6
        · have HE := Lib.hid (enter_done HV.out HS.out (thr_nat hk6))
          go_wp2_with (fail)
          refine (EnterOnceO _ r (k : Int) r 2 true _ (Ox_20.out.row) HE.out).mono ?_
          rintro e w21 ⟨vn, rfl, ho_n, hb⟩
          have B21 := Lib.hid (Below.trans B20.out (hb.mono (by first | omega | (simp only [szA, szS, szD, World.heap_drewN] at * <;> omega))) : Below w.heap.size w w21)
          have HB_21 := Lib.hid (Below.trans HB_20.out (hb.mono (by first | omega | (simp only [szA, szS, szD, World.heap_drewN] at * <;> omega))) : Below w5.heap.size w5 w21)
          have Z21 := hb.size
          have N21 : w20.heap.size ≤ w21.heap.size := (by first | exact Z21 | (simp only [szA, szS, szD] at Z21; omega))
          clear Z21
          have Xs_21 := Lib.hid (below_at hb Xs_20.out)
          have Xx_21 := Lib.hid (below_at hb Xx_20.out)
          have Xt_21 := Lib.hid (below_at hb Xt_20.out)
          have Os_21 := Lib.hid (Os_20.out.kept hb)
          have Ox_21 := Lib.hid (Ox_20.out.kept hb)
          have Oya_21 := Lib.hid (Oya_20.out.kept hb)
          have Ot_21 := Lib.hid (Ot_20.out.kept hb)
          have Oyb_21 := Lib.hid (Oyb_20.out.kept hb)
          have On_21 := Lib.hid (ho_n.mono (lo' := w.heap.size) (by first | omega | (simp only [szA, szS, szD, World.heap_drewN] at * <;> omega)) (Nat.le_refl _)); obtain ⟨an3, pn3, rfl, hx_n⟩ := ho_n; clear hx_n
          clear hb
          obtain ⟨cs21_0, cs21_1, cs21_2, cs21_3, fs21_0, fs21_1, fs21_2, fs21_3⟩ := box4 Xs_21.out; have ls21 := heap_lt Xs_21.out
          obtain ⟨cx21_0, cx21_1, cx21_2, cx21_3, fx21_0, fx21_1, fx21_2, fx21_3⟩ := box4 Xx_21.out; have lx21 := heap_lt Xx_21.out
          obtain ⟨ct21_0, ct21_1, ct21_2, ct21_3, ft21_0, ft21_1, ft21_2, ft21_3⟩ := box4 Xt_21.out; have lt21 := heap_lt Xt_21.out
          have S21 : w.heap.size ≤ w21.heap.size := by omega
          go_wp2_with (fail)
          refine (OnceSameO _ _ r r _ ((On_21.out.alloc _).row) ((Ox_21.out.alloc _).row)).mono ?_
          rw [decide_eq_true rfl]
          rintro e w22 ⟨rfl, hb⟩
          have B22 := Lib.hid (Below.trans (Below.alloc B21.out (by first | omega | (simp only [szA, szS, szD, World.heap_drewN] at * <;> omega)) _) (hb.mono (by first | omega | (simp only [szA, szS, szD, World.heap_drewN] at * <;> omega))) : Below w.heap.size w w22)
          have HB_22 := Lib.hid (Below.trans (Below.alloc HB_21.out (by first | omega | (simp only [szA, szS, szD, World.heap_drewN] at * <;> omega)) _) (hb.mono (by first | omega | (simp only [szA, szS, szD, World.heap_drewN] at * <;> omega))) : Below w5.heap.size w5 w22)
          have Z22 := hb.size
          have N22 : w21.heap.size + 1 ≤ w22.heap.size := (by first | exact Z22 | (simp only [szA, szS, szD] at Z22; omega))
          clear Z22
          have Xs_22 := Lib.hid (below_at hb (heap_up Xs_21.out))
          have Xx_22 := Lib.hid (below_at hb (heap_up Xx_21.out))
          have Xt_22 := Lib.hid (below_at hb (heap_up Xt_21.out))
          have Xn_22 : Hid (w22.heap[w21.heap.size]? = some (.cells #[.int .i64 r.state, .int .i64 r.owner, .int .i64 r.value, .slice an3 r.waits.length pn3] 25 (0, 0))) := below_at hb (heap_at' (n := w21.heap.size) (by first | omega | (simp only [szA, szS, szD, World.heap_drewN] at * <;> omega)))
          have Os_22 := Lib.hid ((Os_21.out.alloc _).kept hb)
          have Ox_22 := Lib.hid ((Ox_21.out.alloc _).kept hb)
          have Oya_22 := Lib.hid ((Oya_21.out.alloc _).kept hb)
          have Ot_22 := Lib.hid ((Ot_21.out.alloc _).kept hb)
          have Oyb_22 := Lib.hid ((Oyb_21.out.alloc _).kept hb)
          have On_22 := Lib.hid ((On_21.out.alloc _).kept hb)
          clear hb
          obtain ⟨cs22_0, cs22_1, cs22_2, cs22_3, fs22_0, fs22_1, fs22_2, fs22_3⟩ := box4 Xs_22.out; have ls22 := heap_lt Xs_22.out
          obtain ⟨cx22_0, cx22_1, cx22_2, cx22_3, fx22_0, fx22_1, fx22_2, fx22_3⟩ := box4 Xx_22.out; have lx22 := heap_lt Xx_22.out
          obtain ⟨ct22_0, ct22_1, ct22_2, ct22_3, ft22_0, ft22_1, ft22_2, ft22_3⟩ := box4 Xt_22.out; have lt22 := heap_lt Xt_22.out
          obtain ⟨cn22_0, cn22_1, cn22_2, cn22_3, fn22_0, fn22_1, fn22_2, fn22_3⟩ := box4 Xn_22.out; have ln22 := heap_lt Xn_22.out
          have S22 : w.heap.size ≤ w22.heap.size := by omega
          clear cs21_0 cs21_1 cs21_2 cs21_3 fs21_0 fs21_1 fs21_2 fs21_3 cx21_0 cx21_1 cx21_2 cx21_3 fx21_0 fx21_1 fx21_2 fx21_3 ct21_0 ct21_1 ct21_2 ct21_3 ft21_0 ft21_1 ft21_2 ft21_3
          go_wp2_with (fail)
          go_roundw
          case rel => exact ⟨k + 1, by omega, by go_num, HB_22.out⟩
          case measure => simp [intOf]; omega
        · have HN := Lib.hid (finish_again HS.out y0 y1)
          have d1 : (r.value == y1) = true := beq_iff_eq.2 HX.out
          go_wp2_with (fail)
          refine (FinishOnceO _ r y0 y1 OnceD.zero [] false _ (Ox_20.out.row) HN.out).mono ?_
          rintro e w21 ⟨vz, vc, rfl, ho_z, ho_yc, hb⟩
          have B21 := Lib.hid (Below.trans B20.out (hb.mono (by first | omega | (simp only [szA, szS, szD, World.heap_drewN] at * <;> omega))) : Below w.heap.size w w21)
          have HB_21 := Lib.hid (Below.trans HB_20.out (hb.mono (by first | omega | (simp only [szA, szS, szD, World.heap_drewN] at * <;> omega))) : Below w5.heap.size w5 w21)
          have Z21 := hb.size
          have N21 : w20.heap.size ≤ w21.heap.size := (by first | exact Z21 | (simp only [szA, szS, szD] at Z21; omega))
          clear Z21
          have Xs_21 := Lib.hid (below_at hb Xs_20.out)
          have Xx_21 := Lib.hid (below_at hb Xx_20.out)
          have Xt_21 := Lib.hid (below_at hb Xt_20.out)
          have Os_21 := Lib.hid (Os_20.out.kept hb)
          have Ox_21 := Lib.hid (Ox_20.out.kept hb)
          have Oya_21 := Lib.hid (Oya_20.out.kept hb)
          have Ot_21 := Lib.hid (Ot_20.out.kept hb)
          have Oyb_21 := Lib.hid (Oyb_20.out.kept hb)
          have Oz_21 := Lib.hid (ho_z.mono (lo' := w.heap.size) (by first | omega | (simp only [szA, szS, szD, World.heap_drewN] at * <;> omega)) (Nat.le_refl _)); obtain ⟨az3, pz3, rfl, hx_z⟩ := ho_z; clear hx_z
          have Oyc_21 := Lib.hid (Own.mono (base' := w.heap.size) ho_yc.own (by first | omega | (simp only [szA, szS, szD, World.heap_drewN] at * <;> omega))); obtain ⟨ayc, pyc, rfl, hx_yc⟩ := ho_yc; clear hx_yc
          clear hb
          obtain ⟨cs21_0, cs21_1, cs21_2, cs21_3, fs21_0, fs21_1, fs21_2, fs21_3⟩ := box4 Xs_21.out; have ls21 := heap_lt Xs_21.out
          obtain ⟨cx21_0, cx21_1, cx21_2, cx21_3, fx21_0, fx21_1, fx21_2, fx21_3⟩ := box4 Xx_21.out; have lx21 := heap_lt Xx_21.out
          obtain ⟨ct21_0, ct21_1, ct21_2, ct21_3, ft21_0, ft21_1, ft21_2, ft21_3⟩ := box4 Xt_21.out; have lt21 := heap_lt Xt_21.out
          have S21 : w.heap.size ≤ w21.heap.size := by omega
          go_wp2_with (fail)
          refine (OnceValid_calls _ r _ ((Ox_21.out.alloc _).row)).mono ?_
          rw [HV.out]
          rintro e w22 ⟨rfl, hb⟩
          have B22 := Lib.hid (Below.trans (Below.alloc B21.out (by first | omega | (simp only [szA, szS, szD, World.heap_drewN] at * <;> omega)) _) (hb.mono (by first | omega | (simp only [szA, szS, szD, World.heap_drewN] at * <;> omega))) : Below w.heap.size w w22)
          have HB_22 := Lib.hid (Below.trans (Below.alloc HB_21.out (by first | omega | (simp only [szA, szS, szD, World.heap_drewN] at * <;> omega)) _) (hb.mono (by first | omega | (simp only [szA, szS, szD, World.heap_drewN] at * <;> omega))) : Below w5.heap.size w5 w22)
          have Z22 := hb.size
          have N22 : w21.heap.size + 1 ≤ w22.heap.size := (by first | exact Z22 | (simp only [szA, szS, szD] at Z22; omega))
          clear Z22
          have Xs_22 := Lib.hid (below_at hb (heap_up Xs_21.out))
          have Xx_22 := Lib.hid (below_at hb (heap_up Xx_21.out))
          have Xt_22 := Lib.hid (below_at hb (heap_up Xt_21.out))
          have Xz_22 : Hid (w22.heap[w21.heap.size]? = some (.cells #[.int .i64 OnceD.zero.state, .int .i64 OnceD.zero.owner, .int .i64 OnceD.zero.value, .slice az3 OnceD.zero.waits.length pz3] 25 (0, 0))) := below_at hb (heap_at' (n := w21.heap.size) (by first | omega | (simp only [szA, szS, szD, World.heap_drewN] at * <;> omega)))
          have Os_22 := Lib.hid ((Os_21.out.alloc _).kept hb)
          have Ox_22 := Lib.hid ((Ox_21.out.alloc _).kept hb)
          have Oya_22 := Lib.hid ((Oya_21.out.alloc _).kept hb)
          have Ot_22 := Lib.hid ((Ot_21.out.alloc _).kept hb)
          have Oyb_22 := Lib.hid ((Oyb_21.out.alloc _).kept hb)
          have Oz_22 := Lib.hid ((Oz_21.out.alloc _).kept hb)
          have Oyc_22 := Lib.hid ((Oyc_21.out.alloc _).kept hb)
          clear hb
          obtain ⟨cs22_0, cs22_1, cs22_2, cs22_3, fs22_0, fs22_1, fs22_2, fs22_3⟩ := box4 Xs_22.out; have ls22 := heap_lt Xs_22.out
          obtain ⟨cx22_0, cx22_1, cx22_2, cx22_3, fx22_0, fx22_1, fx22_2, fx22_3⟩ := box4 Xx_22.out; have lx22 := heap_lt Xx_22.out
          obtain ⟨ct22_0, ct22_1, ct22_2, ct22_3, ft22_0, ft22_1, ft22_2, ft22_3⟩ := box4 Xt_22.out; have lt22 := heap_lt Xt_22.out
          obtain ⟨cz22_0, cz22_1, cz22_2, cz22_3, fz22_0, fz22_1, fz22_2, fz22_3⟩ := box4 Xz_22.out; have lz22 := heap_lt Xz_22.out
          have S22 : w.heap.size ≤ w22.heap.size := by omega
          clear cs21_0 cs21_1 cs21_2 cs21_3 fs21_0 fs21_1 fs21_2 fs21_3 cx21_0 cx21_1 cx21_2 cx21_3 fx21_0 fx21_1 fx21_2 fx21_3 ct21_0 ct21_1 ct21_2 ct21_3 ft21_0 ft21_1 ft21_2 ft21_3
          go_wp2_with (fail)
          refine (wkInts_calls _ _ y cs.waits _ (Oya_22.out.row encI_len) (OnceRow.at1 (Os_22.out.row))).mono ?_
          rw [decide_eq_true HY.out]
          rintro e w23 ⟨rfl, hb⟩
          have B23 := Lib.hid (Below.trans B22.out (hb.mono (by first | omega | (simp only [szA, szS, szD, World.heap_drewN] at * <;> omega))) : Below w.heap.size w w23)
          have HB_23 := Lib.hid (Below.trans HB_22.out (hb.mono (by first | omega | (simp only [szA, szS, szD, World.heap_drewN] at * <;> omega))) : Below w5.heap.size w5 w23)
          have Z23 := hb.size
          have N23 : w22.heap.size ≤ w23.heap.size := (by first | exact Z23 | (simp only [szA, szS, szD] at Z23; omega))
          clear Z23
          have Xs_23 := Lib.hid (below_at hb Xs_22.out)
          have Xx_23 := Lib.hid (below_at hb Xx_22.out)
          have Xt_23 := Lib.hid (below_at hb Xt_22.out)
          have Xz_23 := Lib.hid (below_at hb Xz_22.out)
          have Os_23 := Lib.hid (Os_22.out.kept hb)
          have Ox_23 := Lib.hid (Ox_22.out.kept hb)
          have Oya_23 := Lib.hid (Oya_22.out.kept hb)
          have Ot_23 := Lib.hid (Ot_22.out.kept hb)
          have Oyb_23 := Lib.hid (Oyb_22.out.kept hb)
          have Oz_23 := Lib.hid (Oz_22.out.kept hb)
          have Oyc_23 := Lib.hid (Oyc_22.out.kept hb)
          clear hb
          obtain ⟨cs23_0, cs23_1, cs23_2, cs23_3, fs23_0, fs23_1, fs23_2, fs23_3⟩ := box4 Xs_23.out; have ls23 := heap_lt Xs_23.out
          obtain ⟨cx23_0, cx23_1, cx23_2, cx23_3, fx23_0, fx23_1, fx23_2, fx23_3⟩ := box4 Xx_23.out; have lx23 := heap_lt Xx_23.out
          obtain ⟨ct23_0, ct23_1, ct23_2, ct23_3, ft23_0, ft23_1, ft23_2, ft23_3⟩ := box4 Xt_23.out; have lt23 := heap_lt Xt_23.out
          obtain ⟨cz23_0, cz23_1, cz23_2, cz23_3, fz23_0, fz23_1, fz23_2, fz23_3⟩ := box4 Xz_23.out; have lz23 := heap_lt Xz_23.out
          have S23 : w.heap.size ≤ w23.heap.size := by omega
          clear cs22_0 cs22_1 cs22_2 cs22_3 fs22_0 fs22_1 fs22_2 fs22_3 cx22_0 cx22_1 cx22_2 cx22_3 fx22_0 fx22_1 fx22_2 fx22_3 ct22_0 ct22_1 ct22_2 ct22_3 ft22_0 ft22_1 ft22_2 ft22_3 cz22_0 cz22_1 cz22_2 cz22_3 fz22_0 fz22_1 fz22_2 fz22_3
          go_wp2_with (fail)
          go_ret
          exact ⟨rfl, B23.out⟩

  · go_enter Try.func7, Try.ntmps7
    go_wp2
    go_ret
    exact ⟨rfl, Below.refl _ _⟩
end Go.Proofs.Ytmmkbiljjhigfaa
