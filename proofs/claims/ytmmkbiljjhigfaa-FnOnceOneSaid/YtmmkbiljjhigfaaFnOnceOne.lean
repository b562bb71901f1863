/- FnOnceOne: the law's walk (made by gen_oncelaws.py). -/
import Derived.Test.YtmmkbiljjhigfaaDrawsOnce
import Derived.Test.YtmmkbiljjhigfaaLawOnce
namespace Go.Proofs.Ytmmkbiljjhigfaa
open Go.RowKit
set_option linter.unusedSimpArgs false
set_option linter.unusedVariables false
set_option maxHeartbeats 8000000 in
theorem FnOnceOne_calls (v : Value) (bs : List Int) (w : World) (h : Row 1 encB w v bs) (hbs : ∀ x ∈ bs, 0 ≤ x ∧ x ≤ 255) :
    Calls Try.prog 4 #[v] w fun e w' => e = .returned (.bool true) ∧ Below w.heap.size w w' := by
  have HB := Lib.hid hbs; clear hbs
  have H0 := Lib.hid h
  obtain ⟨a, c, rfl, l1, l2, l3⟩ := h
  clear l3
  by_cases hl : bs.length ≤ 1048576
  · go_enter Try.func4, Try.ntmps4
    go_wp2_with (fail)
    refine (DrawEnterOnce_calls _ bs _ (Row.below H0.out (Below.refl _ _)) HB.out).mono ?_
    rintro e w1 ⟨vs, cs, y0, rfl, ho_s, hfs, ⟨hy00, hy01⟩, hb⟩
    have B1 := Lib.hid (Below.trans (Below.refl _ _) (hb.mono (by first | omega | (simp only [szA, szS, szD, World.heap_drewN] at * <;> omega))) : Below w.heap.size w w1)
    have Z1 := hb.size
    have N1 : w.heap.size ≤ w1.heap.size := (by first | exact Z1 | (simp only [szA, szS, szD] at Z1; omega))
    clear Z1
    have Os_1 := Lib.hid (ho_s.mono (lo' := w.heap.size) (by first | omega | (simp only [szA, szS, szD, World.heap_drewN] at * <;> omega)) (Nat.le_refl _)); obtain ⟨as3, ps3, rfl, hx_s⟩ := ho_s; clear hx_s
    clear hb
    have S1 : w.heap.size ≤ w1.heap.size := by omega
    obtain ⟨r, st, b1, hr⟩ : ∃ r st b1, enter cs y0 = (r, st, b1) := ⟨_, _, _, rfl⟩
    have HR := Lib.hid hr; clear hr
    go_wp2_with (fail)
    refine (EnterOnceO _ cs y0 r st b1 _ ((Os_1.out.alloc _).row) HR.out).mono ?_
    rintro e w2 ⟨vx, rfl, ho_x, hb⟩
    have B2 := Lib.hid (Below.trans (Below.alloc B1.out (by first | omega | (simp only [szA, szS, szD, World.heap_drewN] at * <;> omega)) _) (hb.mono (by first | omega | (simp only [szA, szS, szD, World.heap_drewN] at * <;> omega))) : Below w.heap.size w w2)
    have Z2 := hb.size
    have N2 : w1.heap.size + 1 ≤ w2.heap.size := (by first | exact Z2 | (simp only [szA, szS, szD] at Z2; omega))
    clear Z2
    have Xs_2 : Hid (w2.heap[w1.heap.size]? = some (.cells #[.int .i64 cs.state, .int .i64 cs.owner, .int .i64 cs.value, .slice as3 cs.waits.length ps3] 25 (0, 0))) := below_at hb (heap_at' (n := w1.heap.size) (by first | omega | (simp only [szA, szS, szD, World.heap_drewN] at * <;> omega)))
    have Os_2 := Lib.hid ((Os_1.out.alloc _).kept hb)
    have Ox_2 := Lib.hid (ho_x.mono (lo' := w.heap.size) (by first | omega | (simp only [szA, szS, szD, World.heap_drewN] at * <;> omega)) (Nat.le_refl _)); obtain ⟨ax3, px3, rfl, hx_x⟩ := ho_x; clear hx_x
    clear hb
    obtain ⟨cs2_0, cs2_1, cs2_2, cs2_3, fs2_0, fs2_1, fs2_2, fs2_3⟩ := box4 Xs_2.out; have ls2 := heap_lt Xs_2.out
    have S2 : w.heap.size ≤ w2.heap.size := by omega
    go_wp2_with (fail)
    refine (sEnterOnceO _ cs y0 r st b1 _ ((Os_2.out.alloc _).row) HR.out).mono ?_
    rintro e w3 ⟨vt, rfl, ho_t, hb⟩
    have B3 := Lib.hid (Below.trans (Below.alloc B2.out (by first | omega | (simp only [szA, szS, szD, World.heap_drewN] at * <;> omega)) _) (hb.mono (by first | omega | (simp only [szA, szS, szD, World.heap_drewN] at * <;> omega))) : Below w.heap.size w w3)
    have Z3 := hb.size
    have N3 : w2.heap.size + 1 ≤ w3.heap.size := (by first | exact Z3 | (simp only [szA, szS, szD] at Z3; omega))
    clear Z3
    have Xs_3 := Lib.hid (below_at hb (heap_up Xs_2.out))
    have Xx_3 : Hid (w3.heap[w2.heap.size]? = some (.cells #[.int .i64 r.state, .int .i64 r.owner, .int .i64 r.value, .slice ax3 r.waits.length px3] 25 (0, 0))) := below_at hb (heap_at' (n := w2.heap.size) (by first | omega | (simp only [szA, szS, szD, World.heap_drewN] at * <;> omega)))
    have Os_3 := Lib.hid ((Os_2.out.alloc _).kept hb)
    have Ox_3 := Lib.hid ((Ox_2.out.alloc _).kept hb)
    have Ot_3 := Lib.hid (ho_t.mono (lo' := w.heap.size) (by first | omega | (simp only [szA, szS, szD, World.heap_drewN] at * <;> omega)) (Nat.le_refl _)); obtain ⟨at3, pt3, rfl, hx_t⟩ := ho_t; clear hx_t
    clear hb
    obtain ⟨cs3_0, cs3_1, cs3_2, cs3_3, fs3_0, fs3_1, fs3_2, fs3_3⟩ := box4 Xs_3.out; have ls3 := heap_lt Xs_3.out
    obtain ⟨cx3_0, cx3_1, cx3_2, cx3_3, fx3_0, fx3_1, fx3_2, fx3_3⟩ := box4 Xx_3.out; have lx3 := heap_lt Xx_3.out
    have S3 : w.heap.size ≤ w3.heap.size := by omega
    clear cs2_0 cs2_1 cs2_2 cs2_3 fs2_0 fs2_1 fs2_2 fs2_3
    go_wp2_with (fail)
    refine (OnceSameO _ _ r r _ ((Ox_3.out.alloc _).row) ((Ot_3.out.alloc _).row)).mono ?_
    rw [decide_eq_true rfl]
    rintro e w4 ⟨rfl, hb⟩
    have B4 := Lib.hid (Below.trans (Below.alloc B3.out (by first | omega | (simp only [szA, szS, szD, World.heap_drewN] at * <;> omega)) _) (hb.mono (by first | omega | (simp only [szA, szS, szD, World.heap_drewN] at * <;> omega))) : Below w.heap.size w w4)
    have Z4 := hb.size
    have N4 : w3.heap.size + 1 ≤ w4.heap.size := (by first | exact Z4 | (simp only [szA, szS, szD] at Z4; omega))
    clear Z4
    have Xs_4 := Lib.hid (below_at hb (heap_up Xs_3.out))
    have Xx_4 := Lib.hid (below_at hb (heap_up Xx_3.out))
    have Xt_4 : Hid (w4.heap[w3.heap.size]? = some (.cells #[.int .i64 r.state, .int .i64 r.owner, .int .i64 r.value, .slice at3 r.waits.length pt3] 25 (0, 0))) := below_at hb (heap_at' (n := w3.heap.size) (by first | omega | (simp only [szA, szS, szD, World.heap_drewN] at * <;> omega)))
    have Os_4 := Lib.hid ((Os_3.out.alloc _).kept hb)
    have Ox_4 := Lib.hid ((Ox_3.out.alloc _).kept hb)
    have Ot_4 := Lib.hid ((Ot_3.out.alloc _).kept hb)
    clear hb
    obtain ⟨cs4_0, cs4_1, cs4_2, cs4_3, fs4_0, fs4_1, fs4_2, fs4_3⟩ := box4 Xs_4.out; have ls4 := heap_lt Xs_4.out
    obtain ⟨cx4_0, cx4_1, cx4_2, cx4_3, fx4_0, fx4_1, fx4_2, fx4_3⟩ := box4 Xx_4.out; have lx4 := heap_lt Xx_4.out
    obtain ⟨ct4_0, ct4_1, ct4_2, ct4_3, ft4_0, ft4_1, ft4_2, ft4_3⟩ := box4 Xt_4.out; have lt4 := heap_lt Xt_4.out
    have S4 : w.heap.size ≤ w4.heap.size := by omega
    clear cs3_0 cs3_1 cs3_2 cs3_3 fs3_0 fs3_1 fs3_2 fs3_3 cx3_0 cx3_1 cx3_2 cx3_3 fx3_0 fx3_1 fx3_2 fx3_3
    cases b1
    · go_wp2_with (fail)
      refine (OnceSameO _ _ r r _ (Ox_4.out.row) (Ot_4.out.row)).mono ?_
      rw [decide_eq_true rfl]
      rintro e w5 ⟨rfl, hb⟩
      have B5 := Lib.hid (Below.trans B4.out (hb.mono (by first | omega | (simp only [szA, szS, szD, World.heap_drewN] at * <;> omega))) : Below w.heap.size w w5)
      have Z5 := hb.size
      have N5 : w4.heap.size ≤ w5.heap.size := (by first | exact Z5 | (simp only [szA, szS, szD] at Z5; omega))
      clear Z5
      have Xs_5 := Lib.hid (below_at hb Xs_4.out)
      have Xx_5 := Lib.hid (below_at hb Xx_4.out)
      have Xt_5 := Lib.hid (below_at hb Xt_4.out)
      have Os_5 := Lib.hid (Os_4.out.kept hb)
      have Ox_5 := Lib.hid (Ox_4.out.kept hb)
      have Ot_5 := Lib.hid (Ot_4.out.kept hb)
      clear hb
      obtain ⟨cs5_0, cs5_1, cs5_2, cs5_3, fs5_0, fs5_1, fs5_2, fs5_3⟩ := box4 Xs_5.out; have ls5 := heap_lt Xs_5.out
      obtain ⟨cx5_0, cx5_1, cx5_2, cx5_3, fx5_0, fx5_1, fx5_2, fx5_3⟩ := box4 Xx_5.out; have lx5 := heap_lt Xx_5.out
      obtain ⟨ct5_0, ct5_1, ct5_2, ct5_3, ft5_0, ft5_1, ft5_2, ft5_3⟩ := box4 Xt_5.out; have lt5 := heap_lt Xt_5.out
      have S5 : w.heap.size ≤ w5.heap.size := by omega
      clear cs4_0 cs4_1 cs4_2 cs4_3 fs4_0 fs4_1 fs4_2 fs4_3 cx4_0 cx4_1 cx4_2 cx4_3 fx4_0 fx4_1 fx4_2 fx4_3 ct4_0 ct4_1 ct4_2 ct4_3 ft4_0 ft4_1 ft4_2 ft4_3
      go_wp2_with (fail)
      go_ret
      exact ⟨rfl, B5.out⟩
    · have HT := Lib.hid (enter_thr HR.out)
      obtain ⟨u0, u1⟩ : 0 ≤ y0 ∧ y0 ≤ 5 := (by have := HT.out; omega)
      go_wp2_with (fail)
      go_loopw [11, 13] (fun ow v wr => ∃ (k : Nat) (c : OnceD) (a : Option Addr) (p : Nat), k ≤ 6 ∧ v = .int .i64 k ∧ ow = .int .i64 (if k = 0 then 0 else 1) ∧ c = onceK y0 k ∧ wr.heap[w4.heap.size]? = some (.cells #[.int .i64 c.state, .int .i64 c.owner, .int .i64 c.value, .slice a c.waits.length p] 25 (0, 0)) ∧ OnceOwn w.heap.size wr.heap.size wr (.agg #[.int .i64 c.state, .int .i64 c.owner, .int .i64 c.value, .slice a c.waits.length p]) c ∧ Below w.heap.size w wr) (fun _ v _ => 6 - (intOf v).toNat)
      case atStart => exact ⟨0, OnceD.zero, none, 0, by omega, rfl, rfl, rfl, (heap_at' (n := w4.heap.size) (by first | omega | (simp only [szA, szS, szD, World.heap_drewN] at * <;> omega))), OnceOwn.nils, (Below.alloc B4.out (by first | omega | (simp only [szA, szS, szD, World.heap_drewN] at * <;> omega)) _)⟩
      case round =>
        obtain ⟨w20, rfl⟩ : ∃ x : World, x = wr := ⟨_, rfl⟩
        obtain ⟨k, c, ac3, pc3, hk, rfl, rfl, hc, hx, ho, hb⟩ := hrel
        have Xc_20 := Lib.hid hx; have Oc_20 := Lib.hid ho; have HC := Lib.hid hc; have B20 := Lib.hid hb; have S20 := hb.size; clear hx ho hc hb
        obtain ⟨cc20_0, cc20_1, cc20_2, cc20_3, fc20_0, fc20_1, fc20_2, fc20_3⟩ := box4 Xc_20.out; have lc20 := heap_lt Xc_20.out
        by_cases hk6 : k < 6
        · have hkx : k < 6 := hk6
          have HE := Lib.hid (one_step y0 k u0 u1 hk6)
          rw [← HC.out] at HE
          obtain ⟨r', hr'⟩ : ∃ r', r' = onceK y0 (k + 1) := ⟨_, rfl⟩
          rw [← hr'] at HE
          have HR' := Lib.hid hr'; clear hr'
          by_cases hk0 : k = 0
          · rw [if_pos hk0] at HE
            rw [if_pos hk0]
            clear hk0
            go_wp2_with (fail)
            refine (EnterOnceO _ c (((k : Int) + y0) % 6) r' 0 true _ (Oc_20.out.row) HE.out).mono ?_
            rintro e w21 ⟨vn, rfl, ho_n, hb⟩
            have B21 := Lib.hid (Below.trans B20.out (hb.mono (by first | omega | (simp only [szA, szS, szD, World.heap_drewN] at * <;> omega))) : Below w.heap.size w w21)
            have Z21 := hb.size
            have N21 : w20.heap.size ≤ w21.heap.size := (by first | exact Z21 | (simp only [szA, szS, szD] at Z21; omega))
            clear Z21
            have Xc_21 := Lib.hid (below_at hb Xc_20.out)
            have Oc_21 := Lib.hid (Oc_20.out.kept hb)
            have On_21 := Lib.hid (ho_n.mono (lo' := w.heap.size) (by first | omega | (simp only [szA, szS, szD, World.heap_drewN] at * <;> omega)) (Nat.le_refl _)); obtain ⟨an3, pn3, rfl, hx_n⟩ := ho_n; clear hx_n
            clear hb
            obtain ⟨cc21_0, cc21_1, cc21_2, cc21_3, fc21_0, fc21_1, fc21_2, fc21_3⟩ := box4 Xc_21.out; have lc21 := heap_lt Xc_21.out
            have S21 : w.heap.size ≤ w21.heap.size := by omega
            go_wp2_with (fail)
            go_roundw
            case rel => exact ⟨k + 1, r', _, _, by omega, by go_num, (by first | rfl | (rw [if_neg (by omega)]) | (simp only [if_neg (show ¬ k + 1 = 0 by omega)])), HR'.out, (heap_up (set_at (a := ⟨w4.heap.size, 3, none⟩) (set_at (a := ⟨w4.heap.size, 2, none⟩) (set_at (a := ⟨w4.heap.size, 1, none⟩) (set_at (a := ⟨w4.heap.size, 0, none⟩) Xc_21.out rfl rfl (.int .i64 r'.state)) rfl rfl (.int .i64 r'.owner)) rfl rfl (.int .i64 r'.value)) rfl rfl (.slice an3 r'.waits.length pn3))), (((((On_21.out.setB (w4.heap.size) 0 Xc_21.out (by decide) (.int .i64 r'.state)).setB (w4.heap.size) 1 (set_at (a := ⟨w4.heap.size, 0, none⟩) Xc_21.out rfl rfl (.int .i64 r'.state)) (by decide) (.int .i64 r'.owner)).setB (w4.heap.size) 2 (set_at (a := ⟨w4.heap.size, 1, none⟩) (set_at (a := ⟨w4.heap.size, 0, none⟩) Xc_21.out rfl rfl (.int .i64 r'.state)) rfl rfl (.int .i64 r'.owner)) (by decide) (.int .i64 r'.value)).setB (w4.heap.size) 3 (set_at (a := ⟨w4.heap.size, 2, none⟩) (set_at (a := ⟨w4.heap.size, 1, none⟩) (set_at (a := ⟨w4.heap.size, 0, none⟩) Xc_21.out rfl rfl (.int .i64 r'.state)) rfl rfl (.int .i64 r'.owner)) rfl rfl (.int .i64 r'.value)) (by decide) (.slice an3 r'.waits.length pn3)).alloc _).mono (Nat.le_refl _) (by first | omega | (simp only [szA, szS, szD]; omega)), (Below.alloc (below_setAt (below_setAt (below_setAt (below_setAt B21.out (w4.heap.size) 0 (by first | omega | (simp only [szA, szS, szD, World.heap_drewN] at * <;> omega)) (.int .i64 r'.state)) (w4.heap.size) 1 (by first | omega | (simp only [szA, szS, szD, World.heap_drewN] at * <;> omega)) (.int .i64 r'.owner)) (w4.heap.size) 2 (by first | omega | (simp only [szA, szS, szD, World.heap_drewN] at * <;> omega)) (.int .i64 r'.value)) (w4.heap.size) 3 (by first | omega | (simp only [szA, szS, szD, World.heap_drewN] at * <;> omega)) (.slice an3 r'.waits.length pn3)) (by first | omega | (simp only [szA, szS, szD, World.heap_drewN] at * <;> omega)) _)⟩
            case measure => simp [intOf]; omega
          · rw [if_neg hk0] at HE
            rw [if_neg hk0]
            have hk1 : 0 < k := Nat.pos_of_ne_zero hk0
            clear hk0
            go_wp2_with (fail)
            refine (EnterOnceO _ c (((k : Int) + y0) % 6) r' 1 true _ (Oc_20.out.row) HE.out).mono ?_
            rintro e w21 ⟨vn, rfl, ho_n, hb⟩
            have B21 := Lib.hid (Below.trans B20.out (hb.mono (by first | omega | (simp only [szA, szS, szD, World.heap_drewN] at * <;> omega))) : Below w.heap.size w w21)
            have Z21 := hb.size
            have N21 : w20.heap.size ≤ w21.heap.size := (by first | exact Z21 | (simp only [szA, szS, szD] at Z21; omega))
            clear Z21
            have Xc_21 := Lib.hid (below_at hb Xc_20.out)
            have Oc_21 := Lib.hid (Oc_20.out.kept hb)
            have On_21 := Lib.hid (ho_n.mono (lo' := w.heap.size) (by first | omega | (simp only [szA, szS, szD, World.heap_drewN] at * <;> omega)) (Nat.le_refl _)); obtain ⟨an3, pn3, rfl, hx_n⟩ := ho_n; clear hx_n
            clear hb
            obtain ⟨cc21_0, cc21_1, cc21_2, cc21_3, fc21_0, fc21_1, fc21_2, fc21_3⟩ := box4 Xc_21.out; have lc21 := heap_lt Xc_21.out
            have S21 : w.heap.size ≤ w21.heap.size := by omega
            go_wp2_with (fail)
            go_roundw
            case rel => exact ⟨k + 1, r', _, _, by omega, by go_num, (by first | rfl | (rw [if_neg (by omega)]) | (simp only [if_neg (show ¬ k + 1 = 0 by omega)])), HR'.out, (heap_up (set_at (a := ⟨w4.heap.size, 3, none⟩) (set_at (a := ⟨w4.heap.size, 2, none⟩) (set_at (a := ⟨w4.heap.size, 1, none⟩) (set_at (a := ⟨w4.heap.size, 0, none⟩) Xc_21.out rfl rfl (.int .i64 r'.state)) rfl rfl (.int .i64 r'.owner)) rfl rfl (.int .i64 r'.value)) rfl rfl (.slice an3 r'.waits.length pn3))), (((((On_21.out.setB (w4.heap.size) 0 Xc_21.out (by decide) (.int .i64 r'.state)).setB (w4.heap.size) 1 (set_at (a := ⟨w4.heap.size, 0, none⟩) Xc_21.out rfl rfl (.int .i64 r'.state)) (by decide) (.int .i64 r'.owner)).setB (w4.heap.size) 2 (set_at (a := ⟨w4.heap.size, 1, none⟩) (set_at (a := ⟨w4.heap.size, 0, none⟩) Xc_21.out rfl rfl (.int .i64 r'.state)) rfl rfl (.int .i64 r'.owner)) (by decide) (.int .i64 r'.value)).setB (w4.heap.size) 3 (set_at (a := ⟨w4.heap.size, 2, none⟩) (set_at (a := ⟨w4.heap.size, 1, none⟩) (set_at (a := ⟨w4.heap.size, 0, none⟩) Xc_21.out rfl rfl (.int .i64 r'.state)) rfl rfl (.int .i64 r'.owner)) rfl rfl (.int .i64 r'.value)) (by decide) (.slice an3 r'.waits.length pn3)).alloc _).mono (Nat.le_refl _) (by first | omega | (simp only [szA, szS, szD]; omega)), (Below.alloc (below_setAt (below_setAt (below_setAt (below_setAt B21.out (w4.heap.size) 0 (by first | omega | (simp only [szA, szS, szD, World.heap_drewN] at * <;> omega)) (.int .i64 r'.state)) (w4.heap.size) 1 (by first | omega | (simp only [szA, szS, szD, World.heap_drewN] at * <;> omega)) (.int .i64 r'.owner)) (w4.heap.size) 2 (by first | omega | (simp only [szA, szS, szD, World.heap_drewN] at * <;> omega)) (.int .i64 r'.value)) (w4.heap.size) 3 (by first | omega | (simp only [szA, szS, szD, World.heap_drewN] at * <;> omega)) (.slice an3 r'.waits.length pn3)) (by first | omega | (simp only [szA, szS, szD, World.heap_drewN] at * <;> omega)) _)⟩
            case measure => simp [intOf]; omega
        · obtain rfl : k = 6 := by omega
          have e1 : (c.owner == y0) = true := beq_iff_eq.2 (by rw [HC.out]; rfl)
          have e2 : ((c.waits.length : Int) == 5) = true := by rw [HC.out]; rfl
          have e3 : c.waits.length = 5 := by rw [HC.out]; rfl
          go_wp2
          go_ret
          exact ⟨rfl, B20.out⟩

  · go_enter Try.func4, Try.ntmps4
    go_wp2
    go_ret
    exact ⟨rfl, Below.refl _ _⟩
end Go.Proofs.Ytmmkbiljjhigfaa
