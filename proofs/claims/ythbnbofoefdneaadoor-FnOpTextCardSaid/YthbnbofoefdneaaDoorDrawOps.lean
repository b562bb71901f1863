/- What is drawn for the laws on operations (made by gen_progdraw.py). -/
import Derived.Test.YthbnbofoefdneaaDoorDrawProg
namespace Go.Proofs.YthbnbofoefdneaaDoor
open Go.RowKit
set_option linter.unusedSimpArgs false
set_option linter.unusedVariables false
theorem ProgOwn.any {lo hi hi2 : Nat} {w : World} {v : Value} {c : ProgD} (h : ProgOwn lo hi w v c) : ProgOwn lo hi2 w v c := h
theorem ProgOwn.setLow {lo hi : Nat} {w : World} {v : Value} {c : ProgD} (h : ProgOwn lo hi w v c) (b j : Nat) (hb : b < lo) (u : Value) : ProgOwn lo hi (w.setCell ⟨b, j, none⟩ u) v c := by
  obtain ⟨a0, p0, a1, p1, a2, p2, a3, p3, a4, p4, rfl, h0, h1, h2, h3, h4⟩ := h
  exact ⟨_, _, _, _, _, _, _, _, _, _, rfl, h0.set hb u, h1.set hb u, h2.set hb u, h3.set hb u, h4.set hb u⟩
set_option maxHeartbeats 3200000 in
theorem DrawOpValid_calls (v : Value) (bs : List Int) (w : World) (h : Row 1 encB w v bs) (hbs : ∀ x ∈ bs, 0 ≤ x ∧ x ≤ 255) :
    Calls Tryd.prog 11 #[v] w fun e w' => ∃ v' c' x, e = .returned (.tuple #[v', opv x]) ∧ ProgOwn w.heap.size w'.heap.size w' v' c' ∧ ProgLow c' ∧ opSmall x ∧ Below w.heap.size w w' := by
  have H0 := Lib.hid h; have HBS := Lib.hid hbs; clear h hbs
  go_enter Tryd.func11, Tryd.ntmps11
  go_wp2_with (fail)
  refine (l13Open_calls v bs _ (Row.below H0.out (Below.alloc (Below.alloc (Below.refl _ _) (by first | omega | (simp only [szA, szS, szD, World.heap_drewN] at * <;> omega)) _) (by first | omega | (simp only [szA, szS, szD, World.heap_drewN] at * <;> omega)) _)) HBS.out).mono ?_
  rintro e w1 ⟨rfl, hr, hb⟩
  have B1 := Lib.hid (Below.trans (Below.alloc (Below.alloc (Below.refl _ _) (by first | omega | (simp only [szA, szS, szD, World.heap_drewN] at * <;> omega)) _) (by first | omega | (simp only [szA, szS, szD, World.heap_drewN] at * <;> omega)) _) (hb.mono (by first | omega | (simp only [szA, szS, szD, World.heap_drewN] at * <;> omega))) : Below w.heap.size w w1)
  have Z1 := hb.size
  have N1 : w.heap.size + 2 ≤ w1.heap.size := (by first | with_reducible exact Z1 | (simp only [szA, szS, szD] at Z1; omega))
  clear Z1
  have Xra_1 : Hid (w1.heap[w.heap.size]? = some (.cells #[.slice none 0 0, .slice none 0 0, .slice none 0 0, .slice none 0 0, .slice none 0 0] 34 (0, 0))) := below_at hb (heap_up (heap_at' (n := w.heap.size) (by first | omega | (simp only [szA, szS, szD, World.heap_drewN] at * <;> omega))))
  have Xrb_1 : Hid (w1.heap[w.heap.size + 1]? = some (.cells #[.int .i64 0, .int .i64 0, .int .i64 0] 23 (0, 0))) := below_at hb (heap_at' (n := w.heap.size + 1) (by first | omega | (simp only [szA, szS, szD, World.heap_drewN] at * <;> omega)))
  clear hb
  obtain ⟨cra1_0, cra1_1, cra1_2, cra1_3, cra1_4, fra1_0, fra1_1, fra1_2, fra1_3, fra1_4⟩ := box5 Xra_1.out; have lra1 := heap_lt Xra_1.out
  obtain ⟨crb1_0, crb1_1, crb1_2, frb1_0, frb1_1, frb1_2⟩ := box3 Xrb_1.out; have lrb1 := heap_lt Xrb_1.out
  have S1 : w.heap.size ≤ w1.heap.size := (by omega)
  simp only [szA, szD] at hr
  have A1 := Lib.hid (Dr.start hr); have hlt := hr.lt; clear hr
  have S1 : w1.heap.size ≤ w1.heap.size := Nat.le_refl _
  have SB : w.heap.size ≤ w1.heap.size := by omega
  go_wp2_with (fail)
  refine (l6Draw_calls (w.heap.size + 2) 0 w1 _ A1.out (by omega)).mono ?_
  rintro e w2 ⟨v, c, rfl, ho_d, hfd, hld, hd⟩
  have A2 := Lib.hid (Dr.then A1.out hd)
  have Z2 := hd.size
  have N2 : w1.heap.size ≤ w2.heap.size := (by first | with_reducible exact Z2 | (simp only [szA, szS, szD] at Z2; omega))
  clear Z2
  have Xra_2 := Lib.hid (hd.at_ Xra_1.out (by first | omega | (simp only [szA, szS, szD, World.heap_drewN] at * <;> omega)))
  have Xrb_2 := Lib.hid (hd.at_ Xrb_1.out (by first | omega | (simp only [szA, szS, szD, World.heap_drewN] at * <;> omega)))
  have Od_2 := Lib.hid (ho_d.mono (lo' := w1.heap.size) (by first | omega | (simp only [szA, szS, szD, World.heap_drewN] at * <;> omega)) (Nat.le_refl _)); obtain ⟨ad0, pd0, ad1, pd1, ad2, pd2, ad3, pd3, ad4, pd4, rfl, hx_d⟩ := ho_d; clear hx_d
  clear hd
  obtain ⟨cra2_0, cra2_1, cra2_2, cra2_3, cra2_4, fra2_0, fra2_1, fra2_2, fra2_3, fra2_4⟩ := box5 Xra_2.out; have lra2 := heap_lt Xra_2.out
  obtain ⟨crb2_0, crb2_1, crb2_2, frb2_0, frb2_1, frb2_2⟩ := box3 Xrb_2.out; have lrb2 := heap_lt Xrb_2.out
  have S2 : w1.heap.size ≤ w2.heap.size := (by omega)
  clear cra1_0 cra1_1 cra1_2 cra1_3 cra1_4 fra1_0 fra1_1 fra1_2 fra1_3 fra1_4 crb1_0 crb1_1 crb1_2 frb1_0 frb1_1 frb1_2
  have HL := Lib.hid hld; clear hld hfd
  have OD := Lib.hid Od_2.out
  have D_2 := Lib.hid (Dr.start A2.out.r)
  go_wp2_with (fail)
  refine (l6Op_calls (w.heap.size + 2) (0 + 100) _ _ _ c w1 _ (A2.out.alloc _) (by omega) (Od_2.out.alloc _) hlt).mono ?_
  rintro e w3 ⟨⟨x0, x1, x2⟩, rfl, hx, hd⟩
  have D_3 := Lib.hid (Dr.then (D_2.out.alloc _) hd)
  have A3 := Lib.hid (Dr.then (A2.out.alloc _) hd)
  have Z3 := hd.size
  have N3 : w2.heap.size + 1 ≤ w3.heap.size := (by first | with_reducible exact Z3 | (simp only [szA, szS, szD] at Z3; omega))
  clear Z3
  have Xra_3 := Lib.hid (hd.at_ (heap_up Xra_2.out) (by first | omega | (simp only [szA, szS, szD, World.heap_drewN] at * <;> omega)))
  have Xrb_3 := Lib.hid (hd.at_ (heap_up Xrb_2.out) (by first | omega | (simp only [szA, szS, szD, World.heap_drewN] at * <;> omega)))
  have Xp_3 : Hid (w3.heap[w2.heap.size]? = some (.cells #[.slice ad0 c.sems.length pd0, .slice ad1 c.groups.length pd1, .slice ad2 c.barriers.length pd2, .slice ad3 c.rooms.length pd3, .slice ad4 c.threads.length pd4] 34 (0, 0))) := hd.at_ (heap_at' (n := w2.heap.size) (by first | omega | (simp only [szA, szS, szD, World.heap_drewN] at * <;> omega))) (by first | omega | (simp only [szA, szS, szD, World.heap_drewN] at * <;> omega))
  clear hd
  obtain ⟨cra3_0, cra3_1, cra3_2, cra3_3, cra3_4, fra3_0, fra3_1, fra3_2, fra3_3, fra3_4⟩ := box5 Xra_3.out; have lra3 := heap_lt Xra_3.out
  obtain ⟨crb3_0, crb3_1, crb3_2, frb3_0, frb3_1, frb3_2⟩ := box3 Xrb_3.out; have lrb3 := heap_lt Xrb_3.out
  obtain ⟨cp3_0, cp3_1, cp3_2, cp3_3, cp3_4, fp3_0, fp3_1, fp3_2, fp3_3, fp3_4⟩ := box5 Xp_3.out; have lp3 := heap_lt Xp_3.out
  have S3 : w1.heap.size ≤ w3.heap.size := (by omega)
  clear cra2_0 cra2_1 cra2_2 cra2_3 cra2_4 fra2_0 fra2_1 fra2_2 fra2_3 fra2_4 crb2_0 crb2_1 crb2_2 frb2_0 frb2_1 frb2_2
  have HX := Lib.hid hx; clear hx
  go_wp2_with (fail)
  refine (pickD (w.heap.size + 2) (0 + 104) 6 w1 _ (A3.out.alloc _) (by omega) (by decide)).mono ?_
  rintro e w4 ⟨y, rfl, hy0, hy1, hd⟩
  have D_4 := Lib.hid (Dr.then (D_3.out.alloc _) hd)
  have A4 := Lib.hid (Dr.then (A3.out.alloc _) hd)
  have Z4 := hd.size
  have N4 : w3.heap.size + 1 ≤ w4.heap.size := (by first | with_reducible exact Z4 | (simp only [szA, szS, szD] at Z4; omega))
  clear Z4
  have Xra_4 := Lib.hid (hd.at_ (heap_up Xra_3.out) (by first | omega | (simp only [szA, szS, szD, World.heap_drewN] at * <;> omega)))
  have Xrb_4 := Lib.hid (hd.at_ (heap_up Xrb_3.out) (by first | omega | (simp only [szA, szS, szD, World.heap_drewN] at * <;> omega)))
  have Xp_4 := Lib.hid (hd.at_ (heap_up Xp_3.out) (by first | omega | (simp only [szA, szS, szD, World.heap_drewN] at * <;> omega)))
  have Xo_4 : Hid (w4.heap[w3.heap.size]? = some (.cells #[.int .i64 x0, .int .i64 x1, .int .i64 x2] 23 (0, 0))) := hd.at_ (heap_at' (n := w3.heap.size) (by first | omega | (simp only [szA, szS, szD, World.heap_drewN] at * <;> omega))) (by first | omega | (simp only [szA, szS, szD, World.heap_drewN] at * <;> omega))
  clear hd
  obtain ⟨cra4_0, cra4_1, cra4_2, cra4_3, cra4_4, fra4_0, fra4_1, fra4_2, fra4_3, fra4_4⟩ := box5 Xra_4.out; have lra4 := heap_lt Xra_4.out
  obtain ⟨crb4_0, crb4_1, crb4_2, frb4_0, frb4_1, frb4_2⟩ := box3 Xrb_4.out; have lrb4 := heap_lt Xrb_4.out
  obtain ⟨cp4_0, cp4_1, cp4_2, cp4_3, cp4_4, fp4_0, fp4_1, fp4_2, fp4_3, fp4_4⟩ := box5 Xp_4.out; have lp4 := heap_lt Xp_4.out
  obtain ⟨co4_0, co4_1, co4_2, fo4_0, fo4_1, fo4_2⟩ := box3 Xo_4.out; have lo4 := heap_lt Xo_4.out
  have S4 : w1.heap.size ≤ w4.heap.size := (by omega)
  clear cra3_0 cra3_1 cra3_2 cra3_3 cra3_4 fra3_0 fra3_1 fra3_2 fra3_3 fra3_4 crb3_0 crb3_1 crb3_2 frb3_0 frb3_1 frb3_2 cp3_0 cp3_1 cp3_2 cp3_3 cp3_4 fp3_0 fp3_1 fp3_2 fp3_3 fp3_4
  by_cases h0 : y = 0
  · subst h0
    go_wp2_with (fail)
    refine (numD (w.heap.size + 2) (0 + 105) _ [-1, 3, 1] w1 _ (A4.out.alloc _) (by omega) (lit_row _ (by decide) rfl rfl (by first | omega | (simp only [szA, szS, szD, World.heap_drewN] at * <;> omega))) (by decide) (by simp [Value.ownBlock]; omega)).mono ?_
    rintro e w5 ⟨z, rfl, hz, hd⟩
    have D_5 := Lib.hid (Dr.then (D_4.out.alloc _) hd)
    have A5 := Lib.hid (Dr.then (A4.out.alloc _) hd)
    have Z5 := hd.size
    have N5 : w4.heap.size + 1 ≤ w5.heap.size := (by first | with_reducible exact Z5 | (simp only [szA, szS, szD] at Z5; omega))
    clear Z5
    have Xra_5 := Lib.hid (hd.at_ (heap_up Xra_4.out) (by first | omega | (simp only [szA, szS, szD, World.heap_drewN] at * <;> omega)))
    have Xrb_5 := Lib.hid (hd.at_ (heap_up Xrb_4.out) (by first | omega | (simp only [szA, szS, szD, World.heap_drewN] at * <;> omega)))
    have Xp_5 := Lib.hid (hd.at_ (heap_up Xp_4.out) (by first | omega | (simp only [szA, szS, szD, World.heap_drewN] at * <;> omega)))
    have Xo_5 := Lib.hid (hd.at_ (heap_up Xo_4.out) (by first | omega | (simp only [szA, szS, szD, World.heap_drewN] at * <;> omega)))
    clear hd
    obtain ⟨cra5_0, cra5_1, cra5_2, cra5_3, cra5_4, fra5_0, fra5_1, fra5_2, fra5_3, fra5_4⟩ := box5 Xra_5.out; have lra5 := heap_lt Xra_5.out
    obtain ⟨crb5_0, crb5_1, crb5_2, frb5_0, frb5_1, frb5_2⟩ := box3 Xrb_5.out; have lrb5 := heap_lt Xrb_5.out
    obtain ⟨cp5_0, cp5_1, cp5_2, cp5_3, cp5_4, fp5_0, fp5_1, fp5_2, fp5_3, fp5_4⟩ := box5 Xp_5.out; have lp5 := heap_lt Xp_5.out
    obtain ⟨co5_0, co5_1, co5_2, fo5_0, fo5_1, fo5_2⟩ := box3 Xo_5.out; have lo5 := heap_lt Xo_5.out
    have S5 : w1.heap.size ≤ w5.heap.size := (by omega)
    clear cra4_0 cra4_1 cra4_2 cra4_3 cra4_4 fra4_0 fra4_1 fra4_2 fra4_3 fra4_4 crb4_0 crb4_1 crb4_2 frb4_0 frb4_1 frb4_2 cp4_0 cp4_1 cp4_2 cp4_3 cp4_4 fp4_0 fp4_1 fp4_2 fp4_3 fp4_4 co4_0 co4_1 co4_2 fo4_0 fo4_1 fo4_2
    have hzb : -1 ≤ z ∧ z ≤ 3 := by simp at hz; omega
    obtain ⟨hz0, hz1⟩ := hzb; clear hz
    have ne_ra_rb : w.heap.size ≠ w.heap.size + 1 := by omega
    have nf_ra_rb := ne_ra_rb.symm
    have ne_ra_p : w.heap.size ≠ w2.heap.size := by omega
    have nf_ra_p := ne_ra_p.symm
    have ne_ra_o : w.heap.size ≠ w3.heap.size := by omega
    have nf_ra_o := ne_ra_o.symm
    have ne_rb_p : w.heap.size + 1 ≠ w2.heap.size := by omega
    have nf_rb_p := ne_rb_p.symm
    have ne_rb_o : w.heap.size + 1 ≠ w3.heap.size := by omega
    have nf_rb_o := ne_rb_o.symm
    have ne_p_o : w2.heap.size ≠ w3.heap.size := by omega
    have nf_p_o := ne_p_o.symm
    go_wp2_with (fail)
    go_region
    go_wp2_with (fail)
    refine bodyPost_ret (v := .tuple #[.agg #[.slice ad0 c.sems.length pd0, .slice ad1 c.groups.length pd1, .slice ad2 c.barriers.length pd2, .slice ad3 c.rooms.length pd3, .slice ad4 c.threads.length pd4], .agg #[.int .i64 x0, .int .i64 z, .int .i64 x2]]) (by simp [results, Tryd.results11, go_sem, cra5_0, cra5_1, cra5_2, cra5_3, cra5_4, lra5, crb5_0, crb5_1, crb5_2, lrb5, cp5_0, cp5_1, cp5_2, cp5_3, cp5_4, lp5, co5_0, co5_1, co5_2, lo5, ne_ra_rb, nf_ra_rb, ne_ra_p, nf_ra_p, ne_ra_o, nf_ra_o, ne_rb_p, nf_rb_p, ne_rb_o, nf_rb_o, ne_p_o, nf_p_o]) rfl ⟨_, c, (x0, z, x2), rfl, ((((((((((OD.out.past (D_5.out.set (a := ⟨w3.heap.size, 1, none⟩) (by first | omega | (simp only [szA, szS, szD, World.heap_drewN] at * <;> omega)) (.int .i64 z)).g hlt).setLow (w.heap.size) 0 (by omega) (.slice ad0 c.sems.length pd0)).setLow (w.heap.size) 1 (by omega) (.slice ad1 c.groups.length pd1)).setLow (w.heap.size) 2 (by omega) (.slice ad2 c.barriers.length pd2)).setLow (w.heap.size) 3 (by omega) (.slice ad3 c.rooms.length pd3)).setLow (w.heap.size) 4 (by omega) (.slice ad4 c.threads.length pd4)).setLow (w.heap.size + 1) 0 (by omega) (.int .i64 x0)).setLow (w.heap.size + 1) 1 (by omega) (.int .i64 z)).setLow (w.heap.size + 1) 2 (by omega) (.int .i64 x2)).drew).any.mono (by first | omega | (simp only [szA, szS, szD, World.heap_drewN] at * <;> omega)) (Nat.le_refl _), HL.out, ⟨HX.out.1, (show -3 ≤ z ∧ z ≤ 3 from by omega), HX.out.2.2⟩, (below_setAt (below_setAt (below_setAt (below_setAt (below_setAt (below_setAt (below_setAt (below_setAt (Dr.out B1.out (A5.out.set (a := ⟨w3.heap.size, 1, none⟩) (by first | omega | (simp only [szA, szS, szD, World.heap_drewN] at * <;> omega)) (.int .i64 z)) (by omega)) (w.heap.size) 0 (by first | omega | (simp only [szA, szS, szD, World.heap_drewN] at * <;> omega)) (.slice ad0 c.sems.length pd0)) (w.heap.size) 1 (by first | omega | (simp only [szA, szS, szD, World.heap_drewN] at * <;> omega)) (.slice ad1 c.groups.length pd1)) (w.heap.size) 2 (by first | omega | (simp only [szA, szS, szD, World.heap_drewN] at * <;> omega)) (.slice ad2 c.barriers.length pd2)) (w.heap.size) 3 (by first | omega | (simp only [szA, szS, szD, World.heap_drewN] at * <;> omega)) (.slice ad3 c.rooms.length pd3)) (w.heap.size) 4 (by first | omega | (simp only [szA, szS, szD, World.heap_drewN] at * <;> omega)) (.slice ad4 c.threads.length pd4)) (w.heap.size + 1) 0 (by first | omega | (simp only [szA, szS, szD, World.heap_drewN] at * <;> omega)) (.int .i64 x0)) (w.heap.size + 1) 1 (by first | omega | (simp only [szA, szS, szD, World.heap_drewN] at * <;> omega)) (.int .i64 z)) (w.heap.size + 1) 2 (by first | omega | (simp only [szA, szS, szD, World.heap_drewN] at * <;> omega)) (.int .i64 x2)).drew⟩
  · have e0 : (y == 0) = false := beq_false_of_ne h0
    by_cases h1 : y = 1
    · subst h1
      clear e0 h0
      go_wp2_with (fail)
      refine (numD (w.heap.size + 2) (0 + 105) _ [-10, 100, 0, 10] w1 _ (A4.out.alloc _) (by omega) (lit_row _ (by decide) rfl rfl (by first | omega | (simp only [szA, szS, szD, World.heap_drewN] at * <;> omega))) (by decide) (by simp [Value.ownBlock]; omega)).mono ?_
      rintro e w5 ⟨z, rfl, hz, hd⟩
      have D_5 := Lib.hid (Dr.then (D_4.out.alloc _) hd)
      have A5 := Lib.hid (Dr.then (A4.out.alloc _) hd)
      have Z5 := hd.size
      have N5 : w4.heap.size + 1 ≤ w5.heap.size := (by first | with_reducible exact Z5 | (simp only [szA, szS, szD] at Z5; omega))
      clear Z5
      have Xra_5 := Lib.hid (hd.at_ (heap_up Xra_4.out) (by first | omega | (simp only [szA, szS, szD, World.heap_drewN] at * <;> omega)))
      have Xrb_5 := Lib.hid (hd.at_ (heap_up Xrb_4.out) (by first | omega | (simp only [szA, szS, szD, World.heap_drewN] at * <;> omega)))
      have Xp_5 := Lib.hid (hd.at_ (heap_up Xp_4.out) (by first | omega | (simp only [szA, szS, szD, World.heap_drewN] at * <;> omega)))
      have Xo_5 := Lib.hid (hd.at_ (heap_up Xo_4.out) (by first | omega | (simp only [szA, szS, szD, World.heap_drewN] at * <;> omega)))
      clear hd
      obtain ⟨cra5_0, cra5_1, cra5_2, cra5_3, cra5_4, fra5_0, fra5_1, fra5_2, fra5_3, fra5_4⟩ := box5 Xra_5.out; have lra5 := heap_lt Xra_5.out
      obtain ⟨crb5_0, crb5_1, crb5_2, frb5_0, frb5_1, frb5_2⟩ := box3 Xrb_5.out; have lrb5 := heap_lt Xrb_5.out
      obtain ⟨cp5_0, cp5_1, cp5_2, cp5_3, cp5_4, fp5_0, fp5_1, fp5_2, fp5_3, fp5_4⟩ := box5 Xp_5.out; have lp5 := heap_lt Xp_5.out
      obtain ⟨co5_0, co5_1, co5_2, fo5_0, fo5_1, fo5_2⟩ := box3 Xo_5.out; have lo5 := heap_lt Xo_5.out
      have S5 : w1.heap.size ≤ w5.heap.size := (by omega)
      clear cra4_0 cra4_1 cra4_2 cra4_3 cra4_4 fra4_0 fra4_1 fra4_2 fra4_3 fra4_4 crb4_0 crb4_1 crb4_2 frb4_0 frb4_1 frb4_2 cp4_0 cp4_1 cp4_2 cp4_3 cp4_4 fp4_0 fp4_1 fp4_2 fp4_3 fp4_4 co4_0 co4_1 co4_2 fo4_0 fo4_1 fo4_2
      have hzb : -10 ≤ z ∧ z ≤ 100 := by simp at hz; omega
      obtain ⟨hz0, hz1⟩ := hzb; clear hz
      have ne_ra_rb : w.heap.size ≠ w.heap.size + 1 := by omega
      have nf_ra_rb := ne_ra_rb.symm
      have ne_ra_p : w.heap.size ≠ w2.heap.size := by omega
      have nf_ra_p := ne_ra_p.symm
      have ne_ra_o : w.heap.size ≠ w3.heap.size := by omega
      have nf_ra_o := ne_ra_o.symm
      have ne_rb_p : w.heap.size + 1 ≠ w2.heap.size := by omega
      have nf_rb_p := ne_rb_p.symm
      have ne_rb_o : w.heap.size + 1 ≠ w3.heap.size := by omega
      have nf_rb_o := ne_rb_o.symm
      have ne_p_o : w2.heap.size ≠ w3.heap.size := by omega
      have nf_p_o := ne_p_o.symm
      go_wp2_with (fail)
      go_region
      go_wp2_with (fail)
      refine bodyPost_ret (v := .tuple #[.agg #[.slice ad0 c.sems.length pd0, .slice ad1 c.groups.length pd1, .slice ad2 c.barriers.length pd2, .slice ad3 c.rooms.length pd3, .slice ad4 c.threads.length pd4], .agg #[.int .i64 x0, .int .i64 x1, .int .i64 z]]) (by simp [results, Tryd.results11, go_sem, cra5_0, cra5_1, cra5_2, cra5_3, cra5_4, lra5, crb5_0, crb5_1, crb5_2, lrb5, cp5_0, cp5_1, cp5_2, cp5_3, cp5_4, lp5, co5_0, co5_1, co5_2, lo5, ne_ra_rb, nf_ra_rb, ne_ra_p, nf_ra_p, ne_ra_o, nf_ra_o, ne_rb_p, nf_rb_p, ne_rb_o, nf_rb_o, ne_p_o, nf_p_o]) rfl ⟨_, c, (x0, x1, z), rfl, ((((((((((OD.out.past (D_5.out.set (a := ⟨w3.heap.size, 2, none⟩) (by first | omega | (simp only [szA, szS, szD, World.heap_drewN] at * <;> omega)) (.int .i64 z)).g hlt).setLow (w.heap.size) 0 (by omega) (.slice ad0 c.sems.length pd0)).setLow (w.heap.size) 1 (by omega) (.slice ad1 c.groups.length pd1)).setLow (w.heap.size) 2 (by omega) (.slice ad2 c.barriers.length pd2)).setLow (w.heap.size) 3 (by omega) (.slice ad3 c.rooms.length pd3)).setLow (w.heap.size) 4 (by omega) (.slice ad4 c.threads.length pd4)).setLow (w.heap.size + 1) 0 (by omega) (.int .i64 x0)).setLow (w.heap.size + 1) 1 (by omega) (.int .i64 x1)).setLow (w.heap.size + 1) 2 (by omega) (.int .i64 z)).drew).any.mono (by first | omega | (simp only [szA, szS, szD, World.heap_drewN] at * <;> omega)) (Nat.le_refl _), HL.out, ⟨HX.out.1, HX.out.2.1, (show -10 ≤ z ∧ z ≤ 100 from by omega)⟩, (below_setAt (below_setAt (below_setAt (below_setAt (below_setAt (below_setAt (below_setAt (below_setAt (Dr.out B1.out (A5.out.set (a := ⟨w3.heap.size, 2, none⟩) (by first | omega | (simp only [szA, szS, szD, World.heap_drewN] at * <;> omega)) (.int .i64 z)) (by omega)) (w.heap.size) 0 (by first | omega | (simp only [szA, szS, szD, World.heap_drewN] at * <;> omega)) (.slice ad0 c.sems.length pd0)) (w.heap.size) 1 (by first | omega | (simp only [szA, szS, szD, World.heap_drewN] at * <;> omega)) (.slice ad1 c.groups.length pd1)) (w.heap.size) 2 (by first | omega | (simp only [szA, szS, szD, World.heap_drewN] at * <;> omega)) (.slice ad2 c.barriers.length pd2)) (w.heap.size) 3 (by first | omega | (simp only [szA, szS, szD, World.heap_drewN] at * <;> omega)) (.slice ad3 c.rooms.length pd3)) (w.heap.size) 4 (by first | omega | (simp only [szA, szS, szD, World.heap_drewN] at * <;> omega)) (.slice ad4 c.threads.length pd4)) (w.heap.size + 1) 0 (by first | omega | (simp only [szA, szS, szD, World.heap_drewN] at * <;> omega)) (.int .i64 x0)) (w.heap.size + 1) 1 (by first | omega | (simp only [szA, szS, szD, World.heap_drewN] at * <;> omega)) (.int .i64 x1)) (w.heap.size + 1) 2 (by first | omega | (simp only [szA, szS, szD, World.heap_drewN] at * <;> omega)) (.int .i64 z)).drew⟩
    · have e1 : (y == 1) = false := beq_false_of_ne h1
      clear h0 h1
      have ne_ra_rb : w.heap.size ≠ w.heap.size + 1 := by omega
      have nf_ra_rb := ne_ra_rb.symm
      have ne_ra_p : w.heap.size ≠ w2.heap.size := by omega
      have nf_ra_p := ne_ra_p.symm
      have ne_ra_o : w.heap.size ≠ w3.heap.size := by omega
      have nf_ra_o := ne_ra_o.symm
      have ne_rb_p : w.heap.size + 1 ≠ w2.heap.size := by omega
      have nf_rb_p := ne_rb_p.symm
      have ne_rb_o : w.heap.size + 1 ≠ w3.heap.size := by omega
      have nf_rb_o := ne_rb_o.symm
      have ne_p_o : w2.heap.size ≠ w3.heap.size := by omega
      have nf_p_o := ne_p_o.symm
      go_wp2_with (fail)
      go_region
      go_wp2_with (fail)
      refine bodyPost_ret (v := .tuple #[.agg #[.slice ad0 c.sems.length pd0, .slice ad1 c.groups.length pd1, .slice ad2 c.barriers.length pd2, .slice ad3 c.rooms.length pd3, .slice ad4 c.threads.length pd4], .agg #[.int .i64 x0, .int .i64 x1, .int .i64 x2]]) (by simp [results, Tryd.results11, go_sem, cra4_0, cra4_1, cra4_2, cra4_3, cra4_4, lra4, crb4_0, crb4_1, crb4_2, lrb4, cp4_0, cp4_1, cp4_2, cp4_3, cp4_4, lp4, co4_0, co4_1, co4_2, lo4, ne_ra_rb, nf_ra_rb, ne_ra_p, nf_ra_p, ne_ra_o, nf_ra_o, ne_rb_p, nf_rb_p, ne_rb_o, nf_rb_o, ne_p_o, nf_p_o]) rfl ⟨_, c, (x0, x1, x2), rfl, ((((((((((OD.out.past D_4.out.g hlt).setLow (w.heap.size) 0 (by omega) (.slice ad0 c.sems.length pd0)).setLow (w.heap.size) 1 (by omega) (.slice ad1 c.groups.length pd1)).setLow (w.heap.size) 2 (by omega) (.slice ad2 c.barriers.length pd2)).setLow (w.heap.size) 3 (by omega) (.slice ad3 c.rooms.length pd3)).setLow (w.heap.size) 4 (by omega) (.slice ad4 c.threads.length pd4)).setLow (w.heap.size + 1) 0 (by omega) (.int .i64 x0)).setLow (w.heap.size + 1) 1 (by omega) (.int .i64 x1)).setLow (w.heap.size + 1) 2 (by omega) (.int .i64 x2)).drew).any.mono (by first | omega | (simp only [szA, szS, szD, World.heap_drewN] at * <;> omega)) (Nat.le_refl _), HL.out, HX.out, (below_setAt (below_setAt (below_setAt (below_setAt (below_setAt (below_setAt (below_setAt (below_setAt (Dr.out B1.out A4.out (by omega)) (w.heap.size) 0 (by first | omega | (simp only [szA, szS, szD, World.heap_drewN] at * <;> omega)) (.slice ad0 c.sems.length pd0)) (w.heap.size) 1 (by first | omega | (simp only [szA, szS, szD, World.heap_drewN] at * <;> omega)) (.slice ad1 c.groups.length pd1)) (w.heap.size) 2 (by first | omega | (simp only [szA, szS, szD, World.heap_drewN] at * <;> omega)) (.slice ad2 c.barriers.length pd2)) (w.heap.size) 3 (by first | omega | (simp only [szA, szS, szD, World.heap_drewN] at * <;> omega)) (.slice ad3 c.rooms.length pd3)) (w.heap.size) 4 (by first | omega | (simp only [szA, szS, szD, World.heap_drewN] at * <;> omega)) (.slice ad4 c.threads.length pd4)) (w.heap.size + 1) 0 (by first | omega | (simp only [szA, szS, szD, World.heap_drewN] at * <;> omega)) (.int .i64 x0)) (w.heap.size + 1) 1 (by first | omega | (simp only [szA, szS, szD, World.heap_drewN] at * <;> omega)) (.int .i64 x1)) (w.heap.size + 1) 2 (by first | omega | (simp only [szA, szS, szD, World.heap_drewN] at * <;> omega)) (.int .i64 x2)).drew⟩
set_option maxHeartbeats 3200000 in
theorem DrawFormatOp_calls (v : Value) (bs : List Int) (w : World) (h : Row 1 encB w v bs) (hbs : ∀ x ∈ bs, 0 ≤ x ∧ x ≤ 255) :
    Calls Tryd.prog 8 #[v] w fun e w' => ∃ x, e = .returned (opv x) ∧ opSmall x ∧ Below w.heap.size w w' := by
  have H0 := Lib.hid h; have HBS := Lib.hid hbs; clear h hbs
  go_enter Tryd.func8, Tryd.ntmps8
  go_wp2_with (fail)
  refine (DrawOpValid_calls v bs _ (Row.below H0.out (Below.alloc (Below.refl _ _) (by first | omega | (simp only [szA, szS, szD, World.heap_drewN] at * <;> omega)) _)) HBS.out).mono ?_
  rintro e w1 ⟨vd, c, ⟨x0, x1, x2⟩, rfl, ho_d, hld, hx, hb⟩
  have B1 := Lib.hid (Below.trans (Below.alloc (Below.refl _ _) (by first | omega | (simp only [szA, szS, szD, World.heap_drewN] at * <;> omega)) _) (hb.mono (by first | omega | (simp only [szA, szS, szD, World.heap_drewN] at * <;> omega))) : Below w.heap.size w w1)
  have Z1 := hb.size
  have N1 : w.heap.size + 1 ≤ w1.heap.size := (by first | with_reducible exact Z1 | (simp only [szA, szS, szD] at Z1; omega))
  clear Z1
  have Xra_1 : Hid (w1.heap[w.heap.size]? = some (.cells #[.int .i64 0, .int .i64 0, .int .i64 0] 23 (0, 0))) := below_at hb (heap_at' (n := w.heap.size) (by first | omega | (simp only [szA, szS, szD, World.heap_drewN] at * <;> omega)))
  have Od_1 := Lib.hid (ho_d.mono (lo' := w.heap.size) (by first | omega | (simp only [szA, szS, szD, World.heap_drewN] at * <;> omega)) (Nat.le_refl _)); obtain ⟨ad0, pd0, ad1, pd1, ad2, pd2, ad3, pd3, ad4, pd4, rfl, hx_d⟩ := ho_d; clear hx_d
  clear hb
  obtain ⟨cra1_0, cra1_1, cra1_2, fra1_0, fra1_1, fra1_2⟩ := box3 Xra_1.out; have lra1 := heap_lt Xra_1.out
  have S1 : w.heap.size ≤ w1.heap.size := (by omega)
  have HX := Lib.hid hx; clear hx hld
  have ne_ra_p : w.heap.size ≠ w1.heap.size := by omega
  have nf_ra_p := ne_ra_p.symm
  have ne_ra_o : w.heap.size ≠ w1.heap.size + 1 := by omega
  have nf_ra_o := ne_ra_o.symm
  have ne_p_o : w1.heap.size ≠ w1.heap.size + 1 := by omega
  have nf_p_o := ne_p_o.symm
  go_wp2_with (fail)
  refine bodyPost_ret (v := .agg #[.int .i64 x0, .int .i64 x1, .int .i64 x2]) (by simp [results, Tryd.results8, go_sem, cra1_0, cra1_1, cra1_2, lra1, ne_ra_p, nf_ra_p, ne_ra_o, nf_ra_o, ne_p_o, nf_p_o]) rfl ⟨(x0, x1, x2), rfl, HX.out, (Below.alloc (Below.alloc (below_setAt (below_setAt (below_setAt B1.out (w.heap.size) 0 (by first | omega | (simp only [szA, szS, szD, World.heap_drewN] at * <;> omega)) (.int .i64 x0)) (w.heap.size) 1 (by first | omega | (simp only [szA, szS, szD, World.heap_drewN] at * <;> omega)) (.int .i64 x1)) (w.heap.size) 2 (by first | omega | (simp only [szA, szS, szD, World.heap_drewN] at * <;> omega)) (.int .i64 x2)) (by first | omega | (simp only [szA, szS, szD, World.heap_drewN] at * <;> omega)) _) (by first | omega | (simp only [szA, szS, szD, World.heap_drewN] at * <;> omega)) _)⟩
end Go.Proofs.YthbnbofoefdneaaDoor
