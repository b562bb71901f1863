/- FnProgShared: the law's walk (made by gen_proglaws.py). -/
import Derived.Test.YtobkammimkgnkaaDrawProgs
import Derived.Test.YtobkammimkgnkaaProgLaw
import Derived.Test.YtobkammimkgnkaaProgSame
import Derived.Test.YtobkammimkgnkaaRg2
namespace Go.Proofs.Ytobkammimkgnkaa
open Go.RowKit
set_option linter.unusedSimpArgs false
set_option linter.unusedVariables false
set_option maxRecDepth 100000 in
set_option maxHeartbeats 8000000 in
theorem FnProgShared_calls (v : Value) (bs : List Int) (w : World) (h : Row 1 encB w v bs) (hbs : ∀ x ∈ bs, 0 ≤ x ∧ x ≤ 255) :
    Calls Try.prog 11 #[v] w fun e w' => e = .returned (.bool true) ∧ Below w.heap.size w w' := by
  have HB := Lib.hid hbs; clear hbs
  have H0 := Lib.hid h
  obtain ⟨a, c, rfl, l1, l2, l3⟩ := h
  clear l3
  by_cases hl : bs.length ≤ 1048576
  · go_enter Try.func11, Try.ntmps11
    go_wp2_with (fail)
    refine (DrawProgValid_calls _ bs _ (Row.below H0.out (Below.refl _ _)) HB.out).mono ?_
    rintro e w1 ⟨vd, c, rfl, ho_d, hfd, hb⟩
    have B1 := Lib.hid (Below.trans (Below.refl _ _) (hb.mono (by first | omega | (simp only [szA, szS, szD, World.heap_drewN] at * <;> omega))) : Below w.heap.size w w1)
    have Z1 := hb.size
    have N1 : w.heap.size ≤ w1.heap.size := (by first | with_reducible exact Z1 | (simp only [szA, szS, szD] at Z1; omega))
    clear Z1
    have Od_1 := Lib.hid (ho_d.mono (lo' := w.heap.size) (by first | omega | (simp only [szA, szS, szD, World.heap_drewN] at * <;> omega)) (Nat.le_refl _)); obtain ⟨ad0, pd0, ad1, pd1, ad2, pd2, ad3, pd3, ad4, pd4, rfl, hx_d⟩ := ho_d; clear hx_d
    clear hb
    have S1 : w.heap.size ≤ w1.heap.size := (by omega)
    clear hfd
    have HP := Lib.hid (Od_1.out.row); have BW := B1; have SB := S1; clear Od_1 B1 S1
    have B1 := Lib.hid (Below.refl w1.heap.size w1); have S1 : w1.heap.size ≤ w1.heap.size := Nat.le_refl _
    cases hv : progB c
    · have HV := Lib.hid hv; clear hv
      go_wp2_with (fail)
      refine (ProgValidO _ c _ (ProgRow.below HP.out (Below.alloc B1.out (by first | omega | (simp only [szA, szS, szD, World.heap_drewN] at * <;> omega)) _))).mono ?_
      rw [HV.out]
      rintro e w2 ⟨rfl, hb⟩
      have B2 := Lib.hid (Below.trans (Below.alloc B1.out (by first | omega | (simp only [szA, szS, szD, World.heap_drewN] at * <;> omega)) _) (hb.mono (by first | omega | (simp only [szA, szS, szD, World.heap_drewN] at * <;> omega))) : Below w1.heap.size w1 w2)
      have Z2 := hb.size
      have N2 : w1.heap.size + 1 ≤ w2.heap.size := (by first | with_reducible exact Z2 | (simp only [szA, szS, szD] at Z2; omega))
      clear Z2
      have Xp_2 : Hid (w2.heap[w1.heap.size]? = some (.cells #[.slice ad0 c.sems.length pd0, .slice ad1 c.groups.length pd1, .slice ad2 c.barriers.length pd2, .slice ad3 c.rooms.length pd3, .slice ad4 c.threads.length pd4] 30 (0, 0))) := below_at hb (heap_at' (n := w1.heap.size) (by first | omega | (simp only [szA, szS, szD, World.heap_drewN] at * <;> omega)))
      clear hb
      obtain ⟨cp2_0, cp2_1, cp2_2, cp2_3, cp2_4, fp2_0, fp2_1, fp2_2, fp2_3, fp2_4⟩ := box5 Xp_2.out; have lp2 := heap_lt Xp_2.out
      have S2 : w1.heap.size ≤ w2.heap.size := (by omega)
      go_wp2_with (fail)
      refine (sProgValidO _ c _ (ProgRow.below HP.out B2.out)).mono ?_
      rw [HV.out]
      rintro e w3 ⟨rfl, hb⟩
      have B3 := Lib.hid (Below.trans B2.out (hb.mono (by first | omega | (simp only [szA, szS, szD, World.heap_drewN] at * <;> omega))) : Below w1.heap.size w1 w3)
      have Z3 := hb.size
      have N3 : w2.heap.size ≤ w3.heap.size := (by first | with_reducible exact Z3 | (simp only [szA, szS, szD] at Z3; omega))
      clear Z3
      have Xp_3 := Lib.hid (below_at hb Xp_2.out)
      clear hb
      obtain ⟨cp3_0, cp3_1, cp3_2, cp3_3, cp3_4, fp3_0, fp3_1, fp3_2, fp3_3, fp3_4⟩ := box5 Xp_3.out; have lp3 := heap_lt Xp_3.out
      have S3 : w1.heap.size ≤ w3.heap.size := (by omega)
      clear cp2_0 cp2_1 cp2_2 cp2_3 cp2_4 fp2_0 fp2_1 fp2_2 fp2_3 fp2_4
      go_wp2_with (fail)
      refine (sProgValidO _ c _ (ProgRow.below HP.out B3.out)).mono ?_
      rw [HV.out]
      rintro e w4 ⟨rfl, hb⟩
      have B4 := Lib.hid (Below.trans B3.out (hb.mono (by first | omega | (simp only [szA, szS, szD, World.heap_drewN] at * <;> omega))) : Below w1.heap.size w1 w4)
      have Z4 := hb.size
      have N4 : w3.heap.size ≤ w4.heap.size := (by first | with_reducible exact Z4 | (simp only [szA, szS, szD] at Z4; omega))
      clear Z4
      have Xp_4 := Lib.hid (below_at hb Xp_3.out)
      clear hb
      obtain ⟨cp4_0, cp4_1, cp4_2, cp4_3, cp4_4, fp4_0, fp4_1, fp4_2, fp4_3, fp4_4⟩ := box5 Xp_4.out; have lp4 := heap_lt Xp_4.out
      have S4 : w1.heap.size ≤ w4.heap.size := (by omega)
      clear cp3_0 cp3_1 cp3_2 cp3_3 cp3_4 fp3_0 fp3_1 fp3_2 fp3_3 fp3_4
      go_wp2
      go_ret
      exact ⟨rfl, Below.trans BW.out ((B4.out).mono SB)⟩
    · have HV := Lib.hid hv; have HOK := Lib.hid (progB_true.1 hv); clear hv
      go_wp2_with (fail)
      refine (ProgValidO _ c _ (ProgRow.below HP.out (Below.alloc B1.out (by first | omega | (simp only [szA, szS, szD, World.heap_drewN] at * <;> omega)) _))).mono ?_
      rw [HV.out]
      rintro e w2 ⟨rfl, hb⟩
      have B2 := Lib.hid (Below.trans (Below.alloc B1.out (by first | omega | (simp only [szA, szS, szD, World.heap_drewN] at * <;> omega)) _) (hb.mono (by first | omega | (simp only [szA, szS, szD, World.heap_drewN] at * <;> omega))) : Below w1.heap.size w1 w2)
      have Z2 := hb.size
      have N2 : w1.heap.size + 1 ≤ w2.heap.size := (by first | with_reducible exact Z2 | (simp only [szA, szS, szD] at Z2; omega))
      clear Z2
      have Xp_2 : Hid (w2.heap[w1.heap.size]? = some (.cells #[.slice ad0 c.sems.length pd0, .slice ad1 c.groups.length pd1, .slice ad2 c.barriers.length pd2, .slice ad3 c.rooms.length pd3, .slice ad4 c.threads.length pd4] 30 (0, 0))) := below_at hb (heap_at' (n := w1.heap.size) (by first | omega | (simp only [szA, szS, szD, World.heap_drewN] at * <;> omega)))
      clear hb
      obtain ⟨cp2_0, cp2_1, cp2_2, cp2_3, cp2_4, fp2_0, fp2_1, fp2_2, fp2_3, fp2_4⟩ := box5 Xp_2.out; have lp2 := heap_lt Xp_2.out
      have S2 : w1.heap.size ≤ w2.heap.size := (by omega)
      go_wp2_with (fail)
      refine (sProgValidO _ c _ (ProgRow.below HP.out B2.out)).mono ?_
      rw [HV.out]
      rintro e w3 ⟨rfl, hb⟩
      have B3 := Lib.hid (Below.trans B2.out (hb.mono (by first | omega | (simp only [szA, szS, szD, World.heap_drewN] at * <;> omega))) : Below w1.heap.size w1 w3)
      have Z3 := hb.size
      have N3 : w2.heap.size ≤ w3.heap.size := (by first | with_reducible exact Z3 | (simp only [szA, szS, szD] at Z3; omega))
      clear Z3
      have Xp_3 := Lib.hid (below_at hb Xp_2.out)
      clear hb
      obtain ⟨cp3_0, cp3_1, cp3_2, cp3_3, cp3_4, fp3_0, fp3_1, fp3_2, fp3_3, fp3_4⟩ := box5 Xp_3.out; have lp3 := heap_lt Xp_3.out
      have S3 : w1.heap.size ≤ w3.heap.size := (by omega)
      clear cp2_0 cp2_1 cp2_2 cp2_3 cp2_4 fp2_0 fp2_1 fp2_2 fp2_3 fp2_4
      by_cases h3 : c.sems.length = 3
      · have d2 : ((c.sems.length : Int) == 3) = true := beq_iff_eq.2 (by omega)
        have d3 : (c.sems.length == 3) = true := beq_iff_eq.2 h3
        clear h3
        go_wp2_with (fail)
        refine (sProgValidO _ c _ (ProgRow.below HP.out B3.out)).mono ?_
        rw [HV.out]
        rintro e w4 ⟨rfl, hb⟩
        have B4 := Lib.hid (Below.trans B3.out (hb.mono (by first | omega | (simp only [szA, szS, szD, World.heap_drewN] at * <;> omega))) : Below w1.heap.size w1 w4)
        have Z4 := hb.size
        have N4 : w3.heap.size ≤ w4.heap.size := (by first | with_reducible exact Z4 | (simp only [szA, szS, szD] at Z4; omega))
        clear Z4
        have Xp_4 := Lib.hid (below_at hb Xp_3.out)
        clear hb
        obtain ⟨cp4_0, cp4_1, cp4_2, cp4_3, cp4_4, fp4_0, fp4_1, fp4_2, fp4_3, fp4_4⟩ := box5 Xp_4.out; have lp4 := heap_lt Xp_4.out
        have S4 : w1.heap.size ≤ w4.heap.size := (by omega)
        clear cp3_0 cp3_1 cp3_2 cp3_3 cp3_4 fp3_0 fp3_1 fp3_2 fp3_3 fp3_4
        go_wp2
        go_ret
        exact ⟨rfl, Below.trans BW.out ((B4.out).mono SB)⟩
      · have d2 : ((c.sems.length : Int) == 3) = false := beq_eq_false_iff_ne.2 (by omega)
        have d3 : (c.sems.length == 3) = false := beq_eq_false_iff_ne.2 h3
        obtain ⟨a0', p0', a1', p1', a2', p2', a3', p3', a4', p4', e, r0, r1, r2, r3, r4⟩ := HP.out; cases e; have HS := Lib.hid r0; clear r0 r1 r2 r3 r4
        have hsl : c.sems.length ≤ 3 := HOK.out.1.1
        obtain ⟨xs, hxs⟩ : ∃ l, c.sems ++ [1] = l := ⟨_, rfl⟩
        obtain ⟨n, hn, hm, hq⟩ := size_sem HOK.out h3 hxs
        have HN := Lib.hid hn; have HM := Lib.hid hm; have HVQ := Lib.hid hq; have HNE := Lib.hid (decide_eq_false (progOk_sem HOK.out h3 hxs).2); have HXS := Lib.hid hxs; clear hn hm hq hxs h3
        go_wp2_with (first | (at_builtin; refine wpList_cloneE _ encI_len encI_one rfl _ _ 22 rfl 3 _ 8 Try.underlying22 info_int rfl (by decide) (w3.heap.size + 1) rfl (by first | omega | (simp only [szA, szS, szD, World.heap_drewN] at * <;> omega)) (.slice ad0 c.sems.length pd0) c.sems rfl (Row.below HS.out (Below.alloc B3.out (by first | omega | (simp only [szA, szS, szD, World.heap_drewN] at * <;> omega)) _)) (by decide) (by omega) ?_; intro an pn w4 ho_n hb; have B4 := Lib.hid (Below.trans (Below.alloc B3.out (by first | omega | (simp only [szA, szS, szD, World.heap_drewN] at * <;> omega)) _) (hb.mono (by first | omega | (simp only [szA, szS, szD, World.heap_drewN] at * <;> omega))) : Below w1.heap.size w1 w4); have Z4 := hb.size; have N4 : w3.heap.size + 1 ≤ w4.heap.size := (by first | with_reducible exact Z4 | (simp only [szA, szS, szD] at Z4; omega)); clear Z4; have Xp_4 := Lib.hid (below_at hb (heap_up Xp_3.out)); have Xq_4 : Hid (w4.heap[w3.heap.size]? = some (.cells #[.slice ad0 c.sems.length pd0, .slice ad1 c.groups.length pd1, .slice ad2 c.barriers.length pd2, .slice ad3 c.rooms.length pd3, .slice ad4 c.threads.length pd4] 30 (0, 0))) := below_at hb (heap_at' (n := w3.heap.size) (by first | omega | (simp only [szA, szS, szD, World.heap_drewN] at * <;> omega))); have On_4 := Lib.hid (Own.mono (base' := w1.heap.size) ho_n (by first | omega | (simp only [szA, szS, szD, World.heap_drewN] at * <;> omega))); clear ho_n; clear hb; obtain ⟨cp4_0, cp4_1, cp4_2, cp4_3, cp4_4, fp4_0, fp4_1, fp4_2, fp4_3, fp4_4⟩ := box5 Xp_4.out; have lp4 := heap_lt Xp_4.out; obtain ⟨cq4_0, cq4_1, cq4_2, cq4_3, cq4_4, fq4_0, fq4_1, fq4_2, fq4_3, fq4_4⟩ := box5 Xq_4.out; have lq4 := heap_lt Xq_4.out; have S4 : w1.heap.size ≤ w4.heap.size := (by omega)) | (at_builtin; refine Closed.out ?_))
        refine Closed.mk ?_
        clear cp3_0 cp3_1 cp3_2 cp3_3 cp3_4 fp3_0 fp3_1 fp3_2 fp3_3 fp3_4
        go_wp2_with (at_builtin; refine wpList_snoc _ encI_len encI_one rfl _ _ 22 rfl 3 _ 8 Try.underlying22 info_int rfl (by decide) w1.heap.size (.slice an c.sems.length pn) c.sems rfl On_4.out 1 _ rfl _ rfl (by first | omega | (simp only [szA, szS, szD, World.heap_drewN] at * <;> omega)) (by decide) (by omega) (by first | omega | (simp only [szA, szS, szD, World.heap_drewN] at * <;> omega)) ?_; intro ad5 cp5 w5 hown hg hat; obtain ⟨nL5, hnL5⟩ : ∃ l, c.sems ++ [1] = l := ⟨_, rfl⟩; have lnL5 : c.sems.length + 1 = nL5.length := (by rw [← hnL5, List.length_append, List.length_singleton]); rw [hnL5, lnL5] at hown; rw [lnL5]; have HnL5 := Lib.hid hnL5; clear hnL5; have KnL5 := Lib.hid lnL5; clear lnL5; rw [KnL5.out] at hat; clear hat; have Xp_5 := Lib.hid (grown_at2 hg (heap_up Xp_4.out) (On_4.out.ne Xp_4.out (by decide))); have Xq_5 := Lib.hid (grown_at2 hg (heap_up Xq_4.out) (On_4.out.ne Xq_4.out (by decide))); have On_5 := Lib.hid hown; have B5 := Lib.hid (Below.grown (Below.alloc B4.out (by first | omega | (simp only [szA, szS, szD, World.heap_drewN] at * <;> omega)) _) hg (by first | omega | (simp only [szA, szS, szD, World.heap_drewN]; omega)) (fun g e => Nat.le_trans (by omega) (On_4.out.blk g e))); have N5 : w4.heap.size + 1 ≤ w5.heap.size := (by first | with_reducible exact hg.size | (have := hg.size; simp only [szA, szS, szD] at this; omega)); clear hown hg; obtain ⟨cp5_0, cp5_1, cp5_2, cp5_3, cp5_4, fp5_0, fp5_1, fp5_2, fp5_3, fp5_4⟩ := box5 Xp_5.out; have lp5 := heap_lt Xp_5.out; obtain ⟨cq5_0, cq5_1, cq5_2, cq5_3, cq5_4, fq5_0, fq5_1, fq5_2, fq5_3, fq5_4⟩ := box5 Xq_5.out; have lq5 := heap_lt Xq_5.out; have S5 : w1.heap.size ≤ w5.heap.size := (by omega))
        clear cp4_0 cp4_1 cp4_2 cp4_3 cp4_4 fp4_0 fp4_1 fp4_2 fp4_3 fp4_4 cq4_0 cq4_1 cq4_2 cq4_3 cq4_4 fq4_0 fq4_1 fq4_2 fq4_3 fq4_4
        obtain ⟨w6, hw⟩ : ∃ x : World, x = (w5.setCell ⟨w3.heap.size, 0, none⟩ (.slice ad5 nL5.length cp5)) := ⟨_, rfl⟩
        have B6 := Lib.hid (show Below w1.heap.size w1 w6 by rw [hw]; exact (below_setAt B5.out (w3.heap.size) 0 (by first | omega | (simp only [szA, szS, szD, World.heap_drewN] at * <;> omega)) (.slice ad5 nL5.length cp5)))
        have N6 : w5.heap.size ≤ w6.heap.size := (by rw [hw]; simp only [szS, szA]; omega)
        have On_6 := Lib.hid (show Own w1.heap.size 3 1 encI w6 (.slice ad5 nL5.length cp5) nL5 by rw [hw]; exact (On_5.out.setB (w3.heap.size) 0 Xq_5.out (by decide) (.slice ad5 nL5.length cp5)))
        have Xp_6 := Lib.hid (show w6.heap[w1.heap.size]? = some (.cells #[.slice ad0 c.sems.length pd0, .slice ad1 c.groups.length pd1, .slice ad2 c.barriers.length pd2, .slice ad3 c.rooms.length pd3, .slice ad4 c.threads.length pd4] 30 (0, 0)) by rw [hw]; exact (set_off (a := ⟨w3.heap.size, 0, none⟩) Xp_5.out (by first | omega | (simp only [szA, szS, szD, World.heap_drewN] at * <;> omega)) (.slice ad5 nL5.length cp5)))
        have Xq_6 := Lib.hid (show w6.heap[w3.heap.size]? = some (.cells #[.slice ad5 nL5.length cp5, .slice ad1 c.groups.length pd1, .slice ad2 c.barriers.length pd2, .slice ad3 c.rooms.length pd3, .slice ad4 c.threads.length pd4] 30 (0, 0)) by rw [hw]; exact (set_at (a := ⟨w3.heap.size, 0, none⟩) Xq_5.out rfl rfl (.slice ad5 nL5.length cp5)))
        have Q6 := Lib.hid (show w6.heap.size = w5.heap.size by rw [hw]; simp only [szS, szA])
        have HW6 := Lib.hid hw; clear hw
        obtain ⟨cp6_0, cp6_1, cp6_2, cp6_3, cp6_4, fp6_0, fp6_1, fp6_2, fp6_3, fp6_4⟩ := box5 Xp_6.out; have lp6 := heap_lt Xp_6.out
        obtain ⟨cq6_0, cq6_1, cq6_2, cq6_3, cq6_4, fq6_0, fq6_1, fq6_2, fq6_3, fq6_4⟩ := box5 Xq_6.out; have lq6 := heap_lt Xq_6.out
        have S6 : w1.heap.size ≤ w6.heap.size := (by omega)
        obtain rfl : nL5 = xs := (HnL5.out.symm.trans HXS.out)
        go_wp2_with (rw [← HW6.out])
        have hN0 : w6.heap.size ≤ w6.heap.size := (by first | omega | (simp only [szA, szS, szD, World.heap_drewN] at * <;> omega))
        refine wp_region_L [⟨0, false, [], fun _ v _ => v = .agg #[.slice ad5 nL5.length cp5, .slice ad1 c.groups.length pd1, .slice ad2 c.barriers.length pd2, .slice ad3 c.rooms.length pd3, .slice ad4 c.threads.length pd4]⟩, ⟨1, false, [0], fun _ v _ => v = .bool true⟩, ⟨2, false, [0, 1], fun _ v _ => v = .bool true⟩, ⟨3, false, [0, 1, 2], fun _ v _ => v = .agg #[.slice ad5 nL5.length cp5, .slice ad1 c.groups.length pd1, .slice ad2 c.barriers.length pd2, .slice ad3 c.rooms.length pd3, .slice ad4 c.threads.length pd4]⟩, ⟨4, false, [0, 1, 2, 3], fun _ v _ => v = .int .i64 n⟩, ⟨5, false, [0, 1, 2], fun _ v _ => v = .agg #[.slice ad0 c.sems.length pd0, .slice ad1 c.groups.length pd1, .slice ad2 c.barriers.length pd2, .slice ad3 c.rooms.length pd3, .slice ad4 c.threads.length pd4]⟩, ⟨6, false, [0, 1, 2, 5], fun _ v _ => v = .int .i64 n⟩, ⟨7, false, [0, 1, 2, 3, 4, 5, 6], fun _ v _ => v = .bool true⟩, ⟨8, false, [0, 1, 2, 3, 4, 5, 6, 7], fun _ v _ => v = .bool true⟩, ⟨9, false, [0, 1, 2, 3, 4, 5, 6, 7, 8], fun _ v _ => v = .bool true⟩, ⟨10, false, [0, 1, 2, 3, 4, 5, 6, 7, 8, 9], fun _ v _ => v = .agg #[.slice ad0 c.sems.length pd0, .slice ad1 c.groups.length pd1, .slice ad2 c.barriers.length pd2, .slice ad3 c.rooms.length pd3, .slice ad4 c.threads.length pd4]⟩, ⟨11, false, [0, 1, 2, 3, 4, 5, 6, 7, 8, 9], fun _ v _ => v = .agg #[.slice ad5 nL5.length cp5, .slice ad1 c.groups.length pd1, .slice ad2 c.barriers.length pd2, .slice ad3 c.rooms.length pd3, .slice ad4 c.threads.length pd4]⟩, ⟨12, false, [0, 1, 2, 3, 4, 5, 6, 7, 8, 9, 10, 11], fun _ v _ => v = .bool false⟩, ⟨13, false, [0, 1, 2, 3, 4, 5, 6, 7, 8, 9, 10, 11, 12], fun _ v _ => v = .bool true⟩, ⟨14, false, [0, 1, 2, 3, 4, 5, 6, 7, 8, 9, 10, 11, 12, 13], fun _ v _ => v = .bool true⟩, ⟨15, false, [0, 1, 2, 3, 4, 5, 6, 7, 8, 9, 10, 11, 12, 13, 14], fun _ v _ => v = .bool true⟩] [(0, some 39), (1, some 40), (2, some 41), (3, some 42), (4, some 43), (5, some 44), (6, some 45), (7, some 46), (8, some 47), (9, some 48), (10, some 49), (11, some 50), (12, some 51), (13, some 52), (14, some 53), (15, some 2)] (fun _ w' => Below w1.heap.size w1 w' ∧ w6.heap.size ≤ w'.heap.size ∧ w'.heap[w3.heap.size]? = some (.cells #[.slice ad5 nL5.length cp5, .slice ad1 c.groups.length pd1, .slice ad2 c.barriers.length pd2, .slice ad3 c.rooms.length pd3, .slice ad4 c.threads.length pd4] 30 (0, 0)) ∧ w'.heap[w1.heap.size]? = some (.cells #[.slice ad0 c.sems.length pd0, .slice ad1 c.groups.length pd1, .slice ad2 c.barriers.length pd2, .slice ad3 c.rooms.length pd3, .slice ad4 c.threads.length pd4] 30 (0, 0)) ∧ Own w1.heap.size 3 1 encI w' (.slice ad5 nL5.length cp5) nL5) (fun _ _ _ => True) (by kernel_rfl) (by rfl) (by kernel_rfl) (by kernel_rfl) ⟨(B6.out).drew, hN0, (heap_drew Xq_6.out), (heap_drew Xp_6.out), On_6.out⟩ (GoalsL.cons ?_ (GoalsL.cons ?_ (GoalsL.cons ?_ (GoalsL.cons ?_ (GoalsL.cons ?_ (GoalsL.cons ?_ (GoalsL.cons ?_ (GoalsL.cons ?_ (GoalsL.cons ?_ (GoalsL.cons ?_ (GoalsL.cons ?_ (GoalsL.cons ?_ (GoalsL.cons ?_ (GoalsL.cons ?_ (GoalsL.cons ?_ (GoalsL.cons ?_ (GoalsL.nil))))))))))))))))) ?_
        · refine GoalL.mk0 (by rfl) ?_; rintro f u wq hf ⟨hA, hN, x_q, x_p, o_n⟩ hD K hK; clear hD; simp only [put9] at hK ⊢
          obtain ⟨kq_0, kq_1, kq_2, kq_3, kq_4, fq_0, fq_1, fq_2, fq_3, fq_4⟩ := box5 x_q; refine Closed.mk ?_; go_simp
          exact hK.out _ _ ⟨hA, hN, x_q, x_p, o_n⟩ trivial rfl
        · refine GoalL.mk0 (by rfl) ?_; rintro f u wq hf ⟨hA, hN, x_q, x_p, o_n⟩ hD K hK; have e0 : u 0 = _ := hD.1; clear hD; simp only [put9, e0] at hK ⊢
          refine Closed.mk ?_; go_simp
          refine (ProgValidO _ ⟨nL5, c.groups, c.barriers, c.rooms, c.threads⟩ _ (ProgRow.with0 (ProgRow.below HP.out hA) (o_n.row encI_len))).mono ?_
          rw [HVQ.out]
          rintro e wr ⟨rfl, hb⟩
          exact hK.out _ _ ⟨Below.trans hA (hb.mono hA.size), Nat.le_trans hN hb.size, (below_at hb x_q), (below_at hb x_p), (o_n.kept hb)⟩ trivial rfl
        · refine GoalL.mk0 (by rfl) ?_; rintro f u wq hf ⟨hA, hN, x_q, x_p, o_n⟩ hD K hK; have e0 : u 0 = _ := hD.1; have e1 : u 1 = _ := hD.2.1; clear hD; simp only [put9, e0, e1] at hK ⊢
          refine Closed.mk ?_; go_simp
          exact hK.out _ _ ⟨hA, hN, x_q, x_p, o_n⟩ trivial rfl
        · refine GoalL.mk0 (by rfl) ?_; rintro f u wq hf ⟨hA, hN, x_q, x_p, o_n⟩ hD K hK; have e0 : u 0 = _ := hD.1; have e1 : u 1 = _ := hD.2.1; have e2 : u 2 = _ := hD.2.2.1; clear hD; simp only [put9, e0, e1, e2] at hK ⊢
          obtain ⟨kq_0, kq_1, kq_2, kq_3, kq_4, fq_0, fq_1, fq_2, fq_3, fq_4⟩ := box5 x_q; refine Closed.mk ?_; go_simp
          exact hK.out _ _ ⟨hA, hN, x_q, x_p, o_n⟩ trivial rfl
        · refine GoalL.mk0 (by rfl) ?_; rintro f u wq hf ⟨hA, hN, x_q, x_p, o_n⟩ hD K hK; have e0 : u 0 = _ := hD.1; have e1 : u 1 = _ := hD.2.1; have e2 : u 2 = _ := hD.2.2.1; have e3 : u 3 = _ := hD.2.2.2.1; clear hD; simp only [put9, e0, e1, e2, e3] at hK ⊢
          refine Closed.mk ?_; go_simp
          refine (SizeOfO _ ⟨nL5, c.groups, c.barriers, c.rooms, c.threads⟩ _ (ProgRow.with0 (ProgRow.below HP.out hA) (o_n.row encI_len))).mono ?_
          rw [HM.out]
          rintro e wr ⟨rfl, hb⟩
          exact hK.out _ _ ⟨Below.trans hA (hb.mono hA.size), Nat.le_trans hN hb.size, (below_at hb x_q), (below_at hb x_p), (o_n.kept hb)⟩ trivial rfl
        · refine GoalL.mk0 (by rfl) ?_; rintro f u wq hf ⟨hA, hN, x_q, x_p, o_n⟩ hD K hK; have e0 : u 0 = _ := hD.1; have e1 : u 1 = _ := hD.2.1; have e2 : u 2 = _ := hD.2.2.1; clear hD; simp only [put9, e0, e1, e2] at hK ⊢
          obtain ⟨kp_0, kp_1, kp_2, kp_3, kp_4, fp_0, fp_1, fp_2, fp_3, fp_4⟩ := box5 x_p; refine Closed.mk ?_; go_simp
          exact hK.out _ _ ⟨hA, hN, x_q, x_p, o_n⟩ trivial rfl
        · refine GoalL.mk0 (by rfl) ?_; rintro f u wq hf ⟨hA, hN, x_q, x_p, o_n⟩ hD K hK; have e0 : u 0 = _ := hD.1; have e1 : u 1 = _ := hD.2.1; have e2 : u 2 = _ := hD.2.2.1; have e5 : u 5 = _ := hD.2.2.2.1; clear hD; simp only [put9, e0, e1, e2, e5] at hK ⊢
          refine Closed.mk ?_; go_simp
          refine (SizeOfO _ c _ (ProgRow.below HP.out hA)).mono ?_
          rw [HN.out]
          rintro e wr ⟨rfl, hb⟩
          exact hK.out _ _ ⟨Below.trans hA (hb.mono hA.size), Nat.le_trans hN hb.size, (below_at hb x_q), (below_at hb x_p), (o_n.kept hb)⟩ trivial rfl
        · refine GoalL.mk0 (by rfl) ?_; rintro f u wq hf ⟨hA, hN, x_q, x_p, o_n⟩ hD K hK; have e0 : u 0 = _ := hD.1; have e1 : u 1 = _ := hD.2.1; have e2 : u 2 = _ := hD.2.2.1; have e3 : u 3 = _ := hD.2.2.2.1; have e4 : u 4 = _ := hD.2.2.2.2.1; have e5 : u 5 = _ := hD.2.2.2.2.2.1; have e6 : u 6 = _ := hD.2.2.2.2.2.2.1; clear hD; simp only [put9, e0, e1, e2, e3, e4, e5, e6] at hK ⊢
          refine Closed.mk ?_; go_simp
          exact hK.out _ _ ⟨hA, hN, x_q, x_p, o_n⟩ trivial rfl
        · refine GoalL.mk0 (by rfl) ?_; rintro f u wq hf ⟨hA, hN, x_q, x_p, o_n⟩ hD K hK; have e0 : u 0 = _ := hD.1; have e1 : u 1 = _ := hD.2.1; have e2 : u 2 = _ := hD.2.2.1; have e3 : u 3 = _ := hD.2.2.2.1; have e4 : u 4 = _ := hD.2.2.2.2.1; have e5 : u 5 = _ := hD.2.2.2.2.2.1; have e6 : u 6 = _ := hD.2.2.2.2.2.2.1; have e7 : u 7 = _ := hD.2.2.2.2.2.2.2.1; clear hD; simp only [put9, e0, e1, e2, e3, e4, e5, e6, e7] at hK ⊢
          refine Closed.mk ?_; go_simp
          exact hK.out _ _ ⟨hA, hN, x_q, x_p, o_n⟩ trivial rfl
        · refine GoalL.mk0 (by rfl) ?_; rintro f u wq hf ⟨hA, hN, x_q, x_p, o_n⟩ hD K hK; have e0 : u 0 = _ := hD.1; have e1 : u 1 = _ := hD.2.1; have e2 : u 2 = _ := hD.2.2.1; have e3 : u 3 = _ := hD.2.2.2.1; have e4 : u 4 = _ := hD.2.2.2.2.1; have e5 : u 5 = _ := hD.2.2.2.2.2.1; have e6 : u 6 = _ := hD.2.2.2.2.2.2.1; have e7 : u 7 = _ := hD.2.2.2.2.2.2.2.1; have e8 : u 8 = _ := hD.2.2.2.2.2.2.2.2.1; clear hD; simp only [put9, e0, e1, e2, e3, e4, e5, e6, e7, e8] at hK ⊢
          refine Closed.mk ?_; go_simp
          exact hK.out _ _ ⟨hA, hN, x_q, x_p, o_n⟩ trivial rfl
        · refine GoalL.mk0 (by rfl) ?_; rintro f u wq hf ⟨hA, hN, x_q, x_p, o_n⟩ hD K hK; have e0 : u 0 = _ := hD.1; have e1 : u 1 = _ := hD.2.1; have e2 : u 2 = _ := hD.2.2.1; have e3 : u 3 = _ := hD.2.2.2.1; have e4 : u 4 = _ := hD.2.2.2.2.1; have e5 : u 5 = _ := hD.2.2.2.2.2.1; have e6 : u 6 = _ := hD.2.2.2.2.2.2.1; have e7 : u 7 = _ := hD.2.2.2.2.2.2.2.1; have e8 : u 8 = _ := hD.2.2.2.2.2.2.2.2.1; have e9 : u 9 = _ := hD.2.2.2.2.2.2.2.2.2.1; clear hD; simp only [put9, e0, e1, e2, e3, e4, e5, e6, e7, e8, e9] at hK ⊢
          obtain ⟨kp_0, kp_1, kp_2, kp_3, kp_4, fp_0, fp_1, fp_2, fp_3, fp_4⟩ := box5 x_p; refine Closed.mk ?_; go_simp
          exact hK.out _ _ ⟨hA, hN, x_q, x_p, o_n⟩ trivial rfl
        · refine GoalL.mk0 (by rfl) ?_; rintro f u wq hf ⟨hA, hN, x_q, x_p, o_n⟩ hD K hK; have e0 : u 0 = _ := hD.1; have e1 : u 1 = _ := hD.2.1; have e2 : u 2 = _ := hD.2.2.1; have e3 : u 3 = _ := hD.2.2.2.1; have e4 : u 4 = _ := hD.2.2.2.2.1; have e5 : u 5 = _ := hD.2.2.2.2.2.1; have e6 : u 6 = _ := hD.2.2.2.2.2.2.1; have e7 : u 7 = _ := hD.2.2.2.2.2.2.2.1; have e8 : u 8 = _ := hD.2.2.2.2.2.2.2.2.1; have e9 : u 9 = _ := hD.2.2.2.2.2.2.2.2.2.1; clear hD; simp only [put9, e0, e1, e2, e3, e4, e5, e6, e7, e8, e9] at hK ⊢
          obtain ⟨kq_0, kq_1, kq_2, kq_3, kq_4, fq_0, fq_1, fq_2, fq_3, fq_4⟩ := box5 x_q; refine Closed.mk ?_; go_simp
          exact hK.out _ _ ⟨hA, hN, x_q, x_p, o_n⟩ trivial rfl
        · refine GoalL.mk0 (by rfl) ?_; rintro f u wq hf ⟨hA, hN, x_q, x_p, o_n⟩ hD K hK; have e0 : u 0 = _ := hD.1; have e1 : u 1 = _ := hD.2.1; have e2 : u 2 = _ := hD.2.2.1; have e3 : u 3 = _ := hD.2.2.2.1; have e4 : u 4 = _ := hD.2.2.2.2.1; have e5 : u 5 = _ := hD.2.2.2.2.2.1; have e6 : u 6 = _ := hD.2.2.2.2.2.2.1; have e7 : u 7 = _ := hD.2.2.2.2.2.2.2.1; have e8 : u 8 = _ := hD.2.2.2.2.2.2.2.2.1; have e9 : u 9 = _ := hD.2.2.2.2.2.2.2.2.2.1; have e10 : u 10 = _ := hD.2.2.2.2.2.2.2.2.2.2.1; have e11 : u 11 = _ := hD.2.2.2.2.2.2.2.2.2.2.2.1; clear hD; simp only [put9, e0, e1, e2, e3, e4, e5, e6, e7, e8, e9, e10, e11] at hK ⊢
          refine Closed.mk ?_; go_simp
          refine (ProgSameO _ _ c ⟨nL5, c.groups, c.barriers, c.rooms, c.threads⟩ _ (ProgRow.below HP.out hA) (ProgRow.with0 (ProgRow.below HP.out hA) (o_n.row encI_len))).mono ?_
          rw [HNE.out]
          rintro e wr ⟨rfl, hb⟩
          exact hK.out _ _ ⟨Below.trans hA (hb.mono hA.size), Nat.le_trans hN hb.size, (below_at hb x_q), (below_at hb x_p), (o_n.kept hb)⟩ trivial rfl
        · refine GoalL.mk0 (by rfl) ?_; rintro f u wq hf ⟨hA, hN, x_q, x_p, o_n⟩ hD K hK; have e0 : u 0 = _ := hD.1; have e1 : u 1 = _ := hD.2.1; have e2 : u 2 = _ := hD.2.2.1; have e3 : u 3 = _ := hD.2.2.2.1; have e4 : u 4 = _ := hD.2.2.2.2.1; have e5 : u 5 = _ := hD.2.2.2.2.2.1; have e6 : u 6 = _ := hD.2.2.2.2.2.2.1; have e7 : u 7 = _ := hD.2.2.2.2.2.2.2.1; have e8 : u 8 = _ := hD.2.2.2.2.2.2.2.2.1; have e9 : u 9 = _ := hD.2.2.2.2.2.2.2.2.2.1; have e10 : u 10 = _ := hD.2.2.2.2.2.2.2.2.2.2.1; have e11 : u 11 = _ := hD.2.2.2.2.2.2.2.2.2.2.2.1; have e12 : u 12 = _ := hD.2.2.2.2.2.2.2.2.2.2.2.2.1; clear hD; simp only [put9, e0, e1, e2, e3, e4, e5, e6, e7, e8, e9, e10, e11, e12] at hK ⊢
          refine Closed.mk ?_; go_simp
          exact hK.out _ _ ⟨hA, hN, x_q, x_p, o_n⟩ trivial rfl
        · refine GoalL.mk0 (by rfl) ?_; rintro f u wq hf ⟨hA, hN, x_q, x_p, o_n⟩ hD K hK; have e0 : u 0 = _ := hD.1; have e1 : u 1 = _ := hD.2.1; have e2 : u 2 = _ := hD.2.2.1; have e3 : u 3 = _ := hD.2.2.2.1; have e4 : u 4 = _ := hD.2.2.2.2.1; have e5 : u 5 = _ := hD.2.2.2.2.2.1; have e6 : u 6 = _ := hD.2.2.2.2.2.2.1; have e7 : u 7 = _ := hD.2.2.2.2.2.2.2.1; have e8 : u 8 = _ := hD.2.2.2.2.2.2.2.2.1; have e9 : u 9 = _ := hD.2.2.2.2.2.2.2.2.2.1; have e10 : u 10 = _ := hD.2.2.2.2.2.2.2.2.2.2.1; have e11 : u 11 = _ := hD.2.2.2.2.2.2.2.2.2.2.2.1; have e12 : u 12 = _ := hD.2.2.2.2.2.2.2.2.2.2.2.2.1; have e13 : u 13 = _ := hD.2.2.2.2.2.2.2.2.2.2.2.2.2.1; clear hD; simp only [put9, e0, e1, e2, e3, e4, e5, e6, e7, e8, e9, e10, e11, e12, e13] at hK ⊢
          refine Closed.mk ?_; go_simp
          exact hK.out _ _ ⟨hA, hN, x_q, x_p, o_n⟩ trivial rfl
        · refine GoalL.mk0 (by rfl) ?_; rintro f u wq hf ⟨hA, hN, x_q, x_p, o_n⟩ hD K hK; have e0 : u 0 = _ := hD.1; have e1 : u 1 = _ := hD.2.1; have e2 : u 2 = _ := hD.2.2.1; have e3 : u 3 = _ := hD.2.2.2.1; have e4 : u 4 = _ := hD.2.2.2.2.1; have e5 : u 5 = _ := hD.2.2.2.2.2.1; have e6 : u 6 = _ := hD.2.2.2.2.2.2.1; have e7 : u 7 = _ := hD.2.2.2.2.2.2.2.1; have e8 : u 8 = _ := hD.2.2.2.2.2.2.2.2.1; have e9 : u 9 = _ := hD.2.2.2.2.2.2.2.2.2.1; have e10 : u 10 = _ := hD.2.2.2.2.2.2.2.2.2.2.1; have e11 : u 11 = _ := hD.2.2.2.2.2.2.2.2.2.2.2.1; have e12 : u 12 = _ := hD.2.2.2.2.2.2.2.2.2.2.2.2.1; have e13 : u 13 = _ := hD.2.2.2.2.2.2.2.2.2.2.2.2.2.1; have e14 : u 14 = _ := hD.2.2.2.2.2.2.2.2.2.2.2.2.2.2.1; clear hD; simp only [put9, e0, e1, e2, e3, e4, e5, e6, e7, e8, e9, e10, e11, e12, e13, e14] at hK ⊢
          refine Closed.mk ?_; go_simp
          exact hK.out _ _ ⟨hA, hN, x_q, x_p, o_n⟩ trivial rfl
        intro u w7 hC hD
        have hA := hC.1; have hN := hC.2.1; have x_q := hC.2.2.1; have x_p := hC.2.2.2.1; have o_n := hC.2.2.2.2; clear hC
        have e0 : u 0 = _ := hD.1; have e1 : u 1 = _ := hD.2.1; have e2 : u 2 = _ := hD.2.2.1; have e3 : u 3 = _ := hD.2.2.2.1; have e4 : u 4 = _ := hD.2.2.2.2.1; have e5 : u 5 = _ := hD.2.2.2.2.2.1; have e6 : u 6 = _ := hD.2.2.2.2.2.2.1; have e7 : u 7 = _ := hD.2.2.2.2.2.2.2.1; have e8 : u 8 = _ := hD.2.2.2.2.2.2.2.2.1; have e9 : u 9 = _ := hD.2.2.2.2.2.2.2.2.2.1; have e10 : u 10 = _ := hD.2.2.2.2.2.2.2.2.2.2.1; have e11 : u 11 = _ := hD.2.2.2.2.2.2.2.2.2.2.2.1; have e12 : u 12 = _ := hD.2.2.2.2.2.2.2.2.2.2.2.2.1; have e13 : u 13 = _ := hD.2.2.2.2.2.2.2.2.2.2.2.2.2.1; have e14 : u 14 = _ := hD.2.2.2.2.2.2.2.2.2.2.2.2.2.2.1; have e15 : u 15 = _ := hD.2.2.2.2.2.2.2.2.2.2.2.2.2.2.2.1; clear hD
        have B7 := Lib.hid hA; have N7 := hN; have S7 := hA.size
        have Xq_7 := Lib.hid x_q; clear x_q
        have Xp_7 := Lib.hid x_p; clear x_p
        have On_7 := Lib.hid o_n; clear o_n
        obtain ⟨cq7_0, cq7_1, cq7_2, cq7_3, cq7_4, fq7_0, fq7_1, fq7_2, fq7_3, fq7_4⟩ := box5 Xq_7.out; have lq7 := heap_lt Xq_7.out
        obtain ⟨cp7_0, cp7_1, cp7_2, cp7_3, cp7_4, fp7_0, fp7_1, fp7_2, fp7_3, fp7_4⟩ := box5 Xp_7.out; have lp7 := heap_lt Xp_7.out
        clear hA hN
        simp only [put9, e0, e1, e2, e3, e4, e5, e6, e7, e8, e9, e10, e11, e12, e13, e14, e15]
        refine Closed.mk (wpAnyH_done (by kernel_rfl) ?_ _)
        go_wp2
        go_ret
        exact ⟨rfl, Below.trans BW.out ((B7.out).mono SB)⟩
  · go_enter Try.func11, Try.ntmps11
    go_wp2
    go_ret
    exact ⟨rfl, Below.refl _ _⟩
end Go.Proofs.Ytobkammimkgnkaa
