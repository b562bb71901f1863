/- FnSizeAdd: the law's walk (made by gen_proglaws.py). -/
import Derived.Test.YtobkammimkgnkaaDrawProgs
import Derived.Test.YtobkammimkgnkaaProgLaw
import Derived.Test.YtobkammimkgnkaaRgA
namespace Go.Proofs.Ytobkammimkgnkaa
open Go.RowKit
set_option linter.unusedSimpArgs false
set_option linter.unusedVariables false
set_option maxRecDepth 100000 in
set_option maxHeartbeats 8000000 in
theorem FnSizeAdd_calls (v : Value) (bs : List Int) (w : World) (h : Row 1 encB w v bs) (hbs : ∀ x ∈ bs, 0 ≤ x ∧ x ≤ 255) :
    Calls Try.prog 10 #[v] w fun e w' => e = .returned (.bool true) ∧ Below w.heap.size w w' := by
  have HB := Lib.hid hbs; clear hbs
  have H0 := Lib.hid h
  obtain ⟨a, c, rfl, l1, l2, l3⟩ := h
  clear l3
  by_cases hl : bs.length ≤ 1048576
  · go_enter Try.func10, Try.ntmps10
    go_wp2_with (fail)
    refine (DrawSizeOf_calls _ bs _ (Row.below H0.out (Below.refl _ _)) HB.out).mono ?_
    rintro e w1 ⟨vd, c, rfl, ho_d, hfd, hb⟩
    have B1 := Lib.hid (Below.trans (Below.refl _ _) (hb.mono (by first | omega | (simp only [szA, szS, szD, World.heap_drewN] at * <;> omega))) : Below w.heap.size w w1)
    have Z1 := hb.size
    have N1 : w.heap.size ≤ w1.heap.size := (by first | with_reducible exact Z1 | (simp only [szA, szS, szD] at Z1; omega))
    clear Z1
    have Od_1 := Lib.hid (ho_d.mono (lo' := w.heap.size) (by first | omega | (simp only [szA, szS, szD, World.heap_drewN] at * <;> omega)) (Nat.le_refl _)); obtain ⟨ad0, pd0, ad1, pd1, ad2, pd2, ad3, pd3, ad4, pd4, rfl, hx_d⟩ := ho_d; clear hx_d
    clear hb
    have S1 : w.heap.size ≤ w1.heap.size := (by omega)
    clear hfd
    have HP := Lib.hid (Od_1.out.row); have BW := B1; have SB := S1; clear Od_1 B1 S1
    have B1 := Lib.hid (Below.refl w1.heap.size w1); have S1 : w1.heap.size ≤ w1.heap.size := Nat.le_refl _
    obtain ⟨n, hn⟩ : ∃ n, sizeB c = n := ⟨_, rfl⟩
    have HN := Lib.hid hn; clear hn
    have q0 : (n == n) = true := beq_self_eq_true _
    cases hv : progB c
    · have HV := Lib.hid hv; clear hv
      go_wp2_with (fail)
      refine (SizeOfO _ c _ (ProgRow.below HP.out (Below.alloc B1.out (by first | omega | (simp only [szA, szS, szD, World.heap_drewN] at * <;> omega)) _))).mono ?_
      rw [HN.out]
      rintro e w2 ⟨rfl, hb⟩
      have B2 := Lib.hid (Below.trans (Below.alloc B1.out (by first | omega | (simp only [szA, szS, szD, World.heap_drewN] at * <;> omega)) _) (hb.mono (by first | omega | (simp only [szA, szS, szD, World.heap_drewN] at * <;> omega))) : Below w1.heap.size w1 w2)
      have Z2 := hb.size
      have N2 : w1.heap.size + 1 ≤ w2.heap.size := (by first | with_reducible exact Z2 | (simp only [szA, szS, szD] at Z2; omega))
      clear Z2
      have Xp_2 : Hid (w2.heap[w1.heap.size]? = some (.cells #[.slice ad0 c.sems.length pd0, .slice ad1 c.groups.length pd1, .slice ad2 c.barriers.length pd2, .slice ad3 c.rooms.length pd3, .slice ad4 c.threads.length pd4] 30 (0, 0))) := below_at hb (heap_at' (n := w1.heap.size) (by first | omega | (simp only [szA, szS, szD, World.heap_drewN] at * <;> omega)))
      clear hb
      obtain ⟨cp2_0, cp2_1, cp2_2, cp2_3, cp2_4, fp2_0, fp2_1, fp2_2, fp2_3, fp2_4⟩ := box5 Xp_2.out; have lp2 := heap_lt Xp_2.out
      have S2 : w1.heap.size ≤ w2.heap.size := (by omega)
      go_wp2_with (fail)
      refine (sSizeOfO _ c _ (ProgRow.below HP.out B2.out)).mono ?_
      rw [HN.out]
      rintro e w3 ⟨rfl, hb⟩
      have B3 := Lib.hid (Below.trans B2.out (hb.mono (by first | omega | (simp only [szA, szS, szD, World.heap_drewN] at * <;> omega))) : Below w1.heap.size w1 w3)
      have Z3 := hb.size
      have N3 : w2.heap.size ≤ w3.heap.size := (by first | with_reducible exact Z3 | (simp only [szA, szS, szD] at Z3; omega))
      clear Z3
      have Xp_3 := Lib.hid (below_at hb Xp_2.out)
      clear hb
      obtain ⟨cp3_0, cp3_1, cp3_2, cp3_3, cp3_4, fp3_0, fp3_1, fp3_2, fp3_3, fp3_4⟩ := box5 Xp_3.out; have lp3 := heap_lt Xp_3.out
      have S3 : w1.heap.size ≤ w3.heap.size := (by omega)
      clear cp2_0 cp2_1 cp2_2 cp2_3 cp2_4 fp2_0 fp2_1 fp2_2 fp2_3 fp2_4
      go_wp2_with (fail)
      refine (ProgValidO _ c _ (ProgRow.below HP.out B3.out)).mono ?_
      rw [HV.out]
      rintro e w4 ⟨rfl, hb⟩
      have B4 := Lib.hid (Below.trans B3.out (hb.mono (by first | omega | (simp only [szA, szS, szD, World.heap_drewN] at * <;> omega))) : Below w1.heap.size w1 w4)
      have Z4 := hb.size
      have N4 : w3.heap.size ≤ w4.heap.size := (by first | with_reducible exact Z4 | (simp only [szA, szS, szD] at Z4; omega))
      clear Z4
      have Xp_4 := Lib.hid (below_at hb Xp_3.out)
      clear hb
      obtain ⟨cp4_0, cp4_1, cp4_2, cp4_3, cp4_4, fp4_0, fp4_1, fp4_2, fp4_3, fp4_4⟩ := box5 Xp_4.out; have lp4 := heap_lt Xp_4.out
      have S4 : w1.heap.size ≤ w4.heap.size := (by omega)
      clear cp3_0 cp3_1 cp3_2 cp3_3 cp3_4 fp3_0 fp3_1 fp3_2 fp3_3 fp3_4
      go_wp2_with (fail)
      refine (sSizeOfO _ c _ (ProgRow.below HP.out B4.out)).mono ?_
      rw [HN.out]
      rintro e w5 ⟨rfl, hb⟩
      have B5 := Lib.hid (Below.trans B4.out (hb.mono (by first | omega | (simp only [szA, szS, szD, World.heap_drewN] at * <;> omega))) : Below w1.heap.size w1 w5)
      have Z5 := hb.size
      have N5 : w4.heap.size ≤ w5.heap.size := (by first | with_reducible exact Z5 | (simp only [szA, szS, szD] at Z5; omega))
      clear Z5
      have Xp_5 := Lib.hid (below_at hb Xp_4.out)
      clear hb
      obtain ⟨cp5_0, cp5_1, cp5_2, cp5_3, cp5_4, fp5_0, fp5_1, fp5_2, fp5_3, fp5_4⟩ := box5 Xp_5.out; have lp5 := heap_lt Xp_5.out
      have S5 : w1.heap.size ≤ w5.heap.size := (by omega)
      clear cp4_0 cp4_1 cp4_2 cp4_3 cp4_4 fp4_0 fp4_1 fp4_2 fp4_3 fp4_4
      go_wp2
      go_ret
      exact ⟨rfl, Below.trans BW.out ((B5.out).mono SB)⟩
    · have HV := Lib.hid hv; have HOK := Lib.hid (progB_true.1 hv); clear hv
      go_wp2_with (fail)
      refine (SizeOfO _ c _ (ProgRow.below HP.out (Below.alloc B1.out (by first | omega | (simp only [szA, szS, szD, World.heap_drewN] at * <;> omega)) _))).mono ?_
      rw [HN.out]
      rintro e w2 ⟨rfl, hb⟩
      have B2 := Lib.hid (Below.trans (Below.alloc B1.out (by first | omega | (simp only [szA, szS, szD, World.heap_drewN] at * <;> omega)) _) (hb.mono (by first | omega | (simp only [szA, szS, szD, World.heap_drewN] at * <;> omega))) : Below w1.heap.size w1 w2)
      have Z2 := hb.size
      have N2 : w1.heap.size + 1 ≤ w2.heap.size := (by first | with_reducible exact Z2 | (simp only [szA, szS, szD] at Z2; omega))
      clear Z2
      have Xp_2 : Hid (w2.heap[w1.heap.size]? = some (.cells #[.slice ad0 c.sems.length pd0, .slice ad1 c.groups.length pd1, .slice ad2 c.barriers.length pd2, .slice ad3 c.rooms.length pd3, .slice ad4 c.threads.length pd4] 30 (0, 0))) := below_at hb (heap_at' (n := w1.heap.size) (by first | omega | (simp only [szA, szS, szD, World.heap_drewN] at * <;> omega)))
      clear hb
      obtain ⟨cp2_0, cp2_1, cp2_2, cp2_3, cp2_4, fp2_0, fp2_1, fp2_2, fp2_3, fp2_4⟩ := box5 Xp_2.out; have lp2 := heap_lt Xp_2.out
      have S2 : w1.heap.size ≤ w2.heap.size := (by omega)
      go_wp2_with (fail)
      refine (sSizeOfO _ c _ (ProgRow.below HP.out B2.out)).mono ?_
      rw [HN.out]
      rintro e w3 ⟨rfl, hb⟩
      have B3 := Lib.hid (Below.trans B2.out (hb.mono (by first | omega | (simp only [szA, szS, szD, World.heap_drewN] at * <;> omega))) : Below w1.heap.size w1 w3)
      have Z3 := hb.size
      have N3 : w2.heap.size ≤ w3.heap.size := (by first | with_reducible exact Z3 | (simp only [szA, szS, szD] at Z3; omega))
      clear Z3
      have Xp_3 := Lib.hid (below_at hb Xp_2.out)
      clear hb
      obtain ⟨cp3_0, cp3_1, cp3_2, cp3_3, cp3_4, fp3_0, fp3_1, fp3_2, fp3_3, fp3_4⟩ := box5 Xp_3.out; have lp3 := heap_lt Xp_3.out
      have S3 : w1.heap.size ≤ w3.heap.size := (by omega)
      clear cp2_0 cp2_1 cp2_2 cp2_3 cp2_4 fp2_0 fp2_1 fp2_2 fp2_3 fp2_4
      go_wp2_with (fail)
      refine (ProgValidO _ c _ (ProgRow.below HP.out B3.out)).mono ?_
      rw [HV.out]
      rintro e w4 ⟨rfl, hb⟩
      have B4 := Lib.hid (Below.trans B3.out (hb.mono (by first | omega | (simp only [szA, szS, szD, World.heap_drewN] at * <;> omega))) : Below w1.heap.size w1 w4)
      have Z4 := hb.size
      have N4 : w3.heap.size ≤ w4.heap.size := (by first | with_reducible exact Z4 | (simp only [szA, szS, szD] at Z4; omega))
      clear Z4
      have Xp_4 := Lib.hid (below_at hb Xp_3.out)
      clear hb
      obtain ⟨cp4_0, cp4_1, cp4_2, cp4_3, cp4_4, fp4_0, fp4_1, fp4_2, fp4_3, fp4_4⟩ := box5 Xp_4.out; have lp4 := heap_lt Xp_4.out
      have S4 : w1.heap.size ≤ w4.heap.size := (by omega)
      clear cp3_0 cp3_1 cp3_2 cp3_3 cp3_4 fp3_0 fp3_1 fp3_2 fp3_3 fp3_4
      by_cases h4 : c.threads.length = 4
      · have d2 : ((c.threads.length : Int) == 4) = true := beq_iff_eq.2 (by omega)
        have d3 : (c.threads.length == 4) = true := beq_iff_eq.2 h4
        clear h4
        go_wp2_with (fail)
        refine (sSizeOfO _ c _ (ProgRow.below HP.out B4.out)).mono ?_
        rw [HN.out]
        rintro e w5 ⟨rfl, hb⟩
        have B5 := Lib.hid (Below.trans B4.out (hb.mono (by first | omega | (simp only [szA, szS, szD, World.heap_drewN] at * <;> omega))) : Below w1.heap.size w1 w5)
        have Z5 := hb.size
        have N5 : w4.heap.size ≤ w5.heap.size := (by first | with_reducible exact Z5 | (simp only [szA, szS, szD] at Z5; omega))
        clear Z5
        have Xp_5 := Lib.hid (below_at hb Xp_4.out)
        clear hb
        obtain ⟨cp5_0, cp5_1, cp5_2, cp5_3, cp5_4, fp5_0, fp5_1, fp5_2, fp5_3, fp5_4⟩ := box5 Xp_5.out; have lp5 := heap_lt Xp_5.out
        have S5 : w1.heap.size ≤ w5.heap.size := (by omega)
        clear cp4_0 cp4_1 cp4_2 cp4_3 cp4_4 fp4_0 fp4_1 fp4_2 fp4_3 fp4_4
        go_wp2
        go_ret
        exact ⟨rfl, Below.trans BW.out ((B5.out).mono SB)⟩
      · have d2 : ((c.threads.length : Int) == 4) = false := beq_eq_false_iff_ne.2 (by omega)
        have d3 : (c.threads.length == 4) = false := beq_eq_false_iff_ne.2 h4
        obtain ⟨a0', p0', a1', p1', a2', p2', a3', p3', a4', p4', e, r0, r1, r2, r3, r4⟩ := HP.out; cases e; clear r0 r1 r2 r3
        obtain ⟨us, hus, hin⟩ := r4
        have hul := hin.1
        have HS := Lib.hid hus; have HIN := Lib.hid hin; clear hus hin
        have htl : c.threads.length ≤ 4 := HOK.out.2.2.2.2.2.1
        obtain ⟨z, hz⟩ : ∃ l, c.threads ++ [two9] = l := ⟨_, rfl⟩
        obtain ⟨m, hm, hw, hq⟩ := size_more HOK.out h4 hz HN.out
        have HM := Lib.hid hm; have HVQ := Lib.hid hq; have HZ := Lib.hid hz; clear hm hq hz h4
        have q1 : (m == m) = true := beq_self_eq_true _
        have hul4 : us.length ≤ 4 := by omega
        clear hul
        go_wp2_with (first | (at_builtin; refine wpList_cloneE _ encS_len one_sv rfl _ _ 28 rfl 47 _ 24 Try.underlying28 info_Ops rfl (by decide) (w4.heap.size + 1) rfl (by first | omega | (simp only [szA, szS, szD, World.heap_drewN] at * <;> omega)) (.slice ad4 c.threads.length pd4) us rfl (Row.below HS.out (Below.alloc B4.out (by first | omega | (simp only [szA, szS, szD, World.heap_drewN] at * <;> omega)) _)) (by decide) (by omega) ?_; intro an pn w5 ho_n hb; have B5 := Lib.hid (Below.trans (Below.alloc B4.out (by first | omega | (simp only [szA, szS, szD, World.heap_drewN] at * <;> omega)) _) (hb.mono (by first | omega | (simp only [szA, szS, szD, World.heap_drewN] at * <;> omega))) : Below w1.heap.size w1 w5); have Z5 := hb.size; have N5 : w4.heap.size + 1 ≤ w5.heap.size := (by first | with_reducible exact Z5 | (simp only [szA, szS, szD] at Z5; omega)); clear Z5; have Xp_5 := Lib.hid (below_at hb (heap_up Xp_4.out)); have Xq_5 : Hid (w5.heap[w4.heap.size]? = some (.cells #[.slice ad0 c.sems.length pd0, .slice ad1 c.groups.length pd1, .slice ad2 c.barriers.length pd2, .slice ad3 c.rooms.length pd3, .slice ad4 c.threads.length pd4] 30 (0, 0))) := below_at hb (heap_at' (n := w4.heap.size) (by first | omega | (simp only [szA, szS, szD, World.heap_drewN] at * <;> omega))); have On_5 := Lib.hid (Own.mono (base' := w1.heap.size) ho_n (by first | omega | (simp only [szA, szS, szD, World.heap_drewN] at * <;> omega))); clear ho_n; clear hb; obtain ⟨cp5_0, cp5_1, cp5_2, cp5_3, cp5_4, fp5_0, fp5_1, fp5_2, fp5_3, fp5_4⟩ := box5 Xp_5.out; have lp5 := heap_lt Xp_5.out; obtain ⟨cq5_0, cq5_1, cq5_2, cq5_3, cq5_4, fq5_0, fq5_1, fq5_2, fq5_3, fq5_4⟩ := box5 Xq_5.out; have lq5 := heap_lt Xq_5.out; have S5 : w1.heap.size ≤ w5.heap.size := (by omega)) | (at_builtin; refine Closed.out ?_))
        refine Closed.mk ?_
        clear cp4_0 cp4_1 cp4_2 cp4_3 cp4_4 fp4_0 fp4_1 fp4_2 fp4_3 fp4_4
        go_wp2_with (at_builtin; refine wpList_snoc _ encS_len one_sv rfl _ _ 28 rfl 47 _ 24 Try.underlying28 info_Ops rfl (by decide) w1.heap.size (.slice an us.length pn) us rfl (On_5.out.alloc _) (some ⟨w5.heap.size, 0, none⟩, 2, 2) _ rfl _ rfl (by first | omega | (simp only [szA, szS, szD, World.heap_drewN] at * <;> omega)) (by decide) (by omega) (by first | omega | (simp only [szA, szS, szD, World.heap_drewN] at * <;> omega)) ?_; intro ad6 cp6 w6 hown hg hat; obtain ⟨nL6, hnL6⟩ : ∃ l, us ++ [(some ⟨w5.heap.size, 0, none⟩, 2, 2)] = l := ⟨_, rfl⟩; have lnL6 : us.length + 1 = nL6.length := (by rw [← hnL6, List.length_append, List.length_singleton]); rw [hnL6, lnL6] at hown; rw [lnL6]; have HnL6 := Lib.hid hnL6; clear hnL6; have KnL6 := Lib.hid lnL6; clear lnL6; rw [KnL6.out] at hat; clear hat; have Xp_6 := Lib.hid (grown_at2 hg (heap_up (heap_up Xp_5.out)) (On_5.out.ne Xp_5.out (by decide))); have Xq_6 := Lib.hid (grown_at2 hg (heap_up (heap_up Xq_5.out)) (On_5.out.ne Xq_5.out (by decide))); have Xli_6 : Hid (w6.heap[w5.heap.size]? = some (.cells #[.int .i64 1, .int .i64 0, .int .i64 1, .int .i64 1, .int .i64 0, .int .i64 2] 36 (0, 0))) := grown_at2 hg (heap_up (heap_at' (n := w5.heap.size) (by first | omega | (simp only [szA, szS, szD, World.heap_drewN] at * <;> omega)))) (On_5.out.not_new (by omega)); have On_6 := Lib.hid hown; have B6 := Lib.hid (Below.grown (Below.alloc (Below.alloc B5.out (by first | omega | (simp only [szA, szS, szD, World.heap_drewN] at * <;> omega)) _) (by first | omega | (simp only [szA, szS, szD, World.heap_drewN] at * <;> omega)) _) hg (by first | omega | (simp only [szA, szS, szD, World.heap_drewN]; omega)) (fun g e => Nat.le_trans (by omega) (On_5.out.blk g e))); have N6 : w5.heap.size + 2 ≤ w6.heap.size := (by first | with_reducible exact hg.size | (have := hg.size; simp only [szA, szS, szD] at this; omega)); clear hown hg; obtain ⟨cp6_0, cp6_1, cp6_2, cp6_3, cp6_4, fp6_0, fp6_1, fp6_2, fp6_3, fp6_4⟩ := box5 Xp_6.out; have lp6 := heap_lt Xp_6.out; obtain ⟨cq6_0, cq6_1, cq6_2, cq6_3, cq6_4, fq6_0, fq6_1, fq6_2, fq6_3, fq6_4⟩ := box5 Xq_6.out; have lq6 := heap_lt Xq_6.out; have lli6 := heap_lt Xli_6.out; have S6 : w1.heap.size ≤ w6.heap.size := (by omega))
        clear cp5_0 cp5_1 cp5_2 cp5_3 cp5_4 fp5_0 fp5_1 fp5_2 fp5_3 fp5_4 cq5_0 cq5_1 cq5_2 cq5_3 cq5_4 fq5_0 fq5_1 fq5_2 fq5_3 fq5_4
        go_wp2_with (fail)
        refine (SizeOfO _ ⟨c.sems, c.groups, c.barriers, c.rooms, z⟩ _ (ProgRow.with4 (ProgRow.below HP.out (below_setAt B6.out (w4.heap.size) 4 (by first | omega | (simp only [szA, szS, szD, World.heap_drewN] at * <;> omega)) (.slice ad6 nL6.length cp6))) (TTRow.more9 (HIN.out.below (below_setAt B6.out (w4.heap.size) 4 (by first | omega | (simp only [szA, szS, szD, World.heap_drewN] at * <;> omega)) (.slice ad6 nL6.length cp6))) HnL6.out ((On_6.out.setB (w4.heap.size) 4 Xq_6.out (by decide) (.slice ad6 nL6.length cp6)).row encS_len) (two9_row (set_off (a := ⟨w4.heap.size, 4, none⟩) Xli_6.out (by first | omega | (simp only [szA, szS, szD, World.heap_drewN] at * <;> omega)) (.slice ad6 nL6.length cp6))) HZ.out))).mono ?_
        rw [HM.out]
        rintro e w7 ⟨rfl, hb⟩
        have B7 := Lib.hid (Below.trans (below_setAt B6.out (w4.heap.size) 4 (by first | omega | (simp only [szA, szS, szD, World.heap_drewN] at * <;> omega)) (.slice ad6 nL6.length cp6)) (hb.mono (by first | omega | (simp only [szA, szS, szD, World.heap_drewN] at * <;> omega))) : Below w1.heap.size w1 w7)
        have Z7 := hb.size
        have N7 : w6.heap.size ≤ w7.heap.size := (by first | with_reducible exact Z7 | (simp only [szA, szS, szD] at Z7; omega))
        clear Z7
        have Xp_7 := Lib.hid (below_at hb (set_off (a := ⟨w4.heap.size, 4, none⟩) Xp_6.out (by first | omega | (simp only [szA, szS, szD, World.heap_drewN] at * <;> omega)) (.slice ad6 nL6.length cp6)))
        have Xq_7 := Lib.hid (below_at hb (set_at (a := ⟨w4.heap.size, 4, none⟩) Xq_6.out rfl rfl (.slice ad6 nL6.length cp6)))
        have Xli_7 := Lib.hid (below_at hb (set_off (a := ⟨w4.heap.size, 4, none⟩) Xli_6.out (by first | omega | (simp only [szA, szS, szD, World.heap_drewN] at * <;> omega)) (.slice ad6 nL6.length cp6)))
        have On_7 := Lib.hid ((On_6.out.setB (w4.heap.size) 4 Xq_6.out (by decide) (.slice ad6 nL6.length cp6)).kept hb)
        clear hb
        obtain ⟨cp7_0, cp7_1, cp7_2, cp7_3, cp7_4, fp7_0, fp7_1, fp7_2, fp7_3, fp7_4⟩ := box5 Xp_7.out; have lp7 := heap_lt Xp_7.out
        obtain ⟨cq7_0, cq7_1, cq7_2, cq7_3, cq7_4, fq7_0, fq7_1, fq7_2, fq7_3, fq7_4⟩ := box5 Xq_7.out; have lq7 := heap_lt Xq_7.out
        have lli7 := heap_lt Xli_7.out
        have S7 : w1.heap.size ≤ w7.heap.size := (by omega)
        clear cp6_0 cp6_1 cp6_2 cp6_3 cp6_4 fp6_0 fp6_1 fp6_2 fp6_3 fp6_4 cq6_0 cq6_1 cq6_2 cq6_3 cq6_4 fq6_0 fq6_1 fq6_2 fq6_3 fq6_4
        go_wp2_with (fail)
        refine (ProgValidO _ ⟨c.sems, c.groups, c.barriers, c.rooms, z⟩ _ (ProgRow.with4 (ProgRow.below HP.out B7.out) (TTRow.more9 (HIN.out.below B7.out) HnL6.out (On_7.out.row encS_len) (two9_row Xli_7.out) HZ.out))).mono ?_
        rw [HVQ.out]
        rintro e w8 ⟨rfl, hb⟩
        have B8 := Lib.hid (Below.trans B7.out (hb.mono (by first | omega | (simp only [szA, szS, szD, World.heap_drewN] at * <;> omega))) : Below w1.heap.size w1 w8)
        have Z8 := hb.size
        have N8 : w7.heap.size ≤ w8.heap.size := (by first | with_reducible exact Z8 | (simp only [szA, szS, szD] at Z8; omega))
        clear Z8
        have Xp_8 := Lib.hid (below_at hb Xp_7.out)
        have Xq_8 := Lib.hid (below_at hb Xq_7.out)
        have Xli_8 := Lib.hid (below_at hb Xli_7.out)
        have On_8 := Lib.hid (On_7.out.kept hb)
        clear hb
        obtain ⟨cp8_0, cp8_1, cp8_2, cp8_3, cp8_4, fp8_0, fp8_1, fp8_2, fp8_3, fp8_4⟩ := box5 Xp_8.out; have lp8 := heap_lt Xp_8.out
        obtain ⟨cq8_0, cq8_1, cq8_2, cq8_3, cq8_4, fq8_0, fq8_1, fq8_2, fq8_3, fq8_4⟩ := box5 Xq_8.out; have lq8 := heap_lt Xq_8.out
        have lli8 := heap_lt Xli_8.out
        have S8 : w1.heap.size ≤ w8.heap.size := (by omega)
        clear cp7_0 cp7_1 cp7_2 cp7_3 cp7_4 fp7_0 fp7_1 fp7_2 fp7_3 fp7_4 cq7_0 cq7_1 cq7_2 cq7_3 cq7_4 fq7_0 fq7_1 fq7_2 fq7_3 fq7_4
        go_wp2
        go_ret
        exact ⟨rfl, Below.trans BW.out ((B8.out).mono SB)⟩
  · go_enter Try.func10, Try.ntmps10
    go_wp2
    go_ret
    exact ⟨rfl, Below.refl _ _⟩
end Go.Proofs.Ytobkammimkgnkaa
