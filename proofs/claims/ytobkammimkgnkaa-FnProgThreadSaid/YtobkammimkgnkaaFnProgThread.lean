/- FnProgThread: the law's walk (made by gen_proglaws.py). -/
import Derived.Test.YtobkammimkgnkaaDrawProgs
import Derived.Test.YtobkammimkgnkaaProgLaw
namespace Go.Proofs.Ytobkammimkgnkaa
open Go.RowKit
set_option linter.unusedSimpArgs false
set_option linter.unusedVariables false
set_option maxRecDepth 100000 in
set_option maxHeartbeats 8000000 in
theorem FnProgThread_calls (v : Value) (bs : List Int) (w : World) (h : Row 1 encB w v bs) (hbs : ∀ x ∈ bs, 0 ≤ x ∧ x ≤ 255) :
    Calls Try.prog 8 #[v] w fun e w' => e = .returned (.bool true) ∧ Below w.heap.size w w' := by
  have HB := Lib.hid hbs; clear hbs
  have H0 := Lib.hid h
  obtain ⟨a, c, rfl, l1, l2, l3⟩ := h
  clear l3
  by_cases hl : bs.length ≤ 1048576
  · go_enter Try.func8, Try.ntmps8
    go_wp2_with (fail)
    refine (DrawProgValid_calls _ bs _ (Row.below H0.out (Below.refl _ _)) HB.out).mono ?_
    rintro e w1 ⟨vd, c, rfl, ho_d, hfd, hb⟩
    have B1 := Lib.hid (Below.trans (Below.refl _ _) (hb.mono (by first | omega | (simp only [szA, szS, szD, World.heap_drewN] at * <;> omega))) : Below w.heap.size w w1)
    have Z1 := hb.size
    have N1 : w.heap.size ≤ w1.heap.size := (by first | with_reducible exact Z1 | (simp only [szA, szS, szD] at Z1; omega))
    clear Z1
    have Od_1 := Lib.hid (ho_d.mono (lo' := w.heap.size) (by first | omega | (simp only [szA, szS, szD, World.heap_drewN] at * <;> omega)) (Nat.le_refl _)); obtain ⟨ad0, pd0, ad1, pd1, ad2, pd2, ad3, pd3, ad4, pd4, rfl, hx_d⟩ := ho_d; clear hx_d
    clear hb
    have S1 : w.heap.size ≤ w1.heap.size := (by omega)
    clear hfd
    have HP := Lib.hid (Od_1.out.row); have BW := B1; have SB := S1; clear Od_1 B1 S1
    have B1 := Lib.hid (Below.refl w1.heap.size w1); have S1 : w1.heap.size ≤ w1.heap.size := Nat.le_refl _
    cases hv : progB c
    · have HV := Lib.hid hv; clear hv
      go_wp2_with (fail)
      refine (ProgValidO _ c _ (ProgRow.below HP.out (Below.alloc B1.out (by first | omega | (simp only [szA, szS, szD, World.heap_drewN] at * <;> omega)) _))).mono ?_
      rw [HV.out]
      rintro e w2 ⟨rfl, hb⟩
      have B2 := Lib.hid (Below.trans (Below.alloc B1.out (by first | omega | (simp only [szA, szS, szD, World.heap_drewN] at * <;> omega)) _) (hb.mono (by first | omega | (simp only [szA, szS, szD, World.heap_drewN] at * <;> omega))) : Below w1.heap.size w1 w2)
      have Z2 := hb.size
      have N2 : w1.heap.size + 1 ≤ w2.heap.size := (by first | with_reducible exact Z2 | (simp only [szA, szS, szD] at Z2; omega))
      clear Z2
      have Xp_2 : Hid (w2.heap[w1.heap.size]? = some (.cells #[.slice ad0 c.sems.length pd0, .slice ad1 c.groups.length pd1, .slice ad2 c.barriers.length pd2, .slice ad3 c.rooms.length pd3, .slice ad4 c.threads.length pd4] 30 (0, 0))) := below_at hb (heap_at' (n := w1.heap.size) (by first | omega | (simp only [szA, szS, szD, World.heap_drewN] at * <;> omega)))
      clear hb
      obtain ⟨cp2_0, cp2_1, cp2_2, cp2_3, cp2_4, fp2_0, fp2_1, fp2_2, fp2_3, fp2_4⟩ := box5 Xp_2.out; have lp2 := heap_lt Xp_2.out
      have S2 : w1.heap.size ≤ w2.heap.size := (by omega)
      go_wp2_with (fail)
      refine (sProgValidO _ c _ (ProgRow.below HP.out B2.out)).mono ?_
      rw [HV.out]
      rintro e w3 ⟨rfl, hb⟩
      have B3 := Lib.hid (Below.trans B2.out (hb.mono (by first | omega | (simp only [szA, szS, szD, World.heap_drewN] at * <;> omega))) : Below w1.heap.size w1 w3)
      have Z3 := hb.size
      have N3 : w2.heap.size ≤ w3.heap.size := (by first | with_reducible exact Z3 | (simp only [szA, szS, szD] at Z3; omega))
      clear Z3
      have Xp_3 := Lib.hid (below_at hb Xp_2.out)
      clear hb
      obtain ⟨cp3_0, cp3_1, cp3_2, cp3_3, cp3_4, fp3_0, fp3_1, fp3_2, fp3_3, fp3_4⟩ := box5 Xp_3.out; have lp3 := heap_lt Xp_3.out
      have S3 : w1.heap.size ≤ w3.heap.size := (by omega)
      clear cp2_0 cp2_1 cp2_2 cp2_3 cp2_4 fp2_0 fp2_1 fp2_2 fp2_3 fp2_4
      go_wp2_with (fail)
      refine (sProgValidO _ c _ (ProgRow.below HP.out B3.out)).mono ?_
      rw [HV.out]
      rintro e w4 ⟨rfl, hb⟩
      have B4 := Lib.hid (Below.trans B3.out (hb.mono (by first | omega | (simp only [szA, szS, szD, World.heap_drewN] at * <;> omega))) : Below w1.heap.size w1 w4)
      have Z4 := hb.size
      have N4 : w3.heap.size ≤ w4.heap.size := (by first | with_reducible exact Z4 | (simp only [szA, szS, szD] at Z4; omega))
      clear Z4
      have Xp_4 := Lib.hid (below_at hb Xp_3.out)
      clear hb
      obtain ⟨cp4_0, cp4_1, cp4_2, cp4_3, cp4_4, fp4_0, fp4_1, fp4_2, fp4_3, fp4_4⟩ := box5 Xp_4.out; have lp4 := heap_lt Xp_4.out
      have S4 : w1.heap.size ≤ w4.heap.size := (by omega)
      clear cp3_0 cp3_1 cp3_2 cp3_3 cp3_4 fp3_0 fp3_1 fp3_2 fp3_3 fp3_4
      go_wp2
      go_ret
      exact ⟨rfl, Below.trans BW.out ((B4.out).mono SB)⟩
    · have HV := Lib.hid hv; have HOK := Lib.hid (progB_true.1 hv); clear hv
      go_wp2_with (fail)
      refine (ProgValidO _ c _ (ProgRow.below HP.out (Below.alloc B1.out (by first | omega | (simp only [szA, szS, szD, World.heap_drewN] at * <;> omega)) _))).mono ?_
      rw [HV.out]
      rintro e w2 ⟨rfl, hb⟩
      have B2 := Lib.hid (Below.trans (Below.alloc B1.out (by first | omega | (simp only [szA, szS, szD, World.heap_drewN] at * <;> omega)) _) (hb.mono (by first | omega | (simp only [szA, szS, szD, World.heap_drewN] at * <;> omega))) : Below w1.heap.size w1 w2)
      have Z2 := hb.size
      have N2 : w1.heap.size + 1 ≤ w2.heap.size := (by first | with_reducible exact Z2 | (simp only [szA, szS, szD] at Z2; omega))
      clear Z2
      have Xp_2 : Hid (w2.heap[w1.heap.size]? = some (.cells #[.slice ad0 c.sems.length pd0, .slice ad1 c.groups.length pd1, .slice ad2 c.barriers.length pd2, .slice ad3 c.rooms.length pd3, .slice ad4 c.threads.length pd4] 30 (0, 0))) := below_at hb (heap_at' (n := w1.heap.size) (by first | omega | (simp only [szA, szS, szD, World.heap_drewN] at * <;> omega)))
      clear hb
      obtain ⟨cp2_0, cp2_1, cp2_2, cp2_3, cp2_4, fp2_0, fp2_1, fp2_2, fp2_3, fp2_4⟩ := box5 Xp_2.out; have lp2 := heap_lt Xp_2.out
      have S2 : w1.heap.size ≤ w2.heap.size := (by omega)
      go_wp2_with (fail)
      refine (sProgValidO _ c _ (ProgRow.below HP.out B2.out)).mono ?_
      rw [HV.out]
      rintro e w3 ⟨rfl, hb⟩
      have B3 := Lib.hid (Below.trans B2.out (hb.mono (by first | omega | (simp only [szA, szS, szD, World.heap_drewN] at * <;> omega))) : Below w1.heap.size w1 w3)
      have Z3 := hb.size
      have N3 : w2.heap.size ≤ w3.heap.size := (by first | with_reducible exact Z3 | (simp only [szA, szS, szD] at Z3; omega))
      clear Z3
      have Xp_3 := Lib.hid (below_at hb Xp_2.out)
      clear hb
      obtain ⟨cp3_0, cp3_1, cp3_2, cp3_3, cp3_4, fp3_0, fp3_1, fp3_2, fp3_3, fp3_4⟩ := box5 Xp_3.out; have lp3 := heap_lt Xp_3.out
      have S3 : w1.heap.size ≤ w3.heap.size := (by omega)
      clear cp2_0 cp2_1 cp2_2 cp2_3 cp2_4 fp2_0 fp2_1 fp2_2 fp2_3 fp2_4
      by_cases h2 : c.threads.length < 2
      · have d2 : decide ((c.threads.length : Int) < 2) = true := decide_eq_true (by omega)
        go_wp2_with (fail)
        refine (sProgValidO _ c _ (ProgRow.below HP.out B3.out)).mono ?_
        rw [HV.out]
        rintro e w4 ⟨rfl, hb⟩
        have B4 := Lib.hid (Below.trans B3.out (hb.mono (by first | omega | (simp only [szA, szS, szD, World.heap_drewN] at * <;> omega))) : Below w1.heap.size w1 w4)
        have Z4 := hb.size
        have N4 : w3.heap.size ≤ w4.heap.size := (by first | with_reducible exact Z4 | (simp only [szA, szS, szD] at Z4; omega))
        clear Z4
        have Xp_4 := Lib.hid (below_at hb Xp_3.out)
        clear hb
        obtain ⟨cp4_0, cp4_1, cp4_2, cp4_3, cp4_4, fp4_0, fp4_1, fp4_2, fp4_3, fp4_4⟩ := box5 Xp_4.out; have lp4 := heap_lt Xp_4.out
        have S4 : w1.heap.size ≤ w4.heap.size := (by omega)
        clear cp3_0 cp3_1 cp3_2 cp3_3 cp3_4 fp3_0 fp3_1 fp3_2 fp3_3 fp3_4
        go_wp2
        go_ret
        exact ⟨rfl, Below.trans BW.out ((B4.out).mono SB)⟩
      · have d2 : decide ((c.threads.length : Int) < 2) = false := decide_eq_false (by omega)
        obtain ⟨a0', p0', a1', p1', a2', p2', a3', p3', a4', p4', e, r0, r1, r2, r3, r4⟩ := HP.out; cases e; clear r0 r1 r2 r3
        obtain ⟨_, _, e1, k0, km, r5⟩ := r4.look; injection e1 with e1 _ e2; subst e1 e2
        obtain ⟨b, o, rfl, hb1, hc1⟩ := r5 (by omega)
        obtain ⟨th, ht⟩ := get_ex (show 0 < c.threads.length by omega)
        obtain ⟨zs, zd, g1, q1⟩ := hc1 0 th ht
        rw [Nat.add_zero] at g1
        obtain ⟨ts, hts⟩ : ∃ ys, c.threads.drop 1 = ys := ⟨_, rfl⟩
        have hyl : c.threads.length - 1 = ts.length := by rw [← hts]; simp
        have HT1 := r4.rest9 (by omega)
        rw [hts, hyl] at HT1
        rw [if_neg (by omega)] at HT1
        have k1 : (1 : Int) ≤ (c.threads.length : Int) := by omega
        have k2 : 1 ≤ c.threads.length := by omega
        have k3 : (1 : Int) ≤ (pd4 : Int) := by omega
        have k4 : 1 ≤ pd4 := by omega
        have k5 : (c.threads.length : Int) ≤ (pd4 : Int) := by omega
        obtain ⟨n, m, hn, hm, hw⟩ := size_rest HOK.out (by omega) ht hts
        have HN := Lib.hid hn; have HM := Lib.hid hm; have HVQ := Lib.hid (progB_yes (progOk_rest HOK.out (by omega) hts)); have HQ := Lib.hid (HP.out.with4 HT1); have G1 := Lib.hid g1; clear hn hm HT1 ht hts hc1 r5 q1 r4 g1
        have q0 : (m == m) = true := beq_self_eq_true _
        have i0 : (0 : Int) < (c.threads.length : Int) := by omega
        have i1 : 0 < c.threads.length := by omega
        go_wp2_with (fail)
        have hN0 : w3.heap.size + 1 ≤ (w3.alloc (.cells #[.slice ad0 c.sems.length pd0, .slice ad1 c.groups.length pd1, .slice ad2 c.barriers.length pd2, .slice ad3 c.rooms.length pd3, .slice (some ⟨b, o + 1, none⟩) ts.length (pd4 - 1)] 30)).heap.size := (by first | omega | (simp only [szA, szS, szD, World.heap_drewN] at * <;> omega))
        have c0_0 : (w3.alloc (.cells #[.slice ad0 c.sems.length pd0, .slice ad1 c.groups.length pd1, .slice ad2 c.barriers.length pd2, .slice ad3 c.rooms.length pd3, .slice (some ⟨b, o + 1, none⟩) ts.length (pd4 - 1)] 30)).drew.cell? ⟨b, o, none⟩ = some (.slice zs th.length zd) := (((Below.alloc B3.out (by first | omega | (simp only [szA, szS, szD, World.heap_drewN] at * <;> omega)) _)).drew.cell (p := ⟨b, o, none⟩) hb1).trans G1.out
        refine wp_region_L [⟨0, false, [], fun _ v _ => v = .agg #[.slice ad0 c.sems.length pd0, .slice ad1 c.groups.length pd1, .slice ad2 c.barriers.length pd2, .slice ad3 c.rooms.length pd3, .slice (some ⟨b, o + 1, none⟩) ts.length (pd4 - 1)]⟩, ⟨1, false, [0], fun _ v _ => v = .bool true⟩, ⟨2, false, [0, 1], fun _ v _ => v = .bool true⟩, ⟨3, false, [0, 1, 2], fun _ v _ => v = .agg #[.slice ad0 c.sems.length pd0, .slice ad1 c.groups.length pd1, .slice ad2 c.barriers.length pd2, .slice ad3 c.rooms.length pd3, .slice (some ⟨b, o + 1, none⟩) ts.length (pd4 - 1)]⟩, ⟨4, false, [0, 1, 2, 3], fun _ v _ => v = .int .i64 m⟩, ⟨5, false, [0, 1, 2], fun _ v _ => v = .agg #[.slice ad0 c.sems.length pd0, .slice ad1 c.groups.length pd1, .slice ad2 c.barriers.length pd2, .slice ad3 c.rooms.length pd3, .slice (some ⟨b, o, none⟩) c.threads.length pd4]⟩, ⟨6, false, [0, 1, 2, 5], fun _ v _ => v = .int .i64 n⟩, ⟨7, false, [0, 1, 2], fun _ v _ => v = .pointer (some ⟨w1.heap.size, 4, none⟩)⟩, ⟨8, false, [0, 1, 2, 7], fun _ v _ => v = .slice (some ⟨b, o, none⟩) c.threads.length pd4⟩, ⟨9, false, [0, 1, 2, 7, 8], fun _ v _ => v = .pointer (some ⟨b, o, none⟩)⟩, ⟨10, false, [0, 1, 2, 7, 8, 9], fun _ v _ => v = .slice zs th.length zd⟩, ⟨11, false, [0, 1, 2, 7, 8, 9, 10], fun _ v _ => v = .int .i64 (th.length : Int)⟩, ⟨12, false, [0, 1, 2, 5, 6, 7, 8, 9, 10, 11], fun _ v _ => v = .int .i64 m⟩, ⟨13, false, [0, 1, 2, 3, 4, 5, 6, 7, 8, 9, 10, 11, 12], fun _ v _ => v = .bool true⟩, ⟨14, false, [0, 1, 2, 3, 4, 5, 6, 7, 8, 9, 10, 11, 12, 13], fun _ v _ => v = .bool true⟩, ⟨15, false, [0, 1, 2, 3, 4, 5, 6, 7, 8, 9, 10, 11, 12, 13, 14], fun _ v _ => v = .bool true⟩] [(0, some 36), (1, some 37), (2, some 38), (3, some 39), (4, some 40), (5, some 41), (6, some 42), (7, some 43), (8, some 44), (9, some 45), (10, some 46), (11, some 47), (12, some 48), (13, some 49), (14, some 50), (15, some 2)] (fun _ w' => Below w1.heap.size w1 w' ∧ w3.heap.size + 1 ≤ w'.heap.size ∧ w'.heap[w3.heap.size]? = some (.cells #[.slice ad0 c.sems.length pd0, .slice ad1 c.groups.length pd1, .slice ad2 c.barriers.length pd2, .slice ad3 c.rooms.length pd3, .slice (some ⟨b, o + 1, none⟩) ts.length (pd4 - 1)] 30 (0, 0)) ∧ w'.heap[w1.heap.size]? = some (.cells #[.slice ad0 c.sems.length pd0, .slice ad1 c.groups.length pd1, .slice ad2 c.barriers.length pd2, .slice ad3 c.rooms.length pd3, .slice (some ⟨b, o, none⟩) c.threads.length pd4] 30 (0, 0)) ∧ w'.cell? ⟨b, o, none⟩ = some (.slice zs th.length zd)) (fun _ _ _ => True) (by kernel_rfl) (by rfl) (by kernel_rfl) (by kernel_rfl) ⟨((Below.alloc B3.out (by first | omega | (simp only [szA, szS, szD, World.heap_drewN] at * <;> omega)) _)).drew, hN0, (heap_drew (heap_at' (n := w3.heap.size) (by first | omega | (simp only [szA, szS, szD, World.heap_drewN] at * <;> omega)))), (heap_drew (heap_up Xp_3.out)), c0_0⟩ (GoalsL.cons ?_ (GoalsL.cons ?_ (GoalsL.cons ?_ (GoalsL.cons ?_ (GoalsL.cons ?_ (GoalsL.cons ?_ (GoalsL.cons ?_ (GoalsL.cons ?_ (GoalsL.cons ?_ (GoalsL.cons ?_ (GoalsL.cons ?_ (GoalsL.cons ?_ (GoalsL.cons ?_ (GoalsL.cons ?_ (GoalsL.cons ?_ (GoalsL.cons ?_ (GoalsL.nil))))))))))))))))) ?_
        · refine GoalL.mk0 (by rfl) ?_; rintro f u wq hf ⟨hA, hN, x_q, x_p, c_0⟩ hD K hK; clear hD; simp only [put9] at hK ⊢
          obtain ⟨kq_0, kq_1, kq_2, kq_3, kq_4, fq_0, fq_1, fq_2, fq_3, fq_4⟩ := box5 x_q; refine Closed.mk ?_; go_simp
          exact hK.out _ _ ⟨hA, hN, x_q, x_p, c_0⟩ trivial rfl
        · refine GoalL.mk0 (by rfl) ?_; rintro f u wq hf ⟨hA, hN, x_q, x_p, c_0⟩ hD K hK; have e0 : u 0 = _ := hD.1; clear hD; simp only [put9, e0] at hK ⊢
          refine Closed.mk ?_; go_simp
          refine (ProgValidO _ ⟨c.sems, c.groups, c.barriers, c.rooms, ts⟩ _ (ProgRow.below HQ.out hA)).mono ?_
          rw [HVQ.out]
          rintro e wr ⟨rfl, hb⟩
          exact hK.out _ _ ⟨Below.trans hA (hb.mono hA.size), Nat.le_trans hN hb.size, (below_at hb x_q), (below_at hb x_p), ((hb.cell (p := ⟨b, o, none⟩) (Nat.lt_of_lt_of_le (Nat.lt_of_lt_of_le hb1 (by first | omega | (simp only [szA, szD]; omega))) hN)).trans c_0)⟩ trivial rfl
        · refine GoalL.mk0 (by rfl) ?_; rintro f u wq hf ⟨hA, hN, x_q, x_p, c_0⟩ hD K hK; have e0 : u 0 = _ := hD.1; have e1 : u 1 = _ := hD.2.1; clear hD; simp only [put9, e0, e1] at hK ⊢
          refine Closed.mk ?_; go_simp
          exact hK.out _ _ ⟨hA, hN, x_q, x_p, c_0⟩ trivial rfl
        · refine GoalL.mk0 (by rfl) ?_; rintro f u wq hf ⟨hA, hN, x_q, x_p, c_0⟩ hD K hK; have e0 : u 0 = _ := hD.1; have e1 : u 1 = _ := hD.2.1; have e2 : u 2 = _ := hD.2.2.1; clear hD; simp only [put9, e0, e1, e2] at hK ⊢
          obtain ⟨kq_0, kq_1, kq_2, kq_3, kq_4, fq_0, fq_1, fq_2, fq_3, fq_4⟩ := box5 x_q; refine Closed.mk ?_; go_simp
          exact hK.out _ _ ⟨hA, hN, x_q, x_p, c_0⟩ trivial rfl
        · refine GoalL.mk0 (by rfl) ?_; rintro f u wq hf ⟨hA, hN, x_q, x_p, c_0⟩ hD K hK; have e0 : u 0 = _ := hD.1; have e1 : u 1 = _ := hD.2.1; have e2 : u 2 = _ := hD.2.2.1; have e3 : u 3 = _ := hD.2.2.2.1; clear hD; simp only [put9, e0, e1, e2, e3] at hK ⊢
          refine Closed.mk ?_; go_simp
          refine (SizeOfO _ ⟨c.sems, c.groups, c.barriers, c.rooms, ts⟩ _ (ProgRow.below HQ.out hA)).mono ?_
          rw [HM.out]
          rintro e wr ⟨rfl, hb⟩
          exact hK.out _ _ ⟨Below.trans hA (hb.mono hA.size), Nat.le_trans hN hb.size, (below_at hb x_q), (below_at hb x_p), ((hb.cell (p := ⟨b, o, none⟩) (Nat.lt_of_lt_of_le (Nat.lt_of_lt_of_le hb1 (by first | omega | (simp only [szA, szD]; omega))) hN)).trans c_0)⟩ trivial rfl
        · refine GoalL.mk0 (by rfl) ?_; rintro f u wq hf ⟨hA, hN, x_q, x_p, c_0⟩ hD K hK; have e0 : u 0 = _ := hD.1; have e1 : u 1 = _ := hD.2.1; have e2 : u 2 = _ := hD.2.2.1; clear hD; simp only [put9, e0, e1, e2] at hK ⊢
          obtain ⟨kp_0, kp_1, kp_2, kp_3, kp_4, fp_0, fp_1, fp_2, fp_3, fp_4⟩ := box5 x_p; refine Closed.mk ?_; go_simp
          exact hK.out _ _ ⟨hA, hN, x_q, x_p, c_0⟩ trivial rfl
        · refine GoalL.mk0 (by rfl) ?_; rintro f u wq hf ⟨hA, hN, x_q, x_p, c_0⟩ hD K hK; have e0 : u 0 = _ := hD.1; have e1 : u 1 = _ := hD.2.1; have e2 : u 2 = _ := hD.2.2.1; have e5 : u 5 = _ := hD.2.2.2.1; clear hD; simp only [put9, e0, e1, e2, e5] at hK ⊢
          refine Closed.mk ?_; go_simp
          refine (SizeOfO _ c _ (ProgRow.below HP.out hA)).mono ?_
          rw [HN.out]
          rintro e wr ⟨rfl, hb⟩
          exact hK.out _ _ ⟨Below.trans hA (hb.mono hA.size), Nat.le_trans hN hb.size, (below_at hb x_q), (below_at hb x_p), ((hb.cell (p := ⟨b, o, none⟩) (Nat.lt_of_lt_of_le (Nat.lt_of_lt_of_le hb1 (by first | omega | (simp only [szA, szD]; omega))) hN)).trans c_0)⟩ trivial rfl
        · refine GoalL.mk0 (by rfl) ?_; rintro f u wq hf ⟨hA, hN, x_q, x_p, c_0⟩ hD K hK; have e0 : u 0 = _ := hD.1; have e1 : u 1 = _ := hD.2.1; have e2 : u 2 = _ := hD.2.2.1; clear hD; simp only [put9, e0, e1, e2] at hK ⊢
          refine Closed.mk ?_; go_simp
          exact hK.out _ _ ⟨hA, hN, x_q, x_p, c_0⟩ trivial rfl
        · refine GoalL.mk0 (by rfl) ?_; rintro f u wq hf ⟨hA, hN, x_q, x_p, c_0⟩ hD K hK; have e0 : u 0 = _ := hD.1; have e1 : u 1 = _ := hD.2.1; have e2 : u 2 = _ := hD.2.2.1; have e7 : u 7 = _ := hD.2.2.2.1; clear hD; simp only [put9, e0, e1, e2, e7] at hK ⊢
          obtain ⟨kp_0, kp_1, kp_2, kp_3, kp_4, fp_0, fp_1, fp_2, fp_3, fp_4⟩ := box5 x_p; refine Closed.mk ?_; go_simp
          exact hK.out _ _ ⟨hA, hN, x_q, x_p, c_0⟩ trivial rfl
        · refine GoalL.mk0 (by rfl) ?_; rintro f u wq hf ⟨hA, hN, x_q, x_p, c_0⟩ hD K hK; have e0 : u 0 = _ := hD.1; have e1 : u 1 = _ := hD.2.1; have e2 : u 2 = _ := hD.2.2.1; have e7 : u 7 = _ := hD.2.2.2.1; have e8 : u 8 = _ := hD.2.2.2.2.1; clear hD; simp only [put9, e0, e1, e2, e7, e8] at hK ⊢
          refine Closed.mk ?_; go_simp
          exact hK.out _ _ ⟨hA, hN, x_q, x_p, c_0⟩ trivial rfl
        · refine GoalL.mk0 (by rfl) ?_; rintro f u wq hf ⟨hA, hN, x_q, x_p, c_0⟩ hD K hK; have e0 : u 0 = _ := hD.1; have e1 : u 1 = _ := hD.2.1; have e2 : u 2 = _ := hD.2.2.1; have e7 : u 7 = _ := hD.2.2.2.1; have e8 : u 8 = _ := hD.2.2.2.2.1; have e9 : u 9 = _ := hD.2.2.2.2.2.1; clear hD; simp only [put9, e0, e1, e2, e7, e8, e9] at hK ⊢
          refine Closed.mk ?_; go_simp
          exact hK.out _ _ ⟨hA, hN, x_q, x_p, c_0⟩ trivial rfl
        · refine GoalL.mk0 (by rfl) ?_; rintro f u wq hf ⟨hA, hN, x_q, x_p, c_0⟩ hD K hK; have e0 : u 0 = _ := hD.1; have e1 : u 1 = _ := hD.2.1; have e2 : u 2 = _ := hD.2.2.1; have e7 : u 7 = _ := hD.2.2.2.1; have e8 : u 8 = _ := hD.2.2.2.2.1; have e9 : u 9 = _ := hD.2.2.2.2.2.1; have e10 : u 10 = _ := hD.2.2.2.2.2.2.1; clear hD; simp only [put9, e0, e1, e2, e7, e8, e9, e10] at hK ⊢
          refine Closed.mk ?_; go_simp
          exact hK.out _ _ ⟨hA, hN, x_q, x_p, c_0⟩ trivial rfl
        · refine GoalL.mk0 (by rfl) ?_; rintro f u wq hf ⟨hA, hN, x_q, x_p, c_0⟩ hD K hK; have e0 : u 0 = _ := hD.1; have e1 : u 1 = _ := hD.2.1; have e2 : u 2 = _ := hD.2.2.1; have e5 : u 5 = _ := hD.2.2.2.1; have e6 : u 6 = _ := hD.2.2.2.2.1; have e7 : u 7 = _ := hD.2.2.2.2.2.1; have e8 : u 8 = _ := hD.2.2.2.2.2.2.1; have e9 : u 9 = _ := hD.2.2.2.2.2.2.2.1; have e10 : u 10 = _ := hD.2.2.2.2.2.2.2.2.1; have e11 : u 11 = _ := hD.2.2.2.2.2.2.2.2.2.1; clear hD; simp only [put9, e0, e1, e2, e5, e6, e7, e8, e9, e10, e11] at hK ⊢
          refine Closed.mk ?_; go_simp
          exact hK.out _ _ ⟨hA, hN, x_q, x_p, c_0⟩ trivial rfl
        · refine GoalL.mk0 (by rfl) ?_; rintro f u wq hf ⟨hA, hN, x_q, x_p, c_0⟩ hD K hK; have e0 : u 0 = _ := hD.1; have e1 : u 1 = _ := hD.2.1; have e2 : u 2 = _ := hD.2.2.1; have e3 : u 3 = _ := hD.2.2.2.1; have e4 : u 4 = _ := hD.2.2.2.2.1; have e5 : u 5 = _ := hD.2.2.2.2.2.1; have e6 : u 6 = _ := hD.2.2.2.2.2.2.1; have e7 : u 7 = _ := hD.2.2.2.2.2.2.2.1; have e8 : u 8 = _ := hD.2.2.2.2.2.2.2.2.1; have e9 : u 9 = _ := hD.2.2.2.2.2.2.2.2.2.1; have e10 : u 10 = _ := hD.2.2.2.2.2.2.2.2.2.2.1; have e11 : u 11 = _ := hD.2.2.2.2.2.2.2.2.2.2.2.1; have e12 : u 12 = _ := hD.2.2.2.2.2.2.2.2.2.2.2.2.1; clear hD; simp only [put9, e0, e1, e2, e3, e4, e5, e6, e7, e8, e9, e10, e11, e12] at hK ⊢
          refine Closed.mk ?_; go_simp
          exact hK.out _ _ ⟨hA, hN, x_q, x_p, c_0⟩ trivial rfl
        · refine GoalL.mk0 (by rfl) ?_; rintro f u wq hf ⟨hA, hN, x_q, x_p, c_0⟩ hD K hK; have e0 : u 0 = _ := hD.1; have e1 : u 1 = _ := hD.2.1; have e2 : u 2 = _ := hD.2.2.1; have e3 : u 3 = _ := hD.2.2.2.1; have e4 : u 4 = _ := hD.2.2.2.2.1; have e5 : u 5 = _ := hD.2.2.2.2.2.1; have e6 : u 6 = _ := hD.2.2.2.2.2.2.1; have e7 : u 7 = _ := hD.2.2.2.2.2.2.2.1; have e8 : u 8 = _ := hD.2.2.2.2.2.2.2.2.1; have e9 : u 9 = _ := hD.2.2.2.2.2.2.2.2.2.1; have e10 : u 10 = _ := hD.2.2.2.2.2.2.2.2.2.2.1; have e11 : u 11 = _ := hD.2.2.2.2.2.2.2.2.2.2.2.1; have e12 : u 12 = _ := hD.2.2.2.2.2.2.2.2.2.2.2.2.1; have e13 : u 13 = _ := hD.2.2.2.2.2.2.2.2.2.2.2.2.2.1; clear hD; simp only [put9, e0, e1, e2, e3, e4, e5, e6, e7, e8, e9, e10, e11, e12, e13] at hK ⊢
          refine Closed.mk ?_; go_simp
          exact hK.out _ _ ⟨hA, hN, x_q, x_p, c_0⟩ trivial rfl
        · refine GoalL.mk0 (by rfl) ?_; rintro f u wq hf ⟨hA, hN, x_q, x_p, c_0⟩ hD K hK; have e0 : u 0 = _ := hD.1; have e1 : u 1 = _ := hD.2.1; have e2 : u 2 = _ := hD.2.2.1; have e3 : u 3 = _ := hD.2.2.2.1; have e4 : u 4 = _ := hD.2.2.2.2.1; have e5 : u 5 = _ := hD.2.2.2.2.2.1; have e6 : u 6 = _ := hD.2.2.2.2.2.2.1; have e7 : u 7 = _ := hD.2.2.2.2.2.2.2.1; have e8 : u 8 = _ := hD.2.2.2.2.2.2.2.2.1; have e9 : u 9 = _ := hD.2.2.2.2.2.2.2.2.2.1; have e10 : u 10 = _ := hD.2.2.2.2.2.2.2.2.2.2.1; have e11 : u 11 = _ := hD.2.2.2.2.2.2.2.2.2.2.2.1; have e12 : u 12 = _ := hD.2.2.2.2.2.2.2.2.2.2.2.2.1; have e13 : u 13 = _ := hD.2.2.2.2.2.2.2.2.2.2.2.2.2.1; have e14 : u 14 = _ := hD.2.2.2.2.2.2.2.2.2.2.2.2.2.2.1; clear hD; simp only [put9, e0, e1, e2, e3, e4, e5, e6, e7, e8, e9, e10, e11, e12, e13, e14] at hK ⊢
          refine Closed.mk ?_; go_simp
          exact hK.out _ _ ⟨hA, hN, x_q, x_p, c_0⟩ trivial rfl
        intro u w4 hC hD
        have hA := hC.1; have hN := hC.2.1; have x_q := hC.2.2.1; have x_p := hC.2.2.2.1; have c_0 := hC.2.2.2.2; clear hC
        have e0 : u 0 = _ := hD.1; have e1 : u 1 = _ := hD.2.1; have e2 : u 2 = _ := hD.2.2.1; have e3 : u 3 = _ := hD.2.2.2.1; have e4 : u 4 = _ := hD.2.2.2.2.1; have e5 : u 5 = _ := hD.2.2.2.2.2.1; have e6 : u 6 = _ := hD.2.2.2.2.2.2.1; have e7 : u 7 = _ := hD.2.2.2.2.2.2.2.1; have e8 : u 8 = _ := hD.2.2.2.2.2.2.2.2.1; have e9 : u 9 = _ := hD.2.2.2.2.2.2.2.2.2.1; have e10 : u 10 = _ := hD.2.2.2.2.2.2.2.2.2.2.1; have e11 : u 11 = _ := hD.2.2.2.2.2.2.2.2.2.2.2.1; have e12 : u 12 = _ := hD.2.2.2.2.2.2.2.2.2.2.2.2.1; have e13 : u 13 = _ := hD.2.2.2.2.2.2.2.2.2.2.2.2.2.1; have e14 : u 14 = _ := hD.2.2.2.2.2.2.2.2.2.2.2.2.2.2.1; have e15 : u 15 = _ := hD.2.2.2.2.2.2.2.2.2.2.2.2.2.2.2.1; clear hD
        have B4 := Lib.hid hA; have N4 := hN; have S4 := hA.size
        have Xq_4 := Lib.hid x_q; clear x_q
        have Xp_4 := Lib.hid x_p; clear x_p
        obtain ⟨cq4_0, cq4_1, cq4_2, cq4_3, cq4_4, fq4_0, fq4_1, fq4_2, fq4_3, fq4_4⟩ := box5 Xq_4.out; have lq4 := heap_lt Xq_4.out
        obtain ⟨cp4_0, cp4_1, cp4_2, cp4_3, cp4_4, fp4_0, fp4_1, fp4_2, fp4_3, fp4_4⟩ := box5 Xp_4.out; have lp4 := heap_lt Xp_4.out
        clear hA hN
        simp only [put9, e0, e1, e2, e3, e4, e5, e6, e7, e8, e9, e10, e11, e12, e13, e14, e15]
        refine Closed.mk (wpAnyH_done (by kernel_rfl) ?_ _)
        go_wp2
        go_ret
        exact ⟨rfl, Below.trans BW.out ((B4.out).mono SB)⟩
  · go_enter Try.func8, Try.ntmps8
    go_wp2
    go_ret
    exact ⟨rfl, Below.refl _ _⟩
end Go.Proofs.Ytobkammimkgnkaa
