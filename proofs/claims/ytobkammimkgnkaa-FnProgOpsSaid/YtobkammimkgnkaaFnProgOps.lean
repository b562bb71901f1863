/- FnProgOps: the law's walk (made by gen_proglaws.py). -/
import Derived.Test.YtobkammimkgnkaaDrawProgs
import Derived.Test.YtobkammimkgnkaaProgLaw
import Derived.Test.YtobkammimkgnkaaRg2
namespace Go.Proofs.Ytobkammimkgnkaa
open Go.RowKit
set_option linter.unusedSimpArgs false
set_option linter.unusedVariables false
set_option maxRecDepth 100000 in
set_option maxHeartbeats 16000000 in
theorem FnProgOps_calls (v : Value) (bs : List Int) (w : World) (h : Row 1 encB w v bs) (hbs : ∀ x ∈ bs, 0 ≤ x ∧ x ≤ 255) :
    Calls Try.prog 9 #[v] w fun e w' => e = .returned (.bool true) ∧ Below w.heap.size w w' := by
  have HB := Lib.hid hbs; clear hbs
  have H0 := Lib.hid h
  obtain ⟨a, c, rfl, l1, l2, l3⟩ := h
  clear l3
  by_cases hl : bs.length ≤ 1048576
  · go_enter Try.func9, Try.ntmps9
    go_wp2_with (fail)
    refine (DrawSizeOf_calls _ bs _ (Row.below H0.out (Below.refl _ _)) HB.out).mono ?_
    rintro e w1 ⟨vd, c, rfl, ho_d, hfd, hb⟩
    have B1 := Lib.hid (Below.trans (Below.refl _ _) (hb.mono (by first | omega | (simp only [szA, szS, szD, World.heap_drewN] at * <;> omega))) : Below w.heap.size w w1)
    have Z1 := hb.size
    have N1 : w.heap.size ≤ w1.heap.size := (by first | with_reducible exact Z1 | (simp only [szA, szS, szD] at Z1; omega))
    clear Z1
    have Od_1 := Lib.hid (ho_d.mono (lo' := w.heap.size) (by first | omega | (simp only [szA, szS, szD, World.heap_drewN] at * <;> omega)) (Nat.le_refl _)); obtain ⟨ad0, pd0, ad1, pd1, ad2, pd2, ad3, pd3, ad4, pd4, rfl, hx_d⟩ := ho_d; clear hx_d
    clear hb
    have S1 : w.heap.size ≤ w1.heap.size := (by omega)
    clear hfd
    have HP := Lib.hid (Od_1.out.row); have BW := B1; have SB := S1; clear Od_1 B1 S1
    have B1 := Lib.hid (Below.refl w1.heap.size w1); have S1 : w1.heap.size ≤ w1.heap.size := Nat.le_refl _
    cases hv : progB c
    · have HV := Lib.hid hv; have HN := Lib.hid (sizeB_no hv); clear hv
      go_wp2_with (fail)
      refine (SizeOfO _ c _ (ProgRow.below HP.out (Below.alloc B1.out (by first | omega | (simp only [szA, szS, szD, World.heap_drewN] at * <;> omega)) _))).mono ?_
      rw [HN.out]
      rintro e w2 ⟨rfl, hb⟩
      have B2 := Lib.hid (Below.trans (Below.alloc B1.out (by first | omega | (simp only [szA, szS, szD, World.heap_drewN] at * <;> omega)) _) (hb.mono (by first | omega | (simp only [szA, szS, szD, World.heap_drewN] at * <;> omega))) : Below w1.heap.size w1 w2)
      have Z2 := hb.size
      have N2 : w1.heap.size + 1 ≤ w2.heap.size := (by first | with_reducible exact Z2 | (simp only [szA, szS, szD] at Z2; omega))
      clear Z2
      have Xp_2 : Hid (w2.heap[w1.heap.size]? = some (.cells #[.slice ad0 c.sems.length pd0, .slice ad1 c.groups.length pd1, .slice ad2 c.barriers.length pd2, .slice ad3 c.rooms.length pd3, .slice ad4 c.threads.length pd4] 30 (0, 0))) := below_at hb (heap_at' (n := w1.heap.size) (by first | omega | (simp only [szA, szS, szD, World.heap_drewN] at * <;> omega)))
      clear hb
      obtain ⟨cp2_0, cp2_1, cp2_2, cp2_3, cp2_4, fp2_0, fp2_1, fp2_2, fp2_3, fp2_4⟩ := box5 Xp_2.out; have lp2 := heap_lt Xp_2.out
      have S2 : w1.heap.size ≤ w2.heap.size := (by omega)
      go_wp2_with (fail)
      refine (sSizeOfO _ c _ (ProgRow.below HP.out B2.out)).mono ?_
      rw [HN.out]
      rintro e w3 ⟨rfl, hb⟩
      have B3 := Lib.hid (Below.trans B2.out (hb.mono (by first | omega | (simp only [szA, szS, szD, World.heap_drewN] at * <;> omega))) : Below w1.heap.size w1 w3)
      have Z3 := hb.size
      have N3 : w2.heap.size ≤ w3.heap.size := (by first | with_reducible exact Z3 | (simp only [szA, szS, szD] at Z3; omega))
      clear Z3
      have Xp_3 := Lib.hid (below_at hb Xp_2.out)
      clear hb
      obtain ⟨cp3_0, cp3_1, cp3_2, cp3_3, cp3_4, fp3_0, fp3_1, fp3_2, fp3_3, fp3_4⟩ := box5 Xp_3.out; have lp3 := heap_lt Xp_3.out
      have S3 : w1.heap.size ≤ w3.heap.size := (by omega)
      clear cp2_0 cp2_1 cp2_2 cp2_3 cp2_4 fp2_0 fp2_1 fp2_2 fp2_3 fp2_4
      go_wp2_with (fail)
      refine (ProgValidO _ c _ (ProgRow.below HP.out B3.out)).mono ?_
      rw [HV.out]
      rintro e w4 ⟨rfl, hb⟩
      have B4 := Lib.hid (Below.trans B3.out (hb.mono (by first | omega | (simp only [szA, szS, szD, World.heap_drewN] at * <;> omega))) : Below w1.heap.size w1 w4)
      have Z4 := hb.size
      have N4 : w3.heap.size ≤ w4.heap.size := (by first | with_reducible exact Z4 | (simp only [szA, szS, szD] at Z4; omega))
      clear Z4
      have Xp_4 := Lib.hid (below_at hb Xp_3.out)
      clear hb
      obtain ⟨cp4_0, cp4_1, cp4_2, cp4_3, cp4_4, fp4_0, fp4_1, fp4_2, fp4_3, fp4_4⟩ := box5 Xp_4.out; have lp4 := heap_lt Xp_4.out
      have S4 : w1.heap.size ≤ w4.heap.size := (by omega)
      clear cp3_0 cp3_1 cp3_2 cp3_3 cp3_4 fp3_0 fp3_1 fp3_2 fp3_3 fp3_4
      go_wp2_with (fail)
      refine (sSizeOfO _ c _ (ProgRow.below HP.out B4.out)).mono ?_
      rw [HN.out]
      rintro e w5 ⟨rfl, hb⟩
      have B5 := Lib.hid (Below.trans B4.out (hb.mono (by first | omega | (simp only [szA, szS, szD, World.heap_drewN] at * <;> omega))) : Below w1.heap.size w1 w5)
      have Z5 := hb.size
      have N5 : w4.heap.size ≤ w5.heap.size := (by first | with_reducible exact Z5 | (simp only [szA, szS, szD] at Z5; omega))
      clear Z5
      have Xp_5 := Lib.hid (below_at hb Xp_4.out)
      clear hb
      obtain ⟨cp5_0, cp5_1, cp5_2, cp5_3, cp5_4, fp5_0, fp5_1, fp5_2, fp5_3, fp5_4⟩ := box5 Xp_5.out; have lp5 := heap_lt Xp_5.out
      have S5 : w1.heap.size ≤ w5.heap.size := (by omega)
      clear cp4_0 cp4_1 cp4_2 cp4_3 cp4_4 fp4_0 fp4_1 fp4_2 fp4_3 fp4_4
      go_wp2
      go_ret
      exact ⟨rfl, Below.trans BW.out ((B5.out).mono SB)⟩
    · have HV := Lib.hid hv; have HOK := Lib.hid (progB_true.1 hv); clear hv
      obtain ⟨n, hn⟩ : ∃ n, sizeB c = n := ⟨_, rfl⟩
      have HN := Lib.hid hn; clear hn
      have q0 : (n == n) = true := beq_self_eq_true _
      obtain ⟨a0', p0', a1', p1', a2', p2', a3', p3', a4', p4', e, r0, r1, r2, r3, r4⟩ := HP.out; cases e; have R4 := Lib.hid r4; clear r0 r1 r2 r3 r4
      have hmt : c.threads.length ≤ 4 := HOK.out.2.2.2.2.2.1
      go_wp2_with (fail)
      refine (SizeOfO _ c _ (ProgRow.below HP.out (Below.alloc B1.out (by first | omega | (simp only [szA, szS, szD, World.heap_drewN] at * <;> omega)) _))).mono ?_
      rw [HN.out]
      rintro e w2 ⟨rfl, hb⟩
      have B2 := Lib.hid (Below.trans (Below.alloc B1.out (by first | omega | (simp only [szA, szS, szD, World.heap_drewN] at * <;> omega)) _) (hb.mono (by first | omega | (simp only [szA, szS, szD, World.heap_drewN] at * <;> omega))) : Below w1.heap.size w1 w2)
      have Z2 := hb.size
      have N2 : w1.heap.size + 1 ≤ w2.heap.size := (by first | with_reducible exact Z2 | (simp only [szA, szS, szD] at Z2; omega))
      clear Z2
      have Xp_2 : Hid (w2.heap[w1.heap.size]? = some (.cells #[.slice ad0 c.sems.length pd0, .slice ad1 c.groups.length pd1, .slice ad2 c.barriers.length pd2, .slice ad3 c.rooms.length pd3, .slice ad4 c.threads.length pd4] 30 (0, 0))) := below_at hb (heap_at' (n := w1.heap.size) (by first | omega | (simp only [szA, szS, szD, World.heap_drewN] at * <;> omega)))
      clear hb
      obtain ⟨cp2_0, cp2_1, cp2_2, cp2_3, cp2_4, fp2_0, fp2_1, fp2_2, fp2_3, fp2_4⟩ := box5 Xp_2.out; have lp2 := heap_lt Xp_2.out
      have S2 : w1.heap.size ≤ w2.heap.size := (by omega)
      go_wp2_with (fail)
      refine (sSizeOfO _ c _ (ProgRow.below HP.out B2.out)).mono ?_
      rw [HN.out]
      rintro e w3 ⟨rfl, hb⟩
      have B3 := Lib.hid (Below.trans B2.out (hb.mono (by first | omega | (simp only [szA, szS, szD, World.heap_drewN] at * <;> omega))) : Below w1.heap.size w1 w3)
      have Z3 := hb.size
      have N3 : w2.heap.size ≤ w3.heap.size := (by first | with_reducible exact Z3 | (simp only [szA, szS, szD] at Z3; omega))
      clear Z3
      have Xp_3 := Lib.hid (below_at hb Xp_2.out)
      clear hb
      obtain ⟨cp3_0, cp3_1, cp3_2, cp3_3, cp3_4, fp3_0, fp3_1, fp3_2, fp3_3, fp3_4⟩ := box5 Xp_3.out; have lp3 := heap_lt Xp_3.out
      have S3 : w1.heap.size ≤ w3.heap.size := (by omega)
      clear cp2_0 cp2_1 cp2_2 cp2_3 cp2_4 fp2_0 fp2_1 fp2_2 fp2_3 fp2_4
      go_wp2_with (fail)
      refine (ProgValidO _ c _ (ProgRow.below HP.out B3.out)).mono ?_
      rw [HV.out]
      rintro e w4 ⟨rfl, hb⟩
      have B4 := Lib.hid (Below.trans B3.out (hb.mono (by first | omega | (simp only [szA, szS, szD, World.heap_drewN] at * <;> omega))) : Below w1.heap.size w1 w4)
      have Z4 := hb.size
      have N4 : w3.heap.size ≤ w4.heap.size := (by first | with_reducible exact Z4 | (simp only [szA, szS, szD] at Z4; omega))
      clear Z4
      have Xp_4 := Lib.hid (below_at hb Xp_3.out)
      clear hb
      obtain ⟨cp4_0, cp4_1, cp4_2, cp4_3, cp4_4, fp4_0, fp4_1, fp4_2, fp4_3, fp4_4⟩ := box5 Xp_4.out; have lp4 := heap_lt Xp_4.out
      have S4 : w1.heap.size ≤ w4.heap.size := (by omega)
      clear cp3_0 cp3_1 cp3_2 cp3_3 cp3_4 fp3_0 fp3_1 fp3_2 fp3_3 fp3_4
      go_wp2_with (fail)
      go_loopw [5, 6] (fun s i wr => ∃ (k : Nat) (sm : Int), k ≤ c.threads.length ∧ i = .int .i64 k ∧ s = .int .i64 sm ∧ sm = (ttSum (c.threads.take k) : Nat) ∧ wr.heap[w1.heap.size]? = some (.cells #[.slice ad0 c.sems.length pd0, .slice ad1 c.groups.length pd1, .slice ad2 c.barriers.length pd2, .slice ad3 c.rooms.length pd3, .slice ad4 c.threads.length pd4] 30 (0, 0)) ∧ Below w1.heap.size w1 wr) (fun _ i _ => c.threads.length - (intOf i).toNat)
      case atStart => exact ⟨0, 0, Nat.zero_le _, rfl, rfl, by simp [ttSum], Xp_4.out, B4.out⟩
      case round =>
        obtain ⟨w20, rfl⟩ : ∃ x : World, x = wr := ⟨_, rfl⟩
        obtain ⟨k, sm, hk, rfl, rfl, hsm, hx, hb⟩ := hrel
        have B20 := Lib.hid hb; have S20 := hb.size; have Xp_20 := Lib.hid hx; have HSM := Lib.hid hsm; clear hb hx hsm
        obtain ⟨cp20_0, cp20_1, cp20_2, cp20_3, cp20_4, fp20_0, fp20_1, fp20_2, fp20_3, fp20_4⟩ := box5 Xp_20.out; have lp20 := heap_lt Xp_20.out
        by_cases hlt : k < c.threads.length
        · obtain ⟨_, _, e1, _, _, r4⟩ := R4.out.look; injection e1 with e1 _ e2; subst e1 e2
          obtain ⟨b, o, rfl, hb1, hc1⟩ := r4 (by omega)
          obtain ⟨th, ht⟩ := get_ex hlt
          obtain ⟨zs, zd, g1, q1⟩ := hc1 k th ht
          have k1 := (B20.out.cell (p := ⟨b, o + k, none⟩) hb1).trans g1
          obtain ⟨_, _, e1, l5, m5, rq⟩ := q1.look; injection e1 with e1 _ e2; subst e1 e2
          have hth := HOK.out.2.2.2.2.2.2 th (get_mem ht)
          have HS := Lib.hid (ttSum_succ ht); have s1 := ttSum_small HOK.out k
          have RQ := Lib.hid rq; have HTH := Lib.hid hth; have G1 := Lib.hid g1; have htm : th.length ≤ 8 := hth.1; clear ht hc1 q1 r4 rq g1 hth
          go_wp2_with (fail)
          go_loopw [5, 7] (fun s i wr => ∃ (m : Nat) (sn : Int), m ≤ th.length ∧ i = .int .i64 m ∧ s = .int .i64 sn ∧ sn = sm + (m : Int) ∧ wr.heap[w1.heap.size]? = some (.cells #[.slice ad0 c.sems.length pd0, .slice ad1 c.groups.length pd1, .slice ad2 c.barriers.length pd2, .slice ad3 c.rooms.length pd3, .slice (some ⟨b, o, none⟩) c.threads.length pd4] 30 (0, 0)) ∧ Below w1.heap.size w1 wr) (fun _ i _ => th.length - (intOf i).toNat)
          case atStart => exact ⟨0, sm, Nat.zero_le _, rfl, rfl, by omega, Xp_20.out, B20.out⟩
          case round =>
            obtain ⟨w30, rfl⟩ : ∃ x : World, x = wr := ⟨_, rfl⟩
            obtain ⟨m, sn, hmk, rfl, rfl, hsn, hx2, hb2⟩ := hrel
            have B30 := Lib.hid hb2; have S30 := hb2.size; have Xp_30 := Lib.hid hx2; have HSN := Lib.hid hsn; clear hb2 hx2 hsn
            obtain ⟨cp30_0, cp30_1, cp30_2, cp30_3, cp30_4, fp30_0, fp30_1, fp30_2, fp30_3, fp30_4⟩ := box5 Xp_30.out; have lp30 := heap_lt Xp_30.out
            have k9 := (B30.out.cell (p := ⟨b, o + k, none⟩) hb1).trans G1.out
            clear k1
            have d9 : (0 : Int) ≤ (k : Int) := by omega
            have d10 : (k : Int) < (c.threads.length : Int) := by omega
            by_cases hm : m < th.length
            · obtain ⟨sb, so, rfl, hb3, hc3⟩ := RQ.out (by omega)
              obtain ⟨x, hx⟩ := get_ex hm
              have j0 := (B30.out.cell (p := ⟨sb, so + m * 3, none⟩) hb3).trans (hc3 m x hx).1
              have j1 := (B30.out.cell (p := ⟨sb, so + m * 3 + 1, none⟩) hb3).trans (hc3 m x hx).2.1
              have j2 := (B30.out.cell (p := ⟨sb, so + m * 3 + 2, none⟩) hb3).trans (hc3 m x hx).2.2
              have HV8 := Lib.hid (opB_yes (HTH.out.2 x (get_mem hx))); clear hx hc3
              have d0 : decide ((m : Int) < (th.length : Int)) = true := decide_eq_true (by omega)
              have d7 : (0 : Int) ≤ (m : Int) := by omega
              have d8 : (m : Int) < (th.length : Int) := by omega
              go_wp2_with (fail)
              have hN0 : w30.heap.size ≤ w30.heap.size := (by first | omega | (simp only [szA, szS, szD, World.heap_drewN] at * <;> omega))
              have c0_0 := k9; have c1_0 := j0; have c2_0 := j1; have c3_0 := j2
              refine wp_region_L [⟨0, false, [], fun _ v _ => v = .agg #[.slice ad0 c.sems.length pd0, .slice ad1 c.groups.length pd1, .slice ad2 c.barriers.length pd2, .slice ad3 c.rooms.length pd3, .slice (some ⟨b, o, none⟩) c.threads.length pd4]⟩, ⟨1, false, [], fun _ v _ => v = .pointer (some ⟨w1.heap.size, 4, none⟩)⟩, ⟨2, false, [1], fun _ v _ => v = .slice (some ⟨b, o, none⟩) c.threads.length pd4⟩, ⟨3, false, [], fun _ v _ => v = .int .i64 (k : Int)⟩, ⟨4, false, [1, 2, 3], fun _ v _ => v = .pointer (some ⟨b, o + k, none⟩)⟩, ⟨5, false, [1, 2, 3, 4], fun _ v _ => v = .slice (some ⟨sb, so, none⟩) th.length zd⟩, ⟨6, false, [], fun _ v _ => v = .int .i64 (m : Int)⟩, ⟨7, false, [1, 2, 3, 4, 5, 6], fun _ v _ => v = .pointer (some ⟨sb, so + m * 3, none⟩)⟩, ⟨8, false, [1, 2, 3, 4, 5, 6, 7], fun _ v _ => v = opv x⟩, ⟨9, false, [0, 1, 2, 3, 4, 5, 6, 7, 8], fun _ v _ => v = .bool true⟩, ⟨10, false, [0, 1, 2, 3, 4, 5, 6, 7, 8, 9], fun _ v _ => v = .bool false⟩] [(0, some 49), (1, some 50), (2, some 51), (3, some 52), (4, some 53), (5, some 54), (6, some 55), (7, some 56), (8, some 57), (9, some 58), (10, some 59)] (fun _ w' => Below w1.heap.size w1 w' ∧ w30.heap.size ≤ w'.heap.size ∧ w'.heap[w1.heap.size]? = some (.cells #[.slice ad0 c.sems.length pd0, .slice ad1 c.groups.length pd1, .slice ad2 c.barriers.length pd2, .slice ad3 c.rooms.length pd3, .slice (some ⟨b, o, none⟩) c.threads.length pd4] 30 (0, 0)) ∧ w'.cell? ⟨b, o + k, none⟩ = some (.slice (some ⟨sb, so, none⟩) th.length zd) ∧ w'.cell? ⟨sb, so + m * 3, none⟩ = some (.int .i64 x.1) ∧ w'.cell? ⟨sb, so + m * 3 + 1, none⟩ = some (.int .i64 x.2.1) ∧ w'.cell? ⟨sb, so + m * 3 + 2, none⟩ = some (.int .i64 x.2.2)) (fun _ _ _ => True) (by kernel_rfl) (by rfl) (by kernel_rfl) (by kernel_rfl) ⟨(B30.out).drew, hN0, (heap_drew Xp_30.out), c0_0, c1_0, c2_0, c3_0⟩ (GoalsL.cons ?_ (GoalsL.cons ?_ (GoalsL.cons ?_ (GoalsL.cons ?_ (GoalsL.cons ?_ (GoalsL.cons ?_ (GoalsL.cons ?_ (GoalsL.cons ?_ (GoalsL.cons ?_ (GoalsL.cons ?_ (GoalsL.cons ?_ (GoalsL.nil)))))))))))) ?_
              · refine GoalL.mk0 (by rfl) ?_; rintro f u wq hf ⟨hA, hN, x_p, c_0, c_1, c_2, c_3⟩ hD K hK; clear hD; simp only [put9] at hK ⊢
                obtain ⟨kp_0, kp_1, kp_2, kp_3, kp_4, fp_0, fp_1, fp_2, fp_3, fp_4⟩ := box5 x_p; refine Closed.mk ?_; go_simp
                exact hK.out _ _ ⟨hA, hN, x_p, c_0, c_1, c_2, c_3⟩ trivial rfl
              · refine GoalL.mk0 (by rfl) ?_; rintro f u wq hf ⟨hA, hN, x_p, c_0, c_1, c_2, c_3⟩ hD K hK; clear hD; simp only [put9] at hK ⊢
                refine Closed.mk ?_; go_simp
                exact hK.out _ _ ⟨hA, hN, x_p, c_0, c_1, c_2, c_3⟩ trivial rfl
              · refine GoalL.mk0 (by rfl) ?_; rintro f u wq hf ⟨hA, hN, x_p, c_0, c_1, c_2, c_3⟩ hD K hK; have e1 : u 1 = _ := hD.1; clear hD; simp only [put9, e1] at hK ⊢
                obtain ⟨kp_0, kp_1, kp_2, kp_3, kp_4, fp_0, fp_1, fp_2, fp_3, fp_4⟩ := box5 x_p; refine Closed.mk ?_; go_simp
                exact hK.out _ _ ⟨hA, hN, x_p, c_0, c_1, c_2, c_3⟩ trivial rfl
              · refine GoalL.mk0 (by rfl) ?_; rintro f u wq hf ⟨hA, hN, x_p, c_0, c_1, c_2, c_3⟩ hD K hK; clear hD; simp only [put9] at hK ⊢
                refine Closed.mk ?_; go_simp
                exact hK.out _ _ ⟨hA, hN, x_p, c_0, c_1, c_2, c_3⟩ trivial rfl
              · refine GoalL.mk0 (by rfl) ?_; rintro f u wq hf ⟨hA, hN, x_p, c_0, c_1, c_2, c_3⟩ hD K hK; have e1 : u 1 = _ := hD.1; have e2 : u 2 = _ := hD.2.1; have e3 : u 3 = _ := hD.2.2.1; clear hD; simp only [put9, e1, e2, e3] at hK ⊢
                refine Closed.mk ?_; go_simp
                exact hK.out _ _ ⟨hA, hN, x_p, c_0, c_1, c_2, c_3⟩ trivial rfl
              · refine GoalL.mk0 (by rfl) ?_; rintro f u wq hf ⟨hA, hN, x_p, c_0, c_1, c_2, c_3⟩ hD K hK; have e1 : u 1 = _ := hD.1; have e2 : u 2 = _ := hD.2.1; have e3 : u 3 = _ := hD.2.2.1; have e4 : u 4 = _ := hD.2.2.2.1; clear hD; simp only [put9, e1, e2, e3, e4] at hK ⊢
                refine Closed.mk ?_; go_simp
                exact hK.out _ _ ⟨hA, hN, x_p, c_0, c_1, c_2, c_3⟩ trivial rfl
              · refine GoalL.mk0 (by rfl) ?_; rintro f u wq hf ⟨hA, hN, x_p, c_0, c_1, c_2, c_3⟩ hD K hK; clear hD; simp only [put9] at hK ⊢
                refine Closed.mk ?_; go_simp
                exact hK.out _ _ ⟨hA, hN, x_p, c_0, c_1, c_2, c_3⟩ trivial rfl
              · refine GoalL.mk0 (by rfl) ?_; rintro f u wq hf ⟨hA, hN, x_p, c_0, c_1, c_2, c_3⟩ hD K hK; have e1 : u 1 = _ := hD.1; have e2 : u 2 = _ := hD.2.1; have e3 : u 3 = _ := hD.2.2.1; have e4 : u 4 = _ := hD.2.2.2.1; have e5 : u 5 = _ := hD.2.2.2.2.1; have e6 : u 6 = _ := hD.2.2.2.2.2.1; clear hD; simp only [put9, e1, e2, e3, e4, e5, e6] at hK ⊢
                refine Closed.mk ?_; go_simp
                exact hK.out _ _ ⟨hA, hN, x_p, c_0, c_1, c_2, c_3⟩ trivial rfl
              · refine GoalL.mk0 (by rfl) ?_; rintro f u wq hf ⟨hA, hN, x_p, c_0, c_1, c_2, c_3⟩ hD K hK; have e1 : u 1 = _ := hD.1; have e2 : u 2 = _ := hD.2.1; have e3 : u 3 = _ := hD.2.2.1; have e4 : u 4 = _ := hD.2.2.2.1; have e5 : u 5 = _ := hD.2.2.2.2.1; have e6 : u 6 = _ := hD.2.2.2.2.2.1; have e7 : u 7 = _ := hD.2.2.2.2.2.2.1; clear hD; simp only [put9, e1, e2, e3, e4, e5, e6, e7] at hK ⊢
                refine Closed.mk ?_; go_simp
                exact hK.out _ _ ⟨hA, hN, x_p, c_0, c_1, c_2, c_3⟩ trivial rfl
              · refine GoalL.mk0 (by rfl) ?_; rintro f u wq hf ⟨hA, hN, x_p, c_0, c_1, c_2, c_3⟩ hD K hK; have e0 : u 0 = _ := hD.1; have e1 : u 1 = _ := hD.2.1; have e2 : u 2 = _ := hD.2.2.1; have e3 : u 3 = _ := hD.2.2.2.1; have e4 : u 4 = _ := hD.2.2.2.2.1; have e5 : u 5 = _ := hD.2.2.2.2.2.1; have e6 : u 6 = _ := hD.2.2.2.2.2.2.1; have e7 : u 7 = _ := hD.2.2.2.2.2.2.2.1; have e8 : u 8 = _ := hD.2.2.2.2.2.2.2.2.1; clear hD; simp only [put9, e0, e1, e2, e3, e4, e5, e6, e7, e8] at hK ⊢
                refine Closed.mk ?_; go_simp
                refine (OpValidO _ c x _ (ProgRow.below HP.out hA)).mono ?_
                rw [HV8.out]
                rintro e wr ⟨rfl, hb⟩
                exact hK.out _ _ ⟨Below.trans hA (hb.mono hA.size), Nat.le_trans hN hb.size, (below_at hb x_p), ((hb.cell (p := ⟨b, o + k, none⟩) (Nat.lt_of_lt_of_le (Nat.lt_of_lt_of_le hb1 S30) hN)).trans c_0), ((hb.cell (p := ⟨sb, so + m * 3, none⟩) (Nat.lt_of_lt_of_le (Nat.lt_of_lt_of_le hb3 S30) hN)).trans c_1), ((hb.cell (p := ⟨sb, so + m * 3 + 1, none⟩) (Nat.lt_of_lt_of_le (Nat.lt_of_lt_of_le hb3 S30) hN)).trans c_2), ((hb.cell (p := ⟨sb, so + m * 3 + 2, none⟩) (Nat.lt_of_lt_of_le (Nat.lt_of_lt_of_le hb3 S30) hN)).trans c_3)⟩ trivial rfl
              · refine GoalL.mk0 (by rfl) ?_; rintro f u wq hf ⟨hA, hN, x_p, c_0, c_1, c_2, c_3⟩ hD K hK; have e0 : u 0 = _ := hD.1; have e1 : u 1 = _ := hD.2.1; have e2 : u 2 = _ := hD.2.2.1; have e3 : u 3 = _ := hD.2.2.2.1; have e4 : u 4 = _ := hD.2.2.2.2.1; have e5 : u 5 = _ := hD.2.2.2.2.2.1; have e6 : u 6 = _ := hD.2.2.2.2.2.2.1; have e7 : u 7 = _ := hD.2.2.2.2.2.2.2.1; have e8 : u 8 = _ := hD.2.2.2.2.2.2.2.2.1; have e9 : u 9 = _ := hD.2.2.2.2.2.2.2.2.2.1; clear hD; simp only [put9, e0, e1, e2, e3, e4, e5, e6, e7, e8, e9] at hK ⊢
                refine Closed.mk ?_; go_simp
                exact hK.out _ _ ⟨hA, hN, x_p, c_0, c_1, c_2, c_3⟩ trivial rfl
              intro u w31 hC hD
              have hA := hC.1; have hN := hC.2.1; have x_p := hC.2.2.1; have c_0 := hC.2.2.2.1; have c_1 := hC.2.2.2.2.1; have c_2 := hC.2.2.2.2.2.1; have c_3 := hC.2.2.2.2.2.2; clear hC
              have e0 : u 0 = _ := hD.1; have e1 : u 1 = _ := hD.2.1; have e2 : u 2 = _ := hD.2.2.1; have e3 : u 3 = _ := hD.2.2.2.1; have e4 : u 4 = _ := hD.2.2.2.2.1; have e5 : u 5 = _ := hD.2.2.2.2.2.1; have e6 : u 6 = _ := hD.2.2.2.2.2.2.1; have e7 : u 7 = _ := hD.2.2.2.2.2.2.2.1; have e8 : u 8 = _ := hD.2.2.2.2.2.2.2.2.1; have e9 : u 9 = _ := hD.2.2.2.2.2.2.2.2.2.1; have e10 : u 10 = _ := hD.2.2.2.2.2.2.2.2.2.2.1; clear hD
              have B31 := Lib.hid hA; have N31 := hN; have S31 := hA.size
              have Xp_31 := Lib.hid x_p; clear x_p
              obtain ⟨cp31_0, cp31_1, cp31_2, cp31_3, cp31_4, fp31_0, fp31_1, fp31_2, fp31_3, fp31_4⟩ := box5 Xp_31.out; have lp31 := heap_lt Xp_31.out
              clear hA hN
              simp only [put9, e0, e1, e2, e3, e4, e5, e6, e7, e8, e9, e10]
              refine Closed.mk (wpAnyH_done (by kernel_rfl) ?_ _)
              have e1 : IntKind.i64.wrap (sn + 1) = sn + 1 := IntWalk.i64_in _ (by have := HSN.out; have := HSM.out; omega)
              go_wp2
              go_roundw
              case rel => exact ⟨m + 1, sn + 1, by omega, by go_num, (by first | rfl | go_num), (by have := HSN.out; omega), Xp_31.out, B31.out⟩
              case measure => simp [intOf]; omega
            · have d0 : decide ((m : Int) < (th.length : Int)) = false := decide_eq_false (by omega)
              go_wp2
              go_roundw
              case rel => exact ⟨k + 1, sn, by omega, by go_num, (by first | rfl | go_num), (by rw [HS.out]; have := HSN.out; have := HSM.out; omega), Xp_30.out, B30.out⟩
              case measure => simp [intOf]; omega
        · have d0 : decide ((k : Int) < (c.threads.length : Int)) = false := decide_eq_false (by omega)
          have hsa := size_all HOK.out
          have hsn : sm = n := by rw [HSM.out, ← HN.out, hsa.1, take_all (by omega)]
          have hn32 : n ≤ 32 := by rw [← HN.out, hsa.1]; exact Int.ofNat_le.2 hsa.2
          have d1 : (sm == n) = true := beq_iff_eq.2 hsn
          have d2 : decide (n ≤ 32) = true := decide_eq_true hn32
          clear hsn hn32 hsa
          go_wp2
          go_ret
          exact ⟨rfl, Below.trans BW.out ((B20.out).mono SB)⟩
  · go_enter Try.func9, Try.ntmps9
    go_wp2
    go_ret
    exact ⟨rfl, Below.refl _ _⟩
end Go.Proofs.Ytobkammimkgnkaa
