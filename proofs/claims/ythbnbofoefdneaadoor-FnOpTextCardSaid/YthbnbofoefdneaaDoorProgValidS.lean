/- spec.ProgValid: what it returns (made by gen_progvalid.py). -/
import Derived.Test.YthbnbofoefdneaaDoorWithin
import Derived.Test.YthbnbofoefdneaaDoorOpValidS
namespace Go.Proofs.YthbnbofoefdneaaDoor
open Go.RowKit
set_option linter.unusedSimpArgs false
set_option linter.unusedVariables false
set_option maxRecDepth 100000 in
set_option maxHeartbeats 16000000 in
theorem sProgValidO (v : Value) (c : ProgD) (w : World) (h : ProgRow w v c) :
    Calls Tryd.prog 51 #[v] w fun e w' => e = .returned (.bool (progB c)) ∧ Below w.heap.size w w' := by
  have HR := Lib.hid h
  obtain ⟨a0, p0, a1, p1, a2, p2, a3, p3, a4, p4, rfl, r0, r1, r2, r3, r4⟩ := h
  have R0 := Lib.hid r0; clear r0
  have R1 := Lib.hid r1; clear r1
  have R2 := Lib.hid r2; clear r2
  have R3 := Lib.hid r3; clear r3
  have R4 := Lib.hid r4; clear r4
  have hmt : c.threads.length ≤ 9223372036854775807 := by obtain ⟨_, _, _, g1, g2, _⟩ := R4.out.look; omega
  go_enter Tryd.func51, Tryd.ntmps51
  go_wp2_with (fail)
  refine (l6Numbers_calls _ c.sems 1 9 _ (Row.below R0.out (Below.alloc (Below.refl _ _) (by first | omega | (simp only [szA, szS, szD, World.heap_drewN] at * <;> omega)) _))).mono ?_
  rintro e w1 ⟨rfl, hb⟩
  have B1 := Lib.hid (Below.trans (Below.alloc (Below.refl _ _) (by first | omega | (simp only [szA, szS, szD, World.heap_drewN] at * <;> omega)) _) (hb.mono (by first | omega | (simp only [szA, szS, szD, World.heap_drewN] at * <;> omega))) : Below w.heap.size w w1)
  have Z1 := hb.size
  have N1 : w.heap.size + 1 ≤ w1.heap.size := (by first | with_reducible exact Z1 | (simp only [szA, szS, szD] at Z1; omega))
  clear Z1
  have Xp_1 : Hid (w1.heap[w.heap.size]? = some (.cells #[.slice a0 c.sems.length p0, .slice a1 c.groups.length p1, .slice a2 c.barriers.length p2, .slice a3 c.rooms.length p3, .slice a4 c.threads.length p4] 34 (0, 0))) := below_at hb (heap_at' (n := w.heap.size) (by first | omega | (simp only [szA, szS, szD, World.heap_drewN] at * <;> omega)))
  clear hb
  obtain ⟨cp1_0, cp1_1, cp1_2, cp1_3, cp1_4, fp1_0, fp1_1, fp1_2, fp1_3, fp1_4⟩ := box5 Xp_1.out; have lp1 := heap_lt Xp_1.out
  have S1 : w.heap.size ≤ w1.heap.size := (by omega)
  cases g0 : inB 1 9 c.sems
  · have G0 := Lib.hid g0; clear g0
    go_wp2
    go_ret
    exact ⟨ret_bool (progB_no (fun e => inB_no G0.out e.1)).symm, B1.out⟩
  · have G0 := Lib.hid (inB_yes g0); clear g0
    go_wp2_with (fail)
    refine (l6Numbers_calls _ c.groups 0 9 _ (Row.below R1.out B1.out)).mono ?_
    rintro e w2 ⟨rfl, hb⟩
    have B2 := Lib.hid (Below.trans B1.out (hb.mono (by first | omega | (simp only [szA, szS, szD, World.heap_drewN] at * <;> omega))) : Below w.heap.size w w2)
    have Z2 := hb.size
    have N2 : w1.heap.size ≤ w2.heap.size := (by first | with_reducible exact Z2 | (simp only [szA, szS, szD] at Z2; omega))
    clear Z2
    have Xp_2 := Lib.hid (below_at hb Xp_1.out)
    clear hb
    obtain ⟨cp2_0, cp2_1, cp2_2, cp2_3, cp2_4, fp2_0, fp2_1, fp2_2, fp2_3, fp2_4⟩ := box5 Xp_2.out; have lp2 := heap_lt Xp_2.out
    have S2 : w.heap.size ≤ w2.heap.size := (by omega)
    clear cp1_0 cp1_1 cp1_2 cp1_3 cp1_4 fp1_0 fp1_1 fp1_2 fp1_3 fp1_4
    cases g1 : inB 0 9 c.groups
    · have G1 := Lib.hid g1; clear g1
      go_wp2
      go_ret
      exact ⟨ret_bool (progB_no (fun e => inB_no G1.out e.2.1)).symm, B2.out⟩
    · have G1 := Lib.hid (inB_yes g1); clear g1
      go_wp2_with (fail)
      refine (l6Numbers_calls _ c.barriers 1 6 _ (Row.below R2.out B2.out)).mono ?_
      rintro e w3 ⟨rfl, hb⟩
      have B3 := Lib.hid (Below.trans B2.out (hb.mono (by first | omega | (simp only [szA, szS, szD, World.heap_drewN] at * <;> omega))) : Below w.heap.size w w3)
      have Z3 := hb.size
      have N3 : w2.heap.size ≤ w3.heap.size := (by first | with_reducible exact Z3 | (simp only [szA, szS, szD] at Z3; omega))
      clear Z3
      have Xp_3 := Lib.hid (below_at hb Xp_2.out)
      clear hb
      obtain ⟨cp3_0, cp3_1, cp3_2, cp3_3, cp3_4, fp3_0, fp3_1, fp3_2, fp3_3, fp3_4⟩ := box5 Xp_3.out; have lp3 := heap_lt Xp_3.out
      have S3 : w.heap.size ≤ w3.heap.size := (by omega)
      clear cp2_0 cp2_1 cp2_2 cp2_3 cp2_4 fp2_0 fp2_1 fp2_2 fp2_3 fp2_4
      cases g2 : inB 1 6 c.barriers
      · have G2 := Lib.hid g2; clear g2
        go_wp2
        go_ret
        exact ⟨ret_bool (progB_no (fun e => inB_no G2.out e.2.2.1)).symm, B3.out⟩
      · have G2 := Lib.hid (inB_yes g2); clear g2
        go_wp2_with (fail)
        refine (l6Numbers_calls _ c.rooms 0 4 _ (Row.below R3.out B3.out)).mono ?_
        rintro e w4 ⟨rfl, hb⟩
        have B4 := Lib.hid (Below.trans B3.out (hb.mono (by first | omega | (simp only [szA, szS, szD, World.heap_drewN] at * <;> omega))) : Below w.heap.size w w4)
        have Z4 := hb.size
        have N4 : w3.heap.size ≤ w4.heap.size := (by first | with_reducible exact Z4 | (simp only [szA, szS, szD] at Z4; omega))
        clear Z4
        have Xp_4 := Lib.hid (below_at hb Xp_3.out)
        clear hb
        obtain ⟨cp4_0, cp4_1, cp4_2, cp4_3, cp4_4, fp4_0, fp4_1, fp4_2, fp4_3, fp4_4⟩ := box5 Xp_4.out; have lp4 := heap_lt Xp_4.out
        have S4 : w.heap.size ≤ w4.heap.size := (by omega)
        clear cp3_0 cp3_1 cp3_2 cp3_3 cp3_4 fp3_0 fp3_1 fp3_2 fp3_3 fp3_4
        cases g3 : inB 0 4 c.rooms
        · have G3 := Lib.hid g3; clear g3
          go_wp2
          go_ret
          exact ⟨ret_bool (progB_no (fun e => inB_no G3.out e.2.2.2.1)).symm, B4.out⟩
        · have G3 := Lib.hid (inB_yes g3); clear g3
          by_cases n1 : (c.threads.length : Int) < 1
          · have d1 := decide_eq_true n1
            go_wp2
            go_ret
            exact ⟨ret_bool (progB_no (fun e => by have := e.2.2.2.2.1; omega)).symm, B4.out⟩
          · have d1 := decide_eq_false n1
            by_cases n4 : 4 < (c.threads.length : Int)
            · have d4 := decide_eq_true n4
              go_wp2
              go_ret
              exact ⟨ret_bool (progB_no (fun e => by have := e.2.2.2.2.2.1; omega)).symm, B4.out⟩
            · have d4 := decide_eq_false n4
              go_wp2_with (fail)
              go_loopw [3] (fun i wr => ∃ k : Nat, k ≤ c.threads.length ∧ i = .int .i64 k ∧ (∀ t ∈ c.threads.take k, ThrOk c t) ∧ wr.heap[w.heap.size]? = some (.cells #[.slice a0 c.sems.length p0, .slice a1 c.groups.length p1, .slice a2 c.barriers.length p2, .slice a3 c.rooms.length p3, .slice a4 c.threads.length p4] 34 (0, 0)) ∧ Below w.heap.size w wr) (fun i _ => c.threads.length - (intOf i).toNat)
              case atStart => exact ⟨0, Nat.zero_le _, rfl, by simp, Xp_4.out, B4.out⟩
              case round =>
                obtain ⟨w20, rfl⟩ : ∃ x : World, x = wr := ⟨_, rfl⟩
                obtain ⟨k, hk, rfl, hj, hx, hb⟩ := hrel
                have HJ := Lib.hid hj; clear hj
                have B20 := Lib.hid hb; have S20 := hb.size; have Xp_20 := Lib.hid hx; clear hb hx
                obtain ⟨cp20_0, cp20_1, cp20_2, cp20_3, cp20_4, fp20_0, fp20_1, fp20_2, fp20_3, fp20_4⟩ := box5 Xp_20.out; have lp20 := heap_lt Xp_20.out
                by_cases hlt : k < c.threads.length
                · obtain ⟨_, _, e1, _, _, r4⟩ := R4.out.look; injection e1 with e1 _ e2; subst e1 e2
                  obtain ⟨b, o, rfl, hb1, hc1⟩ := r4 (by omega)
                  obtain ⟨th, ht⟩ := get_ex hlt
                  obtain ⟨zs, zd, g1, q1⟩ := hc1 k th ht
                  have k1 := (B20.out.cell (p := ⟨b, o + k, none⟩) hb1).trans g1
                  obtain ⟨_, _, e1, l5, m5, rq⟩ := q1.look; injection e1 with e1 _ e2; subst e1 e2
                  have RQ := Lib.hid rq; have HT := Lib.hid ht; have G1 := Lib.hid g1; clear ht hc1 q1 r4 rq g1
                  have htm : th.length ≤ 9223372036854775807 := by omega
                  go_wp2_with (fail)
                  go_loopw [4] (fun i wr => ∃ m : Nat, m ≤ th.length ∧ m ≤ 9 ∧ i = .int .i64 m ∧ (∀ x ∈ th.take m, OpOk c x) ∧ wr.heap[w.heap.size]? = some (.cells #[.slice a0 c.sems.length p0, .slice a1 c.groups.length p1, .slice a2 c.barriers.length p2, .slice a3 c.rooms.length p3, .slice (some ⟨b, o, none⟩) c.threads.length p4] 34 (0, 0)) ∧ Below w.heap.size w wr) (fun i _ => th.length - (intOf i).toNat)
                  case atStart => exact ⟨0, Nat.zero_le _, by omega, rfl, by simp, Xp_20.out, B20.out⟩
                  case round =>
                    obtain ⟨w30, rfl⟩ : ∃ x : World, x = wr := ⟨_, rfl⟩
                    obtain ⟨m, hmk, hm9, rfl, hj2, hx2, hb2⟩ := hrel
                    have HJ2 := Lib.hid hj2; clear hj2
                    have B30 := Lib.hid hb2; have S30 := hb2.size; have Xp_30 := Lib.hid hx2; clear hb2 hx2
                    obtain ⟨cp30_0, cp30_1, cp30_2, cp30_3, cp30_4, fp30_0, fp30_1, fp30_2, fp30_3, fp30_4⟩ := box5 Xp_30.out; have lp30 := heap_lt Xp_30.out
                    have k9 := (B30.out.cell (p := ⟨b, o + k, none⟩) hb1).trans G1.out
                    skip
                    by_cases hm : m < th.length
                    · have d0 : decide ((m : Int) < (th.length : Int)) = true := decide_eq_true (by omega)
                      by_cases h8 : m ≤ 8
                      · have d8' : decide ((m : Int) ≤ 8) = true := decide_eq_true (by omega)
                        obtain ⟨sb, so, rfl, hb3, hc3⟩ := RQ.out (by omega)
                        obtain ⟨x, hx⟩ := get_ex hm
                        have j0 := (B30.out.cell (p := ⟨sb, so + m * 3, none⟩) hb3).trans (hc3 m x hx).1
                        have j1 := (B30.out.cell (p := ⟨sb, so + m * 3 + 1, none⟩) hb3).trans (hc3 m x hx).2.1
                        have j2 := (B30.out.cell (p := ⟨sb, so + m * 3 + 2, none⟩) hb3).trans (hc3 m x hx).2.2
                        have HX := Lib.hid hx; clear hx hc3
                        have d7 : (0 : Int) ≤ (m : Int) := by omega
                        have d8 : (m : Int) < (th.length : Int) := by omega
                        have d9 : (0 : Int) ≤ (k : Int) := by omega
                        have d10 : (k : Int) < (c.threads.length : Int) := by omega
                        cases hv : opB c x
                        · have HV := Lib.hid hv; clear hv
                          go_wp2_with (fail)
                          have hN0 : w30.heap.size ≤ w30.heap.size := (by first | omega | (simp only [szA, szS, szD, World.heap_drewN] at * <;> omega))
                          have c0_0 := k9; have c1_0 := j0; have c2_0 := j1; have c3_0 := j2
                          refine wp_region_L [⟨0, false, [], fun _ v _ => v = .agg #[.slice a0 c.sems.length p0, .slice a1 c.groups.length p1, .slice a2 c.barriers.length p2, .slice a3 c.rooms.length p3, .slice (some ⟨b, o, none⟩) c.threads.length p4]⟩, ⟨1, false, [], fun _ v _ => v = .pointer (some ⟨w.heap.size, 4, none⟩)⟩, ⟨2, false, [1], fun _ v _ => v = .slice (some ⟨b, o, none⟩) c.threads.length p4⟩, ⟨3, false, [], fun _ v _ => v = .int .i64 (k : Int)⟩, ⟨4, false, [1, 2, 3], fun _ v _ => v = .pointer (some ⟨b, o + k, none⟩)⟩, ⟨5, false, [1, 2, 3, 4], fun _ v _ => v = .slice (some ⟨sb, so, none⟩) th.length zd⟩, ⟨6, false, [], fun _ v _ => v = .int .i64 (m : Int)⟩, ⟨7, false, [1, 2, 3, 4, 5, 6], fun _ v _ => v = .pointer (some ⟨sb, so + m * 3, none⟩)⟩, ⟨8, false, [1, 2, 3, 4, 5, 6, 7], fun _ v _ => v = opv x⟩, ⟨9, false, [0, 1, 2, 3, 4, 5, 6, 7, 8], fun _ v _ => v = .bool false⟩, ⟨10, false, [0, 1, 2, 3, 4, 5, 6, 7, 8, 9], fun _ v _ => v = .bool true⟩] [(0, some 60), (1, some 61), (2, some 62), (3, some 63), (4, some 64), (5, some 65), (6, some 66), (7, some 67), (8, some 68), (9, some 69), (10, some 70)] (fun _ w' => Below w.heap.size w w' ∧ w30.heap.size ≤ w'.heap.size ∧ w'.heap[w.heap.size]? = some (.cells #[.slice a0 c.sems.length p0, .slice a1 c.groups.length p1, .slice a2 c.barriers.length p2, .slice a3 c.rooms.length p3, .slice (some ⟨b, o, none⟩) c.threads.length p4] 34 (0, 0)) ∧ w'.cell? ⟨b, o + k, none⟩ = some (.slice (some ⟨sb, so, none⟩) th.length zd) ∧ w'.cell? ⟨sb, so + m * 3, none⟩ = some (.int .i64 x.1) ∧ w'.cell? ⟨sb, so + m * 3 + 1, none⟩ = some (.int .i64 x.2.1) ∧ w'.cell? ⟨sb, so + m * 3 + 2, none⟩ = some (.int .i64 x.2.2)) (fun _ _ _ => True) (by kernel_rfl) (by rfl) (by kernel_rfl) (by kernel_rfl) ⟨(B30.out).drew, hN0, (heap_drew Xp_30.out), c0_0, c1_0, c2_0, c3_0⟩ (GoalsL.cons ?_ (GoalsL.cons ?_ (GoalsL.cons ?_ (GoalsL.cons ?_ (GoalsL.cons ?_ (GoalsL.cons ?_ (GoalsL.cons ?_ (GoalsL.cons ?_ (GoalsL.cons ?_ (GoalsL.cons ?_ (GoalsL.cons ?_ (GoalsL.nil)))))))))))) ?_
                          · refine GoalL.mk0 (by rfl) ?_; rintro f u wq hf ⟨hA, hN, x_p, c_0, c_1, c_2, c_3⟩ hD K hK; clear hD; simp only [put9] at hK ⊢
                            obtain ⟨kp_0, kp_1, kp_2, kp_3, kp_4, fp_0, fp_1, fp_2, fp_3, fp_4⟩ := box5 x_p; refine Closed.mk ?_; go_simp
                            exact hK.out _ _ ⟨hA, hN, x_p, c_0, c_1, c_2, c_3⟩ trivial rfl
                          · refine GoalL.mk0 (by rfl) ?_; rintro f u wq hf ⟨hA, hN, x_p, c_0, c_1, c_2, c_3⟩ hD K hK; clear hD; simp only [put9] at hK ⊢
                            refine Closed.mk ?_; go_simp
                            exact hK.out _ _ ⟨hA, hN, x_p, c_0, c_1, c_2, c_3⟩ trivial rfl
                          · refine GoalL.mk0 (by rfl) ?_; rintro f u wq hf ⟨hA, hN, x_p, c_0, c_1, c_2, c_3⟩ hD K hK; have e1 : u 1 = _ := hD.1; clear hD; simp only [put9, e1] at hK ⊢
                            obtain ⟨kp_0, kp_1, kp_2, kp_3, kp_4, fp_0, fp_1, fp_2, fp_3, fp_4⟩ := box5 x_p; refine Closed.mk ?_; go_simp
                            exact hK.out _ _ ⟨hA, hN, x_p, c_0, c_1, c_2, c_3⟩ trivial rfl
                          · refine GoalL.mk0 (by rfl) ?_; rintro f u wq hf ⟨hA, hN, x_p, c_0, c_1, c_2, c_3⟩ hD K hK; clear hD; simp only [put9] at hK ⊢
                            refine Closed.mk ?_; go_simp
                            exact hK.out _ _ ⟨hA, hN, x_p, c_0, c_1, c_2, c_3⟩ trivial rfl
                          · refine GoalL.mk0 (by rfl) ?_; rintro f u wq hf ⟨hA, hN, x_p, c_0, c_1, c_2, c_3⟩ hD K hK; have e1 : u 1 = _ := hD.1; have e2 : u 2 = _ := hD.2.1; have e3 : u 3 = _ := hD.2.2.1; clear hD; simp only [put9, e1, e2, e3] at hK ⊢
                            refine Closed.mk ?_; go_simp
                            exact hK.out _ _ ⟨hA, hN, x_p, c_0, c_1, c_2, c_3⟩ trivial rfl
                          · refine GoalL.mk0 (by rfl) ?_; rintro f u wq hf ⟨hA, hN, x_p, c_0, c_1, c_2, c_3⟩ hD K hK; have e1 : u 1 = _ := hD.1; have e2 : u 2 = _ := hD.2.1; have e3 : u 3 = _ := hD.2.2.1; have e4 : u 4 = _ := hD.2.2.2.1; clear hD; simp only [put9, e1, e2, e3, e4] at hK ⊢
                            refine Closed.mk ?_; go_simp
                            exact hK.out _ _ ⟨hA, hN, x_p, c_0, c_1, c_2, c_3⟩ trivial rfl
                          · refine GoalL.mk0 (by rfl) ?_; rintro f u wq hf ⟨hA, hN, x_p, c_0, c_1, c_2, c_3⟩ hD K hK; clear hD; simp only [put9] at hK ⊢
                            refine Closed.mk ?_; go_simp
                            exact hK.out _ _ ⟨hA, hN, x_p, c_0, c_1, c_2, c_3⟩ trivial rfl
                          · refine GoalL.mk0 (by rfl) ?_; rintro f u wq hf ⟨hA, hN, x_p, c_0, c_1, c_2, c_3⟩ hD K hK; have e1 : u 1 = _ := hD.1; have e2 : u 2 = _ := hD.2.1; have e3 : u 3 = _ := hD.2.2.1; have e4 : u 4 = _ := hD.2.2.2.1; have e5 : u 5 = _ := hD.2.2.2.2.1; have e6 : u 6 = _ := hD.2.2.2.2.2.1; clear hD; simp only [put9, e1, e2, e3, e4, e5, e6] at hK ⊢
                            refine Closed.mk ?_; go_simp
                            exact hK.out _ _ ⟨hA, hN, x_p, c_0, c_1, c_2, c_3⟩ trivial rfl
                          · refine GoalL.mk0 (by rfl) ?_; rintro f u wq hf ⟨hA, hN, x_p, c_0, c_1, c_2, c_3⟩ hD K hK; have e1 : u 1 = _ := hD.1; have e2 : u 2 = _ := hD.2.1; have e3 : u 3 = _ := hD.2.2.1; have e4 : u 4 = _ := hD.2.2.2.1; have e5 : u 5 = _ := hD.2.2.2.2.1; have e6 : u 6 = _ := hD.2.2.2.2.2.1; have e7 : u 7 = _ := hD.2.2.2.2.2.2.1; clear hD; simp only [put9, e1, e2, e3, e4, e5, e6, e7] at hK ⊢
                            refine Closed.mk ?_; go_simp
                            exact hK.out _ _ ⟨hA, hN, x_p, c_0, c_1, c_2, c_3⟩ trivial rfl
                          · refine GoalL.mk0 (by rfl) ?_; rintro f u wq hf ⟨hA, hN, x_p, c_0, c_1, c_2, c_3⟩ hD K hK; have e0 : u 0 = _ := hD.1; have e1 : u 1 = _ := hD.2.1; have e2 : u 2 = _ := hD.2.2.1; have e3 : u 3 = _ := hD.2.2.2.1; have e4 : u 4 = _ := hD.2.2.2.2.1; have e5 : u 5 = _ := hD.2.2.2.2.2.1; have e6 : u 6 = _ := hD.2.2.2.2.2.2.1; have e7 : u 7 = _ := hD.2.2.2.2.2.2.2.1; have e8 : u 8 = _ := hD.2.2.2.2.2.2.2.2.1; clear hD; simp only [put9, e0, e1, e2, e3, e4, e5, e6, e7, e8] at hK ⊢
                            refine Closed.mk ?_; go_simp
                            refine (sOpValidO _ c x _ (ProgRow.below HR.out hA)).mono ?_
                            rw [HV.out]
                            rintro e wr ⟨rfl, hb⟩
                            exact hK.out _ _ ⟨Below.trans hA (hb.mono hA.size), Nat.le_trans hN hb.size, (below_at hb x_p), ((hb.cell (p := ⟨b, o + k, none⟩) (Nat.lt_of_lt_of_le (Nat.lt_of_lt_of_le hb1 S30) hN)).trans c_0), ((hb.cell (p := ⟨sb, so + m * 3, none⟩) (Nat.lt_of_lt_of_le (Nat.lt_of_lt_of_le hb3 S30) hN)).trans c_1), ((hb.cell (p := ⟨sb, so + m * 3 + 1, none⟩) (Nat.lt_of_lt_of_le (Nat.lt_of_lt_of_le hb3 S30) hN)).trans c_2), ((hb.cell (p := ⟨sb, so + m * 3 + 2, none⟩) (Nat.lt_of_lt_of_le (Nat.lt_of_lt_of_le hb3 S30) hN)).trans c_3)⟩ trivial rfl
                          · refine GoalL.mk0 (by rfl) ?_; rintro f u wq hf ⟨hA, hN, x_p, c_0, c_1, c_2, c_3⟩ hD K hK; have e0 : u 0 = _ := hD.1; have e1 : u 1 = _ := hD.2.1; have e2 : u 2 = _ := hD.2.2.1; have e3 : u 3 = _ := hD.2.2.2.1; have e4 : u 4 = _ := hD.2.2.2.2.1; have e5 : u 5 = _ := hD.2.2.2.2.2.1; have e6 : u 6 = _ := hD.2.2.2.2.2.2.1; have e7 : u 7 = _ := hD.2.2.2.2.2.2.2.1; have e8 : u 8 = _ := hD.2.2.2.2.2.2.2.2.1; have e9 : u 9 = _ := hD.2.2.2.2.2.2.2.2.2.1; clear hD; simp only [put9, e0, e1, e2, e3, e4, e5, e6, e7, e8, e9] at hK ⊢
                            refine Closed.mk ?_; go_simp
                            exact hK.out _ _ ⟨hA, hN, x_p, c_0, c_1, c_2, c_3⟩ trivial rfl
                          intro u w31 hC hD
                          have hA := hC.1; have hN := hC.2.1; have x_p := hC.2.2.1; have c_0 := hC.2.2.2.1; have c_1 := hC.2.2.2.2.1; have c_2 := hC.2.2.2.2.2.1; have c_3 := hC.2.2.2.2.2.2; clear hC
                          have e0 : u 0 = _ := hD.1; have e1 : u 1 = _ := hD.2.1; have e2 : u 2 = _ := hD.2.2.1; have e3 : u 3 = _ := hD.2.2.2.1; have e4 : u 4 = _ := hD.2.2.2.2.1; have e5 : u 5 = _ := hD.2.2.2.2.2.1; have e6 : u 6 = _ := hD.2.2.2.2.2.2.1; have e7 : u 7 = _ := hD.2.2.2.2.2.2.2.1; have e8 : u 8 = _ := hD.2.2.2.2.2.2.2.2.1; have e9 : u 9 = _ := hD.2.2.2.2.2.2.2.2.2.1; have e10 : u 10 = _ := hD.2.2.2.2.2.2.2.2.2.2.1; clear hD
                          have B31 := Lib.hid hA; have N31 := hN; have S31 := hA.size
                          have Xp_31 := Lib.hid x_p; clear x_p
                          obtain ⟨cp31_0, cp31_1, cp31_2, cp31_3, cp31_4, fp31_0, fp31_1, fp31_2, fp31_3, fp31_4⟩ := box5 Xp_31.out; have lp31 := heap_lt Xp_31.out
                          clear hA hN
                          simp only [put9, e0, e1, e2, e3, e4, e5, e6, e7, e8, e9, e10]
                          refine Closed.mk (wpAnyH_done (by kernel_rfl) ?_ _)
                          go_wp2
                          go_ret
                          exact ⟨ret_bool (progB_no (fun e => of_decide_eq_false HV.out ((e.2.2.2.2.2.2 th (get_mem HT.out)).2 x (get_mem HX.out)))).symm, B31.out⟩
                        · have HV := Lib.hid hv; clear hv
                          go_wp2_with (fail)
                          have hN0 : w30.heap.size ≤ w30.heap.size := (by first | omega | (simp only [szA, szS, szD, World.heap_drewN] at * <;> omega))
                          have c0_0 := k9; have c1_0 := j0; have c2_0 := j1; have c3_0 := j2
                          refine wp_region_L [⟨0, false, [], fun _ v _ => v = .agg #[.slice a0 c.sems.length p0, .slice a1 c.groups.length p1, .slice a2 c.barriers.length p2, .slice a3 c.rooms.length p3, .slice (some ⟨b, o, none⟩) c.threads.length p4]⟩, ⟨1, false, [], fun _ v _ => v = .pointer (some ⟨w.heap.size, 4, none⟩)⟩, ⟨2, false, [1], fun _ v _ => v = .slice (some ⟨b, o, none⟩) c.threads.length p4⟩, ⟨3, false, [], fun _ v _ => v = .int .i64 (k : Int)⟩, ⟨4, false, [1, 2, 3], fun _ v _ => v = .pointer (some ⟨b, o + k, none⟩)⟩, ⟨5, false, [1, 2, 3, 4], fun _ v _ => v = .slice (some ⟨sb, so, none⟩) th.length zd⟩, ⟨6, false, [], fun _ v _ => v = .int .i64 (m : Int)⟩, ⟨7, false, [1, 2, 3, 4, 5, 6], fun _ v _ => v = .pointer (some ⟨sb, so + m * 3, none⟩)⟩, ⟨8, false, [1, 2, 3, 4, 5, 6, 7], fun _ v _ => v = opv x⟩, ⟨9, false, [0, 1, 2, 3, 4, 5, 6, 7, 8], fun _ v _ => v = .bool true⟩, ⟨10, false, [0, 1, 2, 3, 4, 5, 6, 7, 8, 9], fun _ v _ => v = .bool false⟩] [(0, some 60), (1, some 61), (2, some 62), (3, some 63), (4, some 64), (5, some 65), (6, some 66), (7, some 67), (8, some 68), (9, some 69), (10, some 70)] (fun _ w' => Below w.heap.size w w' ∧ w30.heap.size ≤ w'.heap.size ∧ w'.heap[w.heap.size]? = some (.cells #[.slice a0 c.sems.length p0, .slice a1 c.groups.length p1, .slice a2 c.barriers.length p2, .slice a3 c.rooms.length p3, .slice (some ⟨b, o, none⟩) c.threads.length p4] 34 (0, 0)) ∧ w'.cell? ⟨b, o + k, none⟩ = some (.slice (some ⟨sb, so, none⟩) th.length zd) ∧ w'.cell? ⟨sb, so + m * 3, none⟩ = some (.int .i64 x.1) ∧ w'.cell? ⟨sb, so + m * 3 + 1, none⟩ = some (.int .i64 x.2.1) ∧ w'.cell? ⟨sb, so + m * 3 + 2, none⟩ = some (.int .i64 x.2.2)) (fun _ _ _ => True) (by kernel_rfl) (by rfl) (by kernel_rfl) (by kernel_rfl) ⟨(B30.out).drew, hN0, (heap_drew Xp_30.out), c0_0, c1_0, c2_0, c3_0⟩ (GoalsL.cons ?_ (GoalsL.cons ?_ (GoalsL.cons ?_ (GoalsL.cons ?_ (GoalsL.cons ?_ (GoalsL.cons ?_ (GoalsL.cons ?_ (GoalsL.cons ?_ (GoalsL.cons ?_ (GoalsL.cons ?_ (GoalsL.cons ?_ (GoalsL.nil)))))))))))) ?_
                          · refine GoalL.mk0 (by rfl) ?_; rintro f u wq hf ⟨hA, hN, x_p, c_0, c_1, c_2, c_3⟩ hD K hK; clear hD; simp only [put9] at hK ⊢
                            obtain ⟨kp_0, kp_1, kp_2, kp_3, kp_4, fp_0, fp_1, fp_2, fp_3, fp_4⟩ := box5 x_p; refine Closed.mk ?_; go_simp
                            exact hK.out _ _ ⟨hA, hN, x_p, c_0, c_1, c_2, c_3⟩ trivial rfl
                          · refine GoalL.mk0 (by rfl) ?_; rintro f u wq hf ⟨hA, hN, x_p, c_0, c_1, c_2, c_3⟩ hD K hK; clear hD; simp only [put9] at hK ⊢
                            refine Closed.mk ?_; go_simp
                            exact hK.out _ _ ⟨hA, hN, x_p, c_0, c_1, c_2, c_3⟩ trivial rfl
                          · refine GoalL.mk0 (by rfl) ?_; rintro f u wq hf ⟨hA, hN, x_p, c_0, c_1, c_2, c_3⟩ hD K hK; have e1 : u 1 = _ := hD.1; clear hD; simp only [put9, e1] at hK ⊢
                            obtain ⟨kp_0, kp_1, kp_2, kp_3, kp_4, fp_0, fp_1, fp_2, fp_3, fp_4⟩ := box5 x_p; refine Closed.mk ?_; go_simp
                            exact hK.out _ _ ⟨hA, hN, x_p, c_0, c_1, c_2, c_3⟩ trivial rfl
                          · refine GoalL.mk0 (by rfl) ?_; rintro f u wq hf ⟨hA, hN, x_p, c_0, c_1, c_2, c_3⟩ hD K hK; clear hD; simp only [put9] at hK ⊢
                            refine Closed.mk ?_; go_simp
                            exact hK.out _ _ ⟨hA, hN, x_p, c_0, c_1, c_2, c_3⟩ trivial rfl
                          · refine GoalL.mk0 (by rfl) ?_; rintro f u wq hf ⟨hA, hN, x_p, c_0, c_1, c_2, c_3⟩ hD K hK; have e1 : u 1 = _ := hD.1; have e2 : u 2 = _ := hD.2.1; have e3 : u 3 = _ := hD.2.2.1; clear hD; simp only [put9, e1, e2, e3] at hK ⊢
                            refine Closed.mk ?_; go_simp
                            exact hK.out _ _ ⟨hA, hN, x_p, c_0, c_1, c_2, c_3⟩ trivial rfl
                          · refine GoalL.mk0 (by rfl) ?_; rintro f u wq hf ⟨hA, hN, x_p, c_0, c_1, c_2, c_3⟩ hD K hK; have e1 : u 1 = _ := hD.1; have e2 : u 2 = _ := hD.2.1; have e3 : u 3 = _ := hD.2.2.1; have e4 : u 4 = _ := hD.2.2.2.1; clear hD; simp only [put9, e1, e2, e3, e4] at hK ⊢
                            refine Closed.mk ?_; go_simp
                            exact hK.out _ _ ⟨hA, hN, x_p, c_0, c_1, c_2, c_3⟩ trivial rfl
                          · refine GoalL.mk0 (by rfl) ?_; rintro f u wq hf ⟨hA, hN, x_p, c_0, c_1, c_2, c_3⟩ hD K hK; clear hD; simp only [put9] at hK ⊢
                            refine Closed.mk ?_; go_simp
                            exact hK.out _ _ ⟨hA, hN, x_p, c_0, c_1, c_2, c_3⟩ trivial rfl
                          · refine GoalL.mk0 (by rfl) ?_; rintro f u wq hf ⟨hA, hN, x_p, c_0, c_1, c_2, c_3⟩ hD K hK; have e1 : u 1 = _ := hD.1; have e2 : u 2 = _ := hD.2.1; have e3 : u 3 = _ := hD.2.2.1; have e4 : u 4 = _ := hD.2.2.2.1; have e5 : u 5 = _ := hD.2.2.2.2.1; have e6 : u 6 = _ := hD.2.2.2.2.2.1; clear hD; simp only [put9, e1, e2, e3, e4, e5, e6] at hK ⊢
                            refine Closed.mk ?_; go_simp
                            exact hK.out _ _ ⟨hA, hN, x_p, c_0, c_1, c_2, c_3⟩ trivial rfl
                          · refine GoalL.mk0 (by rfl) ?_; rintro f u wq hf ⟨hA, hN, x_p, c_0, c_1, c_2, c_3⟩ hD K hK; have e1 : u 1 = _ := hD.1; have e2 : u 2 = _ := hD.2.1; have e3 : u 3 = _ := hD.2.2.1; have e4 : u 4 = _ := hD.2.2.2.1; have e5 : u 5 = _ := hD.2.2.2.2.1; have e6 : u 6 = _ := hD.2.2.2.2.2.1; have e7 : u 7 = _ := hD.2.2.2.2.2.2.1; clear hD; simp only [put9, e1, e2, e3, e4, e5, e6, e7] at hK ⊢
                            refine Closed.mk ?_; go_simp
                            exact hK.out _ _ ⟨hA, hN, x_p, c_0, c_1, c_2, c_3⟩ trivial rfl
                          · refine GoalL.mk0 (by rfl) ?_; rintro f u wq hf ⟨hA, hN, x_p, c_0, c_1, c_2, c_3⟩ hD K hK; have e0 : u 0 = _ := hD.1; have e1 : u 1 = _ := hD.2.1; have e2 : u 2 = _ := hD.2.2.1; have e3 : u 3 = _ := hD.2.2.2.1; have e4 : u 4 = _ := hD.2.2.2.2.1; have e5 : u 5 = _ := hD.2.2.2.2.2.1; have e6 : u 6 = _ := hD.2.2.2.2.2.2.1; have e7 : u 7 = _ := hD.2.2.2.2.2.2.2.1; have e8 : u 8 = _ := hD.2.2.2.2.2.2.2.2.1; clear hD; simp only [put9, e0, e1, e2, e3, e4, e5, e6, e7, e8] at hK ⊢
                            refine Closed.mk ?_; go_simp
                            refine (sOpValidO _ c x _ (ProgRow.below HR.out hA)).mono ?_
                            rw [HV.out]
                            rintro e wr ⟨rfl, hb⟩
                            exact hK.out _ _ ⟨Below.trans hA (hb.mono hA.size), Nat.le_trans hN hb.size, (below_at hb x_p), ((hb.cell (p := ⟨b, o + k, none⟩) (Nat.lt_of_lt_of_le (Nat.lt_of_lt_of_le hb1 S30) hN)).trans c_0), ((hb.cell (p := ⟨sb, so + m * 3, none⟩) (Nat.lt_of_lt_of_le (Nat.lt_of_lt_of_le hb3 S30) hN)).trans c_1), ((hb.cell (p := ⟨sb, so + m * 3 + 1, none⟩) (Nat.lt_of_lt_of_le (Nat.lt_of_lt_of_le hb3 S30) hN)).trans c_2), ((hb.cell (p := ⟨sb, so + m * 3 + 2, none⟩) (Nat.lt_of_lt_of_le (Nat.lt_of_lt_of_le hb3 S30) hN)).trans c_3)⟩ trivial rfl
                          · refine GoalL.mk0 (by rfl) ?_; rintro f u wq hf ⟨hA, hN, x_p, c_0, c_1, c_2, c_3⟩ hD K hK; have e0 : u 0 = _ := hD.1; have e1 : u 1 = _ := hD.2.1; have e2 : u 2 = _ := hD.2.2.1; have e3 : u 3 = _ := hD.2.2.2.1; have e4 : u 4 = _ := hD.2.2.2.2.1; have e5 : u 5 = _ := hD.2.2.2.2.2.1; have e6 : u 6 = _ := hD.2.2.2.2.2.2.1; have e7 : u 7 = _ := hD.2.2.2.2.2.2.2.1; have e8 : u 8 = _ := hD.2.2.2.2.2.2.2.2.1; have e9 : u 9 = _ := hD.2.2.2.2.2.2.2.2.2.1; clear hD; simp only [put9, e0, e1, e2, e3, e4, e5, e6, e7, e8, e9] at hK ⊢
                            refine Closed.mk ?_; go_simp
                            exact hK.out _ _ ⟨hA, hN, x_p, c_0, c_1, c_2, c_3⟩ trivial rfl
                          intro u w31 hC hD
                          have hA := hC.1; have hN := hC.2.1; have x_p := hC.2.2.1; have c_0 := hC.2.2.2.1; have c_1 := hC.2.2.2.2.1; have c_2 := hC.2.2.2.2.2.1; have c_3 := hC.2.2.2.2.2.2; clear hC
                          have e0 : u 0 = _ := hD.1; have e1 : u 1 = _ := hD.2.1; have e2 : u 2 = _ := hD.2.2.1; have e3 : u 3 = _ := hD.2.2.2.1; have e4 : u 4 = _ := hD.2.2.2.2.1; have e5 : u 5 = _ := hD.2.2.2.2.2.1; have e6 : u 6 = _ := hD.2.2.2.2.2.2.1; have e7 : u 7 = _ := hD.2.2.2.2.2.2.2.1; have e8 : u 8 = _ := hD.2.2.2.2.2.2.2.2.1; have e9 : u 9 = _ := hD.2.2.2.2.2.2.2.2.2.1; have e10 : u 10 = _ := hD.2.2.2.2.2.2.2.2.2.2.1; clear hD
                          have B31 := Lib.hid hA; have N31 := hN; have S31 := hA.size
                          have Xp_31 := Lib.hid x_p; clear x_p
                          obtain ⟨cp31_0, cp31_1, cp31_2, cp31_3, cp31_4, fp31_0, fp31_1, fp31_2, fp31_3, fp31_4⟩ := box5 Xp_31.out; have lp31 := heap_lt Xp_31.out
                          clear hA hN
                          simp only [put9, e0, e1, e2, e3, e4, e5, e6, e7, e8, e9, e10]
                          refine Closed.mk (wpAnyH_done (by kernel_rfl) ?_ _)
                          go_wp2
                          go_roundw
                          case rel => exact ⟨m + 1, by omega, by omega, by go_num, all_take HX.out HJ2.out (of_decide_eq_true HV.out), Xp_31.out, B31.out⟩
                          case measure => simp [intOf]; omega
                      · have d8' : decide ((m : Int) ≤ 8) = false := decide_eq_false (by omega)
                        have d9' : decide (8 < (th.length : Int)) = true := decide_eq_true (by omega)
                        go_wp2
                        go_ret
                        exact ⟨ret_bool (progB_no (fun e => by have := (e.2.2.2.2.2.2 th (get_mem HT.out)).1; omega)).symm, B30.out⟩
                    · have d0 : decide ((m : Int) < (th.length : Int)) = false := decide_eq_false (by omega)
                      by_cases h8 : th.length ≤ 8
                      · have d9' : decide (8 < (th.length : Int)) = false := decide_eq_false (by omega)
                        have hth : ThrOk c th := ⟨by omega, by have h8 := HJ2.out; rw [take_all (by omega)] at h8; exact h8⟩
                        have HTH := Lib.hid hth; clear hth
                        go_wp2
                        go_roundw
                        case rel => exact ⟨k + 1, by omega, by go_num, all_take HT.out HJ.out HTH.out, Xp_30.out, B30.out⟩
                        case measure => simp [intOf]; omega
                      · have d9' : decide (8 < (th.length : Int)) = true := decide_eq_true (by omega)
                        go_wp2
                        go_ret
                        exact ⟨ret_bool (progB_no (fun e => by have := (e.2.2.2.2.2.2 th (get_mem HT.out)).1; omega)).symm, B30.out⟩
                · go_wp2
                  go_ret
                  have h8 := HJ.out
                  rw [take_all (by omega)] at h8
                  exact ⟨ret_bool (progB_yes ⟨G0.out, G1.out, G2.out, G3.out, by omega, by omega, h8⟩).symm, B20.out⟩
end Go.Proofs.YthbnbofoefdneaaDoor
