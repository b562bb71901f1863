/- impl.OpValid, by kinds (made by gen_opvalid.py). -/
import Derived.Test.YthbnbofoefdneaaDoorOpClo
import Derived.Test.YthbnbofoefdneaaDoorRg2
namespace Go.Proofs.YthbnbofoefdneaaDoor
open Go.RowKit
set_option linter.unusedSimpArgs false
set_option linter.unusedVariables false
set_option maxRecDepth 100000 in
set_option maxHeartbeats 16000000 in
theorem OpValid_3 (v : Value) (c : ProgD) (on ag : Int) (w : World) (h : ProgRow w v c) :
    Calls Tryd.prog 12 #[v, .agg #[.int .i64 3, .int .i64 on, .int .i64 ag]] w fun e w' => e = .returned (.bool (opB c (3, on, ag))) ∧ Below w.heap.size w w' := by
  obtain ⟨a0, p0, a1, p1, a2, p2, a3, p3, a4, p4, rfl, r0, r1, r2, r3, r4⟩ := h
  have R0 := Lib.hid r0; clear r0 r1 r2 r3 r4
  by_cases ho : 0 ≤ on ∧ on < (c.sems.length : Int)
  · have HO := onB_yes ho
    obtain ⟨ho1, ho2⟩ := ho
    by_cases hge : 1 ≤ ag
    · have d1 := decide_eq_true hge
      obtain ⟨m, rfl⟩ := Int.eq_ofNat_of_zero_le ho1
      have hm : m < c.sems.length := by omega
      obtain ⟨z, hz⟩ := get_ex hm
      obtain ⟨_, _, ee, _, _, rr⟩ := R0.out.look; injection ee with e1 _ e2; subst e1 e2
      obtain ⟨sb, so, rfl, slt, sc⟩ := rr (by omega)
      have sc0 := sc m z hz; clear sc rr
      have hgd : c.sems.getD ((m : Nat) : Int).toNat 0 = z := by simp [List.getD_eq_getElem?_getD, hz]
      clear hz
      have d3 : (m : Int) < (c.sems.length : Int) := by omega
      have d4 : (0 : Int) ≤ (m : Int) := by omega
      by_cases hle : ag ≤ z
      · have d2 := decide_eq_true hle
        go_enter Tryd.func12, Tryd.ntmps12
        go_wp2_with (fail)
        have hN0 : w.heap.size + 2 ≤ ((w.alloc (.cells #[.slice (some ⟨sb, so, none⟩) c.sems.length p0, .slice a1 c.groups.length p1, .slice a2 c.barriers.length p2, .slice a3 c.rooms.length p3, .slice a4 c.threads.length p4] 34)).alloc (.cells #[.int .i64 3, .int .i64 (m : Int), .int .i64 ag] 23)).heap.size := (by first | omega | (simp only [szA, szS, szD, World.heap_drewN] at * <;> omega))
        have c0_0 : ((w.alloc (.cells #[.slice (some ⟨sb, so, none⟩) c.sems.length p0, .slice a1 c.groups.length p1, .slice a2 c.barriers.length p2, .slice a3 c.rooms.length p3, .slice a4 c.threads.length p4] 34)).alloc (.cells #[.int .i64 3, .int .i64 (m : Int), .int .i64 ag] 23)).drew.cell? ⟨sb, so + m, none⟩ = some (.int .i64 z) := (((Below.alloc (Below.alloc (Below.refl _ _) (by first | omega | (simp only [szA, szS, szD, World.heap_drewN] at * <;> omega)) _) (by first | omega | (simp only [szA, szS, szD, World.heap_drewN] at * <;> omega)) _)).drew.cell (p := ⟨sb, so + m, none⟩) slt).trans sc0
        refine wp_region_L [⟨0, false, [], fun _ v _ => v = .func (.func 29) #[] #[.pointer (some ⟨w.heap.size + 1, 0, none⟩)]⟩, ⟨1, false, [], fun _ v _ => v = .pointer (some ⟨w.heap.size, 0, none⟩)⟩, ⟨2, false, [1], fun _ v _ => v = .slice (some ⟨sb, so, none⟩) c.sems.length p0⟩, ⟨3, false, [0, 1, 2], fun _ v _ => v = .bool true⟩, ⟨4, false, [0, 1, 2, 3], fun _ v _ => v = .bool true⟩, ⟨5, false, [0, 1, 2, 3, 4], fun _ v _ => v = .pointer (some ⟨w.heap.size + 1, 2, none⟩)⟩, ⟨6, false, [0, 1, 2, 3, 4, 5], fun _ v _ => v = .int .i64 ag⟩, ⟨7, false, [0, 1, 2, 3, 4, 5, 6], fun _ v _ => v = .bool true⟩, ⟨8, false, [0, 1, 2, 3, 4, 5, 6, 7], fun _ v _ => v = .bool true⟩, ⟨9, false, [0, 1, 2, 3, 4, 5, 6, 7, 8], fun _ v _ => v = .bool true⟩, ⟨10, false, [0, 1, 2, 3, 4, 5, 6, 7, 8, 9], fun _ v _ => v = .pointer (some ⟨w.heap.size + 1, 2, none⟩)⟩, ⟨11, false, [0, 1, 2, 3, 4, 5, 6, 7, 8, 9, 10], fun _ v _ => v = .int .i64 ag⟩, ⟨12, false, [0, 1, 2, 3, 4, 5, 6, 7, 8, 9], fun _ v _ => v = .pointer (some ⟨w.heap.size, 0, none⟩)⟩, ⟨13, false, [0, 1, 2, 3, 4, 5, 6, 7, 8, 9, 12], fun _ v _ => v = .slice (some ⟨sb, so, none⟩) c.sems.length p0⟩, ⟨14, false, [0, 1, 2, 3, 4, 5, 6, 7, 8, 9], fun _ v _ => v = .pointer (some ⟨w.heap.size + 1, 1, none⟩)⟩, ⟨15, false, [0, 1, 2, 3, 4, 5, 6, 7, 8, 9, 14], fun _ v _ => v = .int .i64 (m : Int)⟩, ⟨16, false, [0, 1, 2, 3, 4, 5, 6, 7, 8, 9, 12, 13, 14, 15], fun _ v _ => v = .pointer (some ⟨sb, so + m, none⟩)⟩, ⟨17, false, [0, 1, 2, 3, 4, 5, 6, 7, 8, 9, 12, 13, 14, 15, 16], fun _ v _ => v = .int .i64 z⟩, ⟨18, false, [0, 1, 2, 3, 4, 5, 6, 7, 8, 9, 10, 11, 12, 13, 14, 15, 16, 17], fun _ v _ => v = .bool true⟩, ⟨19, false, [0, 1, 2, 3, 4, 5, 6, 7, 8, 9, 10, 11, 12, 13, 14, 15, 16, 17, 18], fun _ v _ => v = .bool true⟩, ⟨20, false, [0, 1, 2, 3, 4, 5, 6, 7, 8, 9, 10, 11, 12, 13, 14, 15, 16, 17, 18, 19], fun _ v _ => v = .bool true⟩] [(0, some 22), (1, some 23), (2, some 24), (3, some 25), (4, some 26), (5, some 27), (6, some 28), (7, some 29), (8, some 30), (9, some 31), (10, some 32), (11, some 33), (12, some 34), (13, some 35), (14, some 36), (15, some 37), (16, some 38), (17, some 39), (18, some 40), (19, some 41), (20, some 4)] (fun _ w' => Below w.heap.size w w' ∧ w.heap.size + 2 ≤ w'.heap.size ∧ w'.heap[w.heap.size]? = some (.cells #[.slice (some ⟨sb, so, none⟩) c.sems.length p0, .slice a1 c.groups.length p1, .slice a2 c.barriers.length p2, .slice a3 c.rooms.length p3, .slice a4 c.threads.length p4] 34 (0, 0)) ∧ w'.heap[w.heap.size + 1]? = some (.cells #[.int .i64 3, .int .i64 (m : Int), .int .i64 ag] 23 (0, 0)) ∧ w'.cell? ⟨sb, so + m, none⟩ = some (.int .i64 z)) (fun _ _ _ => True) (by kernel_rfl) (by rfl) (by kernel_rfl) (by kernel_rfl) ⟨((Below.alloc (Below.alloc (Below.refl _ _) (by first | omega | (simp only [szA, szS, szD, World.heap_drewN] at * <;> omega)) _) (by first | omega | (simp only [szA, szS, szD, World.heap_drewN] at * <;> omega)) _)).drew, hN0, (heap_drew (heap_up (heap_at' (n := w.heap.size) (by first | omega | (simp only [szA, szS, szD, World.heap_drewN] at * <;> omega))))), (heap_drew (heap_at' (n := w.heap.size + 1) (by first | omega | (simp only [szA, szS, szD, World.heap_drewN] at * <;> omega)))), c0_0⟩ (GoalsL.cons ?_ (GoalsL.cons ?_ (GoalsL.cons ?_ (GoalsL.cons ?_ (GoalsL.cons ?_ (GoalsL.cons ?_ (GoalsL.cons ?_ (GoalsL.cons ?_ (GoalsL.cons ?_ (GoalsL.cons ?_ (GoalsL.cons ?_ (GoalsL.cons ?_ (GoalsL.cons ?_ (GoalsL.cons ?_ (GoalsL.cons ?_ (GoalsL.cons ?_ (GoalsL.cons ?_ (GoalsL.cons ?_ (GoalsL.cons ?_ (GoalsL.cons ?_ (GoalsL.cons ?_ (GoalsL.nil)))))))))))))))))))))) ?_
        · refine GoalL.mk0 (by rfl) ?_; rintro f u wq hf ⟨hA, hN, x_p, x_o, c_0⟩ hD K hK; clear hD; simp only [put9] at hK ⊢
          refine Closed.mk ?_; go_simp
          exact hK.out _ _ ⟨hA, hN, x_p, x_o, c_0⟩ trivial rfl
        · refine GoalL.mk0 (by rfl) ?_; rintro f u wq hf ⟨hA, hN, x_p, x_o, c_0⟩ hD K hK; clear hD; simp only [put9] at hK ⊢
          refine Closed.mk ?_; go_simp
          exact hK.out _ _ ⟨hA, hN, x_p, x_o, c_0⟩ trivial rfl
        · refine GoalL.mk0 (by rfl) ?_; rintro f u wq hf ⟨hA, hN, x_p, x_o, c_0⟩ hD K hK; have e1 : u 1 = _ := hD.1; clear hD; simp only [put9, e1] at hK ⊢
          obtain ⟨kp_0, kp_1, kp_2, kp_3, kp_4, fp_0, fp_1, fp_2, fp_3, fp_4⟩ := box5 x_p; refine Closed.mk ?_; go_simp
          exact hK.out _ _ ⟨hA, hN, x_p, x_o, c_0⟩ trivial rfl
        · refine GoalL.mk0 (by rfl) ?_; rintro f u wq hf ⟨hA, hN, x_p, x_o, c_0⟩ hD K hK; have e0 : u 0 = _ := hD.1; have e1 : u 1 = _ := hD.2.1; have e2 : u 2 = _ := hD.2.2.1; clear hD; simp only [put9, e0, e1, e2] at hK ⊢
          refine Closed.mk ?_; go_simp
          refine (onClo_calls (some ⟨sb, so, none⟩) c.sems.length p0 (w.heap.size + 1) (m : Int) _ (box3 x_o).2.1).mono ?_
          rw [HO]
          rintro e wr ⟨rfl, rfl⟩; have hb := Below.refl wq.heap.size wq
          exact hK.out _ _ ⟨Below.trans hA (hb.mono hA.size), Nat.le_trans hN hb.size, (below_at hb x_p), (below_at hb x_o), ((hb.cell (p := ⟨sb, so + m, none⟩) (Nat.lt_of_lt_of_le (Nat.lt_of_lt_of_le slt (by omega)) hN)).trans c_0)⟩ trivial rfl
        · refine GoalL.mk0 (by rfl) ?_; rintro f u wq hf ⟨hA, hN, x_p, x_o, c_0⟩ hD K hK; have e0 : u 0 = _ := hD.1; have e1 : u 1 = _ := hD.2.1; have e2 : u 2 = _ := hD.2.2.1; have e3 : u 3 = _ := hD.2.2.2.1; clear hD; simp only [put9, e0, e1, e2, e3] at hK ⊢
          refine Closed.mk ?_; go_simp
          exact hK.out _ _ ⟨hA, hN, x_p, x_o, c_0⟩ trivial rfl
        · refine GoalL.mk0 (by rfl) ?_; rintro f u wq hf ⟨hA, hN, x_p, x_o, c_0⟩ hD K hK; have e0 : u 0 = _ := hD.1; have e1 : u 1 = _ := hD.2.1; have e2 : u 2 = _ := hD.2.2.1; have e3 : u 3 = _ := hD.2.2.2.1; have e4 : u 4 = _ := hD.2.2.2.2.1; clear hD; simp only [put9, e0, e1, e2, e3, e4] at hK ⊢
          refine Closed.mk ?_; go_simp
          exact hK.out _ _ ⟨hA, hN, x_p, x_o, c_0⟩ trivial rfl
        · refine GoalL.mk0 (by rfl) ?_; rintro f u wq hf ⟨hA, hN, x_p, x_o, c_0⟩ hD K hK; have e0 : u 0 = _ := hD.1; have e1 : u 1 = _ := hD.2.1; have e2 : u 2 = _ := hD.2.2.1; have e3 : u 3 = _ := hD.2.2.2.1; have e4 : u 4 = _ := hD.2.2.2.2.1; have e5 : u 5 = _ := hD.2.2.2.2.2.1; clear hD; simp only [put9, e0, e1, e2, e3, e4, e5] at hK ⊢
          obtain ⟨ko_0, ko_1, ko_2, fo_0, fo_1, fo_2⟩ := box3 x_o; refine Closed.mk ?_; go_simp
          exact hK.out _ _ ⟨hA, hN, x_p, x_o, c_0⟩ trivial rfl
        · refine GoalL.mk0 (by rfl) ?_; rintro f u wq hf ⟨hA, hN, x_p, x_o, c_0⟩ hD K hK; have e0 : u 0 = _ := hD.1; have e1 : u 1 = _ := hD.2.1; have e2 : u 2 = _ := hD.2.2.1; have e3 : u 3 = _ := hD.2.2.2.1; have e4 : u 4 = _ := hD.2.2.2.2.1; have e5 : u 5 = _ := hD.2.2.2.2.2.1; have e6 : u 6 = _ := hD.2.2.2.2.2.2.1; clear hD; simp only [put9, e0, e1, e2, e3, e4, e5, e6] at hK ⊢
          refine Closed.mk ?_; go_simp
          exact hK.out _ _ ⟨hA, hN, x_p, x_o, c_0⟩ trivial rfl
        · refine GoalL.mk0 (by rfl) ?_; rintro f u wq hf ⟨hA, hN, x_p, x_o, c_0⟩ hD K hK; have e0 : u 0 = _ := hD.1; have e1 : u 1 = _ := hD.2.1; have e2 : u 2 = _ := hD.2.2.1; have e3 : u 3 = _ := hD.2.2.2.1; have e4 : u 4 = _ := hD.2.2.2.2.1; have e5 : u 5 = _ := hD.2.2.2.2.2.1; have e6 : u 6 = _ := hD.2.2.2.2.2.2.1; have e7 : u 7 = _ := hD.2.2.2.2.2.2.2.1; clear hD; simp only [put9, e0, e1, e2, e3, e4, e5, e6, e7] at hK ⊢
          refine Closed.mk ?_; go_simp
          exact hK.out _ _ ⟨hA, hN, x_p, x_o, c_0⟩ trivial rfl
        · refine GoalL.mk0 (by rfl) ?_; rintro f u wq hf ⟨hA, hN, x_p, x_o, c_0⟩ hD K hK; have e0 : u 0 = _ := hD.1; have e1 : u 1 = _ := hD.2.1; have e2 : u 2 = _ := hD.2.2.1; have e3 : u 3 = _ := hD.2.2.2.1; have e4 : u 4 = _ := hD.2.2.2.2.1; have e5 : u 5 = _ := hD.2.2.2.2.2.1; have e6 : u 6 = _ := hD.2.2.2.2.2.2.1; have e7 : u 7 = _ := hD.2.2.2.2.2.2.2.1; have e8 : u 8 = _ := hD.2.2.2.2.2.2.2.2.1; clear hD; simp only [put9, e0, e1, e2, e3, e4, e5, e6, e7, e8] at hK ⊢
          refine Closed.mk ?_; go_simp
          exact hK.out _ _ ⟨hA, hN, x_p, x_o, c_0⟩ trivial rfl
        · refine GoalL.mk0 (by rfl) ?_; rintro f u wq hf ⟨hA, hN, x_p, x_o, c_0⟩ hD K hK; have e0 : u 0 = _ := hD.1; have e1 : u 1 = _ := hD.2.1; have e2 : u 2 = _ := hD.2.2.1; have e3 : u 3 = _ := hD.2.2.2.1; have e4 : u 4 = _ := hD.2.2.2.2.1; have e5 : u 5 = _ := hD.2.2.2.2.2.1; have e6 : u 6 = _ := hD.2.2.2.2.2.2.1; have e7 : u 7 = _ := hD.2.2.2.2.2.2.2.1; have e8 : u 8 = _ := hD.2.2.2.2.2.2.2.2.1; have e9 : u 9 = _ := hD.2.2.2.2.2.2.2.2.2.1; clear hD; simp only [put9, e0, e1, e2, e3, e4, e5, e6, e7, e8, e9] at hK ⊢
          refine Closed.mk ?_; go_simp
          exact hK.out _ _ ⟨hA, hN, x_p, x_o, c_0⟩ trivial rfl
        · refine GoalL.mk0 (by rfl) ?_; rintro f u wq hf ⟨hA, hN, x_p, x_o, c_0⟩ hD K hK; have e0 : u 0 = _ := hD.1; have e1 : u 1 = _ := hD.2.1; have e2 : u 2 = _ := hD.2.2.1; have e3 : u 3 = _ := hD.2.2.2.1; have e4 : u 4 = _ := hD.2.2.2.2.1; have e5 : u 5 = _ := hD.2.2.2.2.2.1; have e6 : u 6 = _ := hD.2.2.2.2.2.2.1; have e7 : u 7 = _ := hD.2.2.2.2.2.2.2.1; have e8 : u 8 = _ := hD.2.2.2.2.2.2.2.2.1; have e9 : u 9 = _ := hD.2.2.2.2.2.2.2.2.2.1; have e10 : u 10 = _ := hD.2.2.2.2.2.2.2.2.2.2.1; clear hD; simp only [put9, e0, e1, e2, e3, e4, e5, e6, e7, e8, e9, e10] at hK ⊢
          obtain ⟨ko_0, ko_1, ko_2, fo_0, fo_1, fo_2⟩ := box3 x_o; refine Closed.mk ?_; go_simp
          exact hK.out _ _ ⟨hA, hN, x_p, x_o, c_0⟩ trivial rfl
        · refine GoalL.mk0 (by rfl) ?_; rintro f u wq hf ⟨hA, hN, x_p, x_o, c_0⟩ hD K hK; have e0 : u 0 = _ := hD.1; have e1 : u 1 = _ := hD.2.1; have e2 : u 2 = _ := hD.2.2.1; have e3 : u 3 = _ := hD.2.2.2.1; have e4 : u 4 = _ := hD.2.2.2.2.1; have e5 : u 5 = _ := hD.2.2.2.2.2.1; have e6 : u 6 = _ := hD.2.2.2.2.2.2.1; have e7 : u 7 = _ := hD.2.2.2.2.2.2.2.1; have e8 : u 8 = _ := hD.2.2.2.2.2.2.2.2.1; have e9 : u 9 = _ := hD.2.2.2.2.2.2.2.2.2.1; clear hD; simp only [put9, e0, e1, e2, e3, e4, e5, e6, e7, e8, e9] at hK ⊢
          refine Closed.mk ?_; go_simp
          exact hK.out _ _ ⟨hA, hN, x_p, x_o, c_0⟩ trivial rfl
        · refine GoalL.mk0 (by rfl) ?_; rintro f u wq hf ⟨hA, hN, x_p, x_o, c_0⟩ hD K hK; have e0 : u 0 = _ := hD.1; have e1 : u 1 = _ := hD.2.1; have e2 : u 2 = _ := hD.2.2.1; have e3 : u 3 = _ := hD.2.2.2.1; have e4 : u 4 = _ := hD.2.2.2.2.1; have e5 : u 5 = _ := hD.2.2.2.2.2.1; have e6 : u 6 = _ := hD.2.2.2.2.2.2.1; have e7 : u 7 = _ := hD.2.2.2.2.2.2.2.1; have e8 : u 8 = _ := hD.2.2.2.2.2.2.2.2.1; have e9 : u 9 = _ := hD.2.2.2.2.2.2.2.2.2.1; have e12 : u 12 = _ := hD.2.2.2.2.2.2.2.2.2.2.1; clear hD; simp only [put9, e0, e1, e2, e3, e4, e5, e6, e7, e8, e9, e12] at hK ⊢
          obtain ⟨kp_0, kp_1, kp_2, kp_3, kp_4, fp_0, fp_1, fp_2, fp_3, fp_4⟩ := box5 x_p; refine Closed.mk ?_; go_simp
          exact hK.out _ _ ⟨hA, hN, x_p, x_o, c_0⟩ trivial rfl
        · refine GoalL.mk0 (by rfl) ?_; rintro f u wq hf ⟨hA, hN, x_p, x_o, c_0⟩ hD K hK; have e0 : u 0 = _ := hD.1; have e1 : u 1 = _ := hD.2.1; have e2 : u 2 = _ := hD.2.2.1; have e3 : u 3 = _ := hD.2.2.2.1; have e4 : u 4 = _ := hD.2.2.2.2.1; have e5 : u 5 = _ := hD.2.2.2.2.2.1; have e6 : u 6 = _ := hD.2.2.2.2.2.2.1; have e7 : u 7 = _ := hD.2.2.2.2.2.2.2.1; have e8 : u 8 = _ := hD.2.2.2.2.2.2.2.2.1; have e9 : u 9 = _ := hD.2.2.2.2.2.2.2.2.2.1; clear hD; simp only [put9, e0, e1, e2, e3, e4, e5, e6, e7, e8, e9] at hK ⊢
          refine Closed.mk ?_; go_simp
          exact hK.out _ _ ⟨hA, hN, x_p, x_o, c_0⟩ trivial rfl
        · refine GoalL.mk0 (by rfl) ?_; rintro f u wq hf ⟨hA, hN, x_p, x_o, c_0⟩ hD K hK; have e0 : u 0 = _ := hD.1; have e1 : u 1 = _ := hD.2.1; have e2 : u 2 = _ := hD.2.2.1; have e3 : u 3 = _ := hD.2.2.2.1; have e4 : u 4 = _ := hD.2.2.2.2.1; have e5 : u 5 = _ := hD.2.2.2.2.2.1; have e6 : u 6 = _ := hD.2.2.2.2.2.2.1; have e7 : u 7 = _ := hD.2.2.2.2.2.2.2.1; have e8 : u 8 = _ := hD.2.2.2.2.2.2.2.2.1; have e9 : u 9 = _ := hD.2.2.2.2.2.2.2.2.2.1; have e14 : u 14 = _ := hD.2.2.2.2.2.2.2.2.2.2.1; clear hD; simp only [put9, e0, e1, e2, e3, e4, e5, e6, e7, e8, e9, e14] at hK ⊢
          obtain ⟨ko_0, ko_1, ko_2, fo_0, fo_1, fo_2⟩ := box3 x_o; refine Closed.mk ?_; go_simp
          exact hK.out _ _ ⟨hA, hN, x_p, x_o, c_0⟩ trivial rfl
        · refine GoalL.mk0 (by rfl) ?_; rintro f u wq hf ⟨hA, hN, x_p, x_o, c_0⟩ hD K hK; have e0 : u 0 = _ := hD.1; have e1 : u 1 = _ := hD.2.1; have e2 : u 2 = _ := hD.2.2.1; have e3 : u 3 = _ := hD.2.2.2.1; have e4 : u 4 = _ := hD.2.2.2.2.1; have e5 : u 5 = _ := hD.2.2.2.2.2.1; have e6 : u 6 = _ := hD.2.2.2.2.2.2.1; have e7 : u 7 = _ := hD.2.2.2.2.2.2.2.1; have e8 : u 8 = _ := hD.2.2.2.2.2.2.2.2.1; have e9 : u 9 = _ := hD.2.2.2.2.2.2.2.2.2.1; have e12 : u 12 = _ := hD.2.2.2.2.2.2.2.2.2.2.1; have e13 : u 13 = _ := hD.2.2.2.2.2.2.2.2.2.2.2.1; have e14 : u 14 = _ := hD.2.2.2.2.2.2.2.2.2.2.2.2.1; have e15 : u 15 = _ := hD.2.2.2.2.2.2.2.2.2.2.2.2.2.1; clear hD; simp only [put9, e0, e1, e2, e3, e4, e5, e6, e7, e8, e9, e12, e13, e14, e15] at hK ⊢
          refine Closed.mk ?_; go_simp
          exact hK.out _ _ ⟨hA, hN, x_p, x_o, c_0⟩ trivial rfl
        · refine GoalL.mk0 (by rfl) ?_; rintro f u wq hf ⟨hA, hN, x_p, x_o, c_0⟩ hD K hK; have e0 : u 0 = _ := hD.1; have e1 : u 1 = _ := hD.2.1; have e2 : u 2 = _ := hD.2.2.1; have e3 : u 3 = _ := hD.2.2.2.1; have e4 : u 4 = _ := hD.2.2.2.2.1; have e5 : u 5 = _ := hD.2.2.2.2.2.1; have e6 : u 6 = _ := hD.2.2.2.2.2.2.1; have e7 : u 7 = _ := hD.2.2.2.2.2.2.2.1; have e8 : u 8 = _ := hD.2.2.2.2.2.2.2.2.1; have e9 : u 9 = _ := hD.2.2.2.2.2.2.2.2.2.1; have e12 : u 12 = _ := hD.2.2.2.2.2.2.2.2.2.2.1; have e13 : u 13 = _ := hD.2.2.2.2.2.2.2.2.2.2.2.1; have e14 : u 14 = _ := hD.2.2.2.2.2.2.2.2.2.2.2.2.1; have e15 : u 15 = _ := hD.2.2.2.2.2.2.2.2.2.2.2.2.2.1; have e16 : u 16 = _ := hD.2.2.2.2.2.2.2.2.2.2.2.2.2.2.1; clear hD; simp only [put9, e0, e1, e2, e3, e4, e5, e6, e7, e8, e9, e12, e13, e14, e15, e16] at hK ⊢
          refine Closed.mk ?_; go_simp
          exact hK.out _ _ ⟨hA, hN, x_p, x_o, c_0⟩ trivial rfl
        · refine GoalL.mk0 (by rfl) ?_; rintro f u wq hf ⟨hA, hN, x_p, x_o, c_0⟩ hD K hK; have e0 : u 0 = _ := hD.1; have e1 : u 1 = _ := hD.2.1; have e2 : u 2 = _ := hD.2.2.1; have e3 : u 3 = _ := hD.2.2.2.1; have e4 : u 4 = _ := hD.2.2.2.2.1; have e5 : u 5 = _ := hD.2.2.2.2.2.1; have e6 : u 6 = _ := hD.2.2.2.2.2.2.1; have e7 : u 7 = _ := hD.2.2.2.2.2.2.2.1; have e8 : u 8 = _ := hD.2.2.2.2.2.2.2.2.1; have e9 : u 9 = _ := hD.2.2.2.2.2.2.2.2.2.1; have e10 : u 10 = _ := hD.2.2.2.2.2.2.2.2.2.2.1; have e11 : u 11 = _ := hD.2.2.2.2.2.2.2.2.2.2.2.1; have e12 : u 12 = _ := hD.2.2.2.2.2.2.2.2.2.2.2.2.1; have e13 : u 13 = _ := hD.2.2.2.2.2.2.2.2.2.2.2.2.2.1; have e14 : u 14 = _ := hD.2.2.2.2.2.2.2.2.2.2.2.2.2.2.1; have e15 : u 15 = _ := hD.2.2.2.2.2.2.2.2.2.2.2.2.2.2.2.1; have e16 : u 16 = _ := hD.2.2.2.2.2.2.2.2.2.2.2.2.2.2.2.2.1; have e17 : u 17 = _ := hD.2.2.2.2.2.2.2.2.2.2.2.2.2.2.2.2.2.1; clear hD; simp only [put9, e0, e1, e2, e3, e4, e5, e6, e7, e8, e9, e10, e11, e12, e13, e14, e15, e16, e17] at hK ⊢
          refine Closed.mk ?_; go_simp
          exact hK.out _ _ ⟨hA, hN, x_p, x_o, c_0⟩ trivial rfl
        · refine GoalL.mk0 (by rfl) ?_; rintro f u wq hf ⟨hA, hN, x_p, x_o, c_0⟩ hD K hK; have e0 : u 0 = _ := hD.1; have e1 : u 1 = _ := hD.2.1; have e2 : u 2 = _ := hD.2.2.1; have e3 : u 3 = _ := hD.2.2.2.1; have e4 : u 4 = _ := hD.2.2.2.2.1; have e5 : u 5 = _ := hD.2.2.2.2.2.1; have e6 : u 6 = _ := hD.2.2.2.2.2.2.1; have e7 : u 7 = _ := hD.2.2.2.2.2.2.2.1; have e8 : u 8 = _ := hD.2.2.2.2.2.2.2.2.1; have e9 : u 9 = _ := hD.2.2.2.2.2.2.2.2.2.1; have e10 : u 10 = _ := hD.2.2.2.2.2.2.2.2.2.2.1; have e11 : u 11 = _ := hD.2.2.2.2.2.2.2.2.2.2.2.1; have e12 : u 12 = _ := hD.2.2.2.2.2.2.2.2.2.2.2.2.1; have e13 : u 13 = _ := hD.2.2.2.2.2.2.2.2.2.2.2.2.2.1; have e14 : u 14 = _ := hD.2.2.2.2.2.2.2.2.2.2.2.2.2.2.1; have e15 : u 15 = _ := hD.2.2.2.2.2.2.2.2.2.2.2.2.2.2.2.1; have e16 : u 16 = _ := hD.2.2.2.2.2.2.2.2.2.2.2.2.2.2.2.2.1; have e17 : u 17 = _ := hD.2.2.2.2.2.2.2.2.2.2.2.2.2.2.2.2.2.1; have e18 : u 18 = _ := hD.2.2.2.2.2.2.2.2.2.2.2.2.2.2.2.2.2.2.1; clear hD; simp only [put9, e0, e1, e2, e3, e4, e5, e6, e7, e8, e9, e10, e11, e12, e13, e14, e15, e16, e17, e18] at hK ⊢
          refine Closed.mk ?_; go_simp
          exact hK.out _ _ ⟨hA, hN, x_p, x_o, c_0⟩ trivial rfl
        · refine GoalL.mk0 (by rfl) ?_; rintro f u wq hf ⟨hA, hN, x_p, x_o, c_0⟩ hD K hK; have e0 : u 0 = _ := hD.1; have e1 : u 1 = _ := hD.2.1; have e2 : u 2 = _ := hD.2.2.1; have e3 : u 3 = _ := hD.2.2.2.1; have e4 : u 4 = _ := hD.2.2.2.2.1; have e5 : u 5 = _ := hD.2.2.2.2.2.1; have e6 : u 6 = _ := hD.2.2.2.2.2.2.1; have e7 : u 7 = _ := hD.2.2.2.2.2.2.2.1; have e8 : u 8 = _ := hD.2.2.2.2.2.2.2.2.1; have e9 : u 9 = _ := hD.2.2.2.2.2.2.2.2.2.1; have e10 : u 10 = _ := hD.2.2.2.2.2.2.2.2.2.2.1; have e11 : u 11 = _ := hD.2.2.2.2.2.2.2.2.2.2.2.1; have e12 : u 12 = _ := hD.2.2.2.2.2.2.2.2.2.2.2.2.1; have e13 : u 13 = _ := hD.2.2.2.2.2.2.2.2.2.2.2.2.2.1; have e14 : u 14 = _ := hD.2.2.2.2.2.2.2.2.2.2.2.2.2.2.1; have e15 : u 15 = _ := hD.2.2.2.2.2.2.2.2.2.2.2.2.2.2.2.1; have e16 : u 16 = _ := hD.2.2.2.2.2.2.2.2.2.2.2.2.2.2.2.2.1; have e17 : u 17 = _ := hD.2.2.2.2.2.2.2.2.2.2.2.2.2.2.2.2.2.1; have e18 : u 18 = _ := hD.2.2.2.2.2.2.2.2.2.2.2.2.2.2.2.2.2.2.1; have e19 : u 19 = _ := hD.2.2.2.2.2.2.2.2.2.2.2.2.2.2.2.2.2.2.2.1; clear hD; simp only [put9, e0, e1, e2, e3, e4, e5, e6, e7, e8, e9, e10, e11, e12, e13, e14, e15, e16, e17, e18, e19] at hK ⊢
          refine Closed.mk ?_; go_simp
          exact hK.out _ _ ⟨hA, hN, x_p, x_o, c_0⟩ trivial rfl
        intro u w1 hC hD
        have hA := hC.1; have hN := hC.2.1; have x_p := hC.2.2.1; have x_o := hC.2.2.2.1; have c_0 := hC.2.2.2.2; clear hC
        have e0 : u 0 = _ := hD.1; have e1 : u 1 = _ := hD.2.1; have e2 : u 2 = _ := hD.2.2.1; have e3 : u 3 = _ := hD.2.2.2.1; have e4 : u 4 = _ := hD.2.2.2.2.1; have e5 : u 5 = _ := hD.2.2.2.2.2.1; have e6 : u 6 = _ := hD.2.2.2.2.2.2.1; have e7 : u 7 = _ := hD.2.2.2.2.2.2.2.1; have e8 : u 8 = _ := hD.2.2.2.2.2.2.2.2.1; have e9 : u 9 = _ := hD.2.2.2.2.2.2.2.2.2.1; have e10 : u 10 = _ := hD.2.2.2.2.2.2.2.2.2.2.1; have e11 : u 11 = _ := hD.2.2.2.2.2.2.2.2.2.2.2.1; have e12 : u 12 = _ := hD.2.2.2.2.2.2.2.2.2.2.2.2.1; have e13 : u 13 = _ := hD.2.2.2.2.2.2.2.2.2.2.2.2.2.1; have e14 : u 14 = _ := hD.2.2.2.2.2.2.2.2.2.2.2.2.2.2.1; have e15 : u 15 = _ := hD.2.2.2.2.2.2.2.2.2.2.2.2.2.2.2.1; have e16 : u 16 = _ := hD.2.2.2.2.2.2.2.2.2.2.2.2.2.2.2.2.1; have e17 : u 17 = _ := hD.2.2.2.2.2.2.2.2.2.2.2.2.2.2.2.2.2.1; have e18 : u 18 = _ := hD.2.2.2.2.2.2.2.2.2.2.2.2.2.2.2.2.2.2.1; have e19 : u 19 = _ := hD.2.2.2.2.2.2.2.2.2.2.2.2.2.2.2.2.2.2.2.1; have e20 : u 20 = _ := hD.2.2.2.2.2.2.2.2.2.2.2.2.2.2.2.2.2.2.2.2.1; clear hD
        have B1 := Lib.hid hA; have N1 := hN; have S1 := hA.size
        have Xp_1 := Lib.hid x_p; clear x_p
        have Xo_1 := Lib.hid x_o; clear x_o
        obtain ⟨cp1_0, cp1_1, cp1_2, cp1_3, cp1_4, fp1_0, fp1_1, fp1_2, fp1_3, fp1_4⟩ := box5 Xp_1.out; have lp1 := heap_lt Xp_1.out
        obtain ⟨co1_0, co1_1, co1_2, fo1_0, fo1_1, fo1_2⟩ := box3 Xo_1.out; have lo1 := heap_lt Xo_1.out
        clear hA hN
        simp only [put9, e0, e1, e2, e3, e4, e5, e6, e7, e8, e9, e10, e11, e12, e13, e14, e15, e16, e17, e18, e19, e20]
        refine Closed.mk (wpAnyH_done (by kernel_rfl) ?_ _)
        have hle2 := hle; rw [← hgd] at hle2
        go_wp2
        go_ret
        exact ⟨ret_bool (Eq.symm (by first | exact opB_yes (by unfold OpOk Val; dsimp only; omega))), B1.out⟩
      · have d2 := decide_eq_false hle
        go_enter Tryd.func12, Tryd.ntmps12
        go_wp2_with (fail)
        have hN0 : w.heap.size + 2 ≤ ((w.alloc (.cells #[.slice (some ⟨sb, so, none⟩) c.sems.length p0, .slice a1 c.groups.length p1, .slice a2 c.barriers.length p2, .slice a3 c.rooms.length p3, .slice a4 c.threads.length p4] 34)).alloc (.cells #[.int .i64 3, .int .i64 (m : Int), .int .i64 ag] 23)).heap.size := (by first | omega | (simp only [szA, szS, szD, World.heap_drewN] at * <;> omega))
        have c0_0 : ((w.alloc (.cells #[.slice (some ⟨sb, so, none⟩) c.sems.length p0, .slice a1 c.groups.length p1, .slice a2 c.barriers.length p2, .slice a3 c.rooms.length p3, .slice a4 c.threads.length p4] 34)).alloc (.cells #[.int .i64 3, .int .i64 (m : Int), .int .i64 ag] 23)).drew.cell? ⟨sb, so + m, none⟩ = some (.int .i64 z) := (((Below.alloc (Below.alloc (Below.refl _ _) (by first | omega | (simp only [szA, szS, szD, World.heap_drewN] at * <;> omega)) _) (by first | omega | (simp only [szA, szS, szD, World.heap_drewN] at * <;> omega)) _)).drew.cell (p := ⟨sb, so + m, none⟩) slt).trans sc0
        refine wp_region_L [⟨0, false, [], fun _ v _ => v = .func (.func 29) #[] #[.pointer (some ⟨w.heap.size + 1, 0, none⟩)]⟩, ⟨1, false, [], fun _ v _ => v = .pointer (some ⟨w.heap.size, 0, none⟩)⟩, ⟨2, false, [1], fun _ v _ => v = .slice (some ⟨sb, so, none⟩) c.sems.length p0⟩, ⟨3, false, [0, 1, 2], fun _ v _ => v = .bool true⟩, ⟨4, false, [0, 1, 2, 3], fun _ v _ => v = .bool true⟩, ⟨5, false, [0, 1, 2, 3, 4], fun _ v _ => v = .pointer (some ⟨w.heap.size + 1, 2, none⟩)⟩, ⟨6, false, [0, 1, 2, 3, 4, 5], fun _ v _ => v = .int .i64 ag⟩, ⟨7, false, [0, 1, 2, 3, 4, 5, 6], fun _ v _ => v = .bool true⟩, ⟨8, false, [0, 1, 2, 3, 4, 5, 6, 7], fun _ v _ => v = .bool true⟩, ⟨9, false, [0, 1, 2, 3, 4, 5, 6, 7, 8], fun _ v _ => v = .bool true⟩, ⟨10, false, [0, 1, 2, 3, 4, 5, 6, 7, 8, 9], fun _ v _ => v = .pointer (some ⟨w.heap.size + 1, 2, none⟩)⟩, ⟨11, false, [0, 1, 2, 3, 4, 5, 6, 7, 8, 9, 10], fun _ v _ => v = .int .i64 ag⟩, ⟨12, false, [0, 1, 2, 3, 4, 5, 6, 7, 8, 9], fun _ v _ => v = .pointer (some ⟨w.heap.size, 0, none⟩)⟩, ⟨13, false, [0, 1, 2, 3, 4, 5, 6, 7, 8, 9, 12], fun _ v _ => v = .slice (some ⟨sb, so, none⟩) c.sems.length p0⟩, ⟨14, false, [0, 1, 2, 3, 4, 5, 6, 7, 8, 9], fun _ v _ => v = .pointer (some ⟨w.heap.size + 1, 1, none⟩)⟩, ⟨15, false, [0, 1, 2, 3, 4, 5, 6, 7, 8, 9, 14], fun _ v _ => v = .int .i64 (m : Int)⟩, ⟨16, false, [0, 1, 2, 3, 4, 5, 6, 7, 8, 9, 12, 13, 14, 15], fun _ v _ => v = .pointer (some ⟨sb, so + m, none⟩)⟩, ⟨17, false, [0, 1, 2, 3, 4, 5, 6, 7, 8, 9, 12, 13, 14, 15, 16], fun _ v _ => v = .int .i64 z⟩, ⟨18, false, [0, 1, 2, 3, 4, 5, 6, 7, 8, 9, 10, 11, 12, 13, 14, 15, 16, 17], fun _ v _ => v = .bool false⟩, ⟨19, false, [0, 1, 2, 3, 4, 5, 6, 7, 8, 9, 10, 11, 12, 13, 14, 15, 16, 17, 18], fun _ v _ => v = .bool false⟩, ⟨20, false, [0, 1, 2, 3, 4, 5, 6, 7, 8, 9, 10, 11, 12, 13, 14, 15, 16, 17, 18, 19], fun _ v _ => v = .bool false⟩] [(0, some 22), (1, some 23), (2, some 24), (3, some 25), (4, some 26), (5, some 27), (6, some 28), (7, some 29), (8, some 30), (9, some 31), (10, some 32), (11, some 33), (12, some 34), (13, some 35), (14, some 36), (15, some 37), (16, some 38), (17, some 39), (18, some 40), (19, some 41), (20, some 4)] (fun _ w' => Below w.heap.size w w' ∧ w.heap.size + 2 ≤ w'.heap.size ∧ w'.heap[w.heap.size]? = some (.cells #[.slice (some ⟨sb, so, none⟩) c.sems.length p0, .slice a1 c.groups.length p1, .slice a2 c.barriers.length p2, .slice a3 c.rooms.length p3, .slice a4 c.threads.length p4] 34 (0, 0)) ∧ w'.heap[w.heap.size + 1]? = some (.cells #[.int .i64 3, .int .i64 (m : Int), .int .i64 ag] 23 (0, 0)) ∧ w'.cell? ⟨sb, so + m, none⟩ = some (.int .i64 z)) (fun _ _ _ => True) (by kernel_rfl) (by rfl) (by kernel_rfl) (by kernel_rfl) ⟨((Below.alloc (Below.alloc (Below.refl _ _) (by first | omega | (simp only [szA, szS, szD, World.heap_drewN] at * <;> omega)) _) (by first | omega | (simp only [szA, szS, szD, World.heap_drewN] at * <;> omega)) _)).drew, hN0, (heap_drew (heap_up (heap_at' (n := w.heap.size) (by first | omega | (simp only [szA, szS, szD, World.heap_drewN] at * <;> omega))))), (heap_drew (heap_at' (n := w.heap.size + 1) (by first | omega | (simp only [szA, szS, szD, World.heap_drewN] at * <;> omega)))), c0_0⟩ (GoalsL.cons ?_ (GoalsL.cons ?_ (GoalsL.cons ?_ (GoalsL.cons ?_ (GoalsL.cons ?_ (GoalsL.cons ?_ (GoalsL.cons ?_ (GoalsL.cons ?_ (GoalsL.cons ?_ (GoalsL.cons ?_ (GoalsL.cons ?_ (GoalsL.cons ?_ (GoalsL.cons ?_ (GoalsL.cons ?_ (GoalsL.cons ?_ (GoalsL.cons ?_ (GoalsL.cons ?_ (GoalsL.cons ?_ (GoalsL.cons ?_ (GoalsL.cons ?_ (GoalsL.cons ?_ (GoalsL.nil)))))))))))))))))))))) ?_
        · refine GoalL.mk0 (by rfl) ?_; rintro f u wq hf ⟨hA, hN, x_p, x_o, c_0⟩ hD K hK; clear hD; simp only [put9] at hK ⊢
          refine Closed.mk ?_; go_simp
          exact hK.out _ _ ⟨hA, hN, x_p, x_o, c_0⟩ trivial rfl
        · refine GoalL.mk0 (by rfl) ?_; rintro f u wq hf ⟨hA, hN, x_p, x_o, c_0⟩ hD K hK; clear hD; simp only [put9] at hK ⊢
          refine Closed.mk ?_; go_simp
          exact hK.out _ _ ⟨hA, hN, x_p, x_o, c_0⟩ trivial rfl
        · refine GoalL.mk0 (by rfl) ?_; rintro f u wq hf ⟨hA, hN, x_p, x_o, c_0⟩ hD K hK; have e1 : u 1 = _ := hD.1; clear hD; simp only [put9, e1] at hK ⊢
          obtain ⟨kp_0, kp_1, kp_2, kp_3, kp_4, fp_0, fp_1, fp_2, fp_3, fp_4⟩ := box5 x_p; refine Closed.mk ?_; go_simp
          exact hK.out _ _ ⟨hA, hN, x_p, x_o, c_0⟩ trivial rfl
        · refine GoalL.mk0 (by rfl) ?_; rintro f u wq hf ⟨hA, hN, x_p, x_o, c_0⟩ hD K hK; have e0 : u 0 = _ := hD.1; have e1 : u 1 = _ := hD.2.1; have e2 : u 2 = _ := hD.2.2.1; clear hD; simp only [put9, e0, e1, e2] at hK ⊢
          refine Closed.mk ?_; go_simp
          refine (onClo_calls (some ⟨sb, so, none⟩) c.sems.length p0 (w.heap.size + 1) (m : Int) _ (box3 x_o).2.1).mono ?_
          rw [HO]
          rintro e wr ⟨rfl, rfl⟩; have hb := Below.refl wq.heap.size wq
          exact hK.out _ _ ⟨Below.trans hA (hb.mono hA.size), Nat.le_trans hN hb.size, (below_at hb x_p), (below_at hb x_o), ((hb.cell (p := ⟨sb, so + m, none⟩) (Nat.lt_of_lt_of_le (Nat.lt_of_lt_of_le slt (by omega)) hN)).trans c_0)⟩ trivial rfl
        · refine GoalL.mk0 (by rfl) ?_; rintro f u wq hf ⟨hA, hN, x_p, x_o, c_0⟩ hD K hK; have e0 : u 0 = _ := hD.1; have e1 : u 1 = _ := hD.2.1; have e2 : u 2 = _ := hD.2.2.1; have e3 : u 3 = _ := hD.2.2.2.1; clear hD; simp only [put9, e0, e1, e2, e3] at hK ⊢
          refine Closed.mk ?_; go_simp
          exact hK.out _ _ ⟨hA, hN, x_p, x_o, c_0⟩ trivial rfl
        · refine GoalL.mk0 (by rfl) ?_; rintro f u wq hf ⟨hA, hN, x_p, x_o, c_0⟩ hD K hK; have e0 : u 0 = _ := hD.1; have e1 : u 1 = _ := hD.2.1; have e2 : u 2 = _ := hD.2.2.1; have e3 : u 3 = _ := hD.2.2.2.1; have e4 : u 4 = _ := hD.2.2.2.2.1; clear hD; simp only [put9, e0, e1, e2, e3, e4] at hK ⊢
          refine Closed.mk ?_; go_simp
          exact hK.out _ _ ⟨hA, hN, x_p, x_o, c_0⟩ trivial rfl
        · refine GoalL.mk0 (by rfl) ?_; rintro f u wq hf ⟨hA, hN, x_p, x_o, c_0⟩ hD K hK; have e0 : u 0 = _ := hD.1; have e1 : u 1 = _ := hD.2.1; have e2 : u 2 = _ := hD.2.2.1; have e3 : u 3 = _ := hD.2.2.2.1; have e4 : u 4 = _ := hD.2.2.2.2.1; have e5 : u 5 = _ := hD.2.2.2.2.2.1; clear hD; simp only [put9, e0, e1, e2, e3, e4, e5] at hK ⊢
          obtain ⟨ko_0, ko_1, ko_2, fo_0, fo_1, fo_2⟩ := box3 x_o; refine Closed.mk ?_; go_simp
          exact hK.out _ _ ⟨hA, hN, x_p, x_o, c_0⟩ trivial rfl
        · refine GoalL.mk0 (by rfl) ?_; rintro f u wq hf ⟨hA, hN, x_p, x_o, c_0⟩ hD K hK; have e0 : u 0 = _ := hD.1; have e1 : u 1 = _ := hD.2.1; have e2 : u 2 = _ := hD.2.2.1; have e3 : u 3 = _ := hD.2.2.2.1; have e4 : u 4 = _ := hD.2.2.2.2.1; have e5 : u 5 = _ := hD.2.2.2.2.2.1; have e6 : u 6 = _ := hD.2.2.2.2.2.2.1; clear hD; simp only [put9, e0, e1, e2, e3, e4, e5, e6] at hK ⊢
          refine Closed.mk ?_; go_simp
          exact hK.out _ _ ⟨hA, hN, x_p, x_o, c_0⟩ trivial rfl
        · refine GoalL.mk0 (by rfl) ?_; rintro f u wq hf ⟨hA, hN, x_p, x_o, c_0⟩ hD K hK; have e0 : u 0 = _ := hD.1; have e1 : u 1 = _ := hD.2.1; have e2 : u 2 = _ := hD.2.2.1; have e3 : u 3 = _ := hD.2.2.2.1; have e4 : u 4 = _ := hD.2.2.2.2.1; have e5 : u 5 = _ := hD.2.2.2.2.2.1; have e6 : u 6 = _ := hD.2.2.2.2.2.2.1; have e7 : u 7 = _ := hD.2.2.2.2.2.2.2.1; clear hD; simp only [put9, e0, e1, e2, e3, e4, e5, e6, e7] at hK ⊢
          refine Closed.mk ?_; go_simp
          exact hK.out _ _ ⟨hA, hN, x_p, x_o, c_0⟩ trivial rfl
        · refine GoalL.mk0 (by rfl) ?_; rintro f u wq hf ⟨hA, hN, x_p, x_o, c_0⟩ hD K hK; have e0 : u 0 = _ := hD.1; have e1 : u 1 = _ := hD.2.1; have e2 : u 2 = _ := hD.2.2.1; have e3 : u 3 = _ := hD.2.2.2.1; have e4 : u 4 = _ := hD.2.2.2.2.1; have e5 : u 5 = _ := hD.2.2.2.2.2.1; have e6 : u 6 = _ := hD.2.2.2.2.2.2.1; have e7 : u 7 = _ := hD.2.2.2.2.2.2.2.1; have e8 : u 8 = _ := hD.2.2.2.2.2.2.2.2.1; clear hD; simp only [put9, e0, e1, e2, e3, e4, e5, e6, e7, e8] at hK ⊢
          refine Closed.mk ?_; go_simp
          exact hK.out _ _ ⟨hA, hN, x_p, x_o, c_0⟩ trivial rfl
        · refine GoalL.mk0 (by rfl) ?_; rintro f u wq hf ⟨hA, hN, x_p, x_o, c_0⟩ hD K hK; have e0 : u 0 = _ := hD.1; have e1 : u 1 = _ := hD.2.1; have e2 : u 2 = _ := hD.2.2.1; have e3 : u 3 = _ := hD.2.2.2.1; have e4 : u 4 = _ := hD.2.2.2.2.1; have e5 : u 5 = _ := hD.2.2.2.2.2.1; have e6 : u 6 = _ := hD.2.2.2.2.2.2.1; have e7 : u 7 = _ := hD.2.2.2.2.2.2.2.1; have e8 : u 8 = _ := hD.2.2.2.2.2.2.2.2.1; have e9 : u 9 = _ := hD.2.2.2.2.2.2.2.2.2.1; clear hD; simp only [put9, e0, e1, e2, e3, e4, e5, e6, e7, e8, e9] at hK ⊢
          refine Closed.mk ?_; go_simp
          exact hK.out _ _ ⟨hA, hN, x_p, x_o, c_0⟩ trivial rfl
        · refine GoalL.mk0 (by rfl) ?_; rintro f u wq hf ⟨hA, hN, x_p, x_o, c_0⟩ hD K hK; have e0 : u 0 = _ := hD.1; have e1 : u 1 = _ := hD.2.1; have e2 : u 2 = _ := hD.2.2.1; have e3 : u 3 = _ := hD.2.2.2.1; have e4 : u 4 = _ := hD.2.2.2.2.1; have e5 : u 5 = _ := hD.2.2.2.2.2.1; have e6 : u 6 = _ := hD.2.2.2.2.2.2.1; have e7 : u 7 = _ := hD.2.2.2.2.2.2.2.1; have e8 : u 8 = _ := hD.2.2.2.2.2.2.2.2.1; have e9 : u 9 = _ := hD.2.2.2.2.2.2.2.2.2.1; have e10 : u 10 = _ := hD.2.2.2.2.2.2.2.2.2.2.1; clear hD; simp only [put9, e0, e1, e2, e3, e4, e5, e6, e7, e8, e9, e10] at hK ⊢
          obtain ⟨ko_0, ko_1, ko_2, fo_0, fo_1, fo_2⟩ := box3 x_o; refine Closed.mk ?_; go_simp
          exact hK.out _ _ ⟨hA, hN, x_p, x_o, c_0⟩ trivial rfl
        · refine GoalL.mk0 (by rfl) ?_; rintro f u wq hf ⟨hA, hN, x_p, x_o, c_0⟩ hD K hK; have e0 : u 0 = _ := hD.1; have e1 : u 1 = _ := hD.2.1; have e2 : u 2 = _ := hD.2.2.1; have e3 : u 3 = _ := hD.2.2.2.1; have e4 : u 4 = _ := hD.2.2.2.2.1; have e5 : u 5 = _ := hD.2.2.2.2.2.1; have e6 : u 6 = _ := hD.2.2.2.2.2.2.1; have e7 : u 7 = _ := hD.2.2.2.2.2.2.2.1; have e8 : u 8 = _ := hD.2.2.2.2.2.2.2.2.1; have e9 : u 9 = _ := hD.2.2.2.2.2.2.2.2.2.1; clear hD; simp only [put9, e0, e1, e2, e3, e4, e5, e6, e7, e8, e9] at hK ⊢
          refine Closed.mk ?_; go_simp
          exact hK.out _ _ ⟨hA, hN, x_p, x_o, c_0⟩ trivial rfl
        · refine GoalL.mk0 (by rfl) ?_; rintro f u wq hf ⟨hA, hN, x_p, x_o, c_0⟩ hD K hK; have e0 : u 0 = _ := hD.1; have e1 : u 1 = _ := hD.2.1; have e2 : u 2 = _ := hD.2.2.1; have e3 : u 3 = _ := hD.2.2.2.1; have e4 : u 4 = _ := hD.2.2.2.2.1; have e5 : u 5 = _ := hD.2.2.2.2.2.1; have e6 : u 6 = _ := hD.2.2.2.2.2.2.1; have e7 : u 7 = _ := hD.2.2.2.2.2.2.2.1; have e8 : u 8 = _ := hD.2.2.2.2.2.2.2.2.1; have e9 : u 9 = _ := hD.2.2.2.2.2.2.2.2.2.1; have e12 : u 12 = _ := hD.2.2.2.2.2.2.2.2.2.2.1; clear hD; simp only [put9, e0, e1, e2, e3, e4, e5, e6, e7, e8, e9, e12] at hK ⊢
          obtain ⟨kp_0, kp_1, kp_2, kp_3, kp_4, fp_0, fp_1, fp_2, fp_3, fp_4⟩ := box5 x_p; refine Closed.mk ?_; go_simp
          exact hK.out _ _ ⟨hA, hN, x_p, x_o, c_0⟩ trivial rfl
        · refine GoalL.mk0 (by rfl) ?_; rintro f u wq hf ⟨hA, hN, x_p, x_o, c_0⟩ hD K hK; have e0 : u 0 = _ := hD.1; have e1 : u 1 = _ := hD.2.1; have e2 : u 2 = _ := hD.2.2.1; have e3 : u 3 = _ := hD.2.2.2.1; have e4 : u 4 = _ := hD.2.2.2.2.1; have e5 : u 5 = _ := hD.2.2.2.2.2.1; have e6 : u 6 = _ := hD.2.2.2.2.2.2.1; have e7 : u 7 = _ := hD.2.2.2.2.2.2.2.1; have e8 : u 8 = _ := hD.2.2.2.2.2.2.2.2.1; have e9 : u 9 = _ := hD.2.2.2.2.2.2.2.2.2.1; clear hD; simp only [put9, e0, e1, e2, e3, e4, e5, e6, e7, e8, e9] at hK ⊢
          refine Closed.mk ?_; go_simp
          exact hK.out _ _ ⟨hA, hN, x_p, x_o, c_0⟩ trivial rfl
        · refine GoalL.mk0 (by rfl) ?_; rintro f u wq hf ⟨hA, hN, x_p, x_o, c_0⟩ hD K hK; have e0 : u 0 = _ := hD.1; have e1 : u 1 = _ := hD.2.1; have e2 : u 2 = _ := hD.2.2.1; have e3 : u 3 = _ := hD.2.2.2.1; have e4 : u 4 = _ := hD.2.2.2.2.1; have e5 : u 5 = _ := hD.2.2.2.2.2.1; have e6 : u 6 = _ := hD.2.2.2.2.2.2.1; have e7 : u 7 = _ := hD.2.2.2.2.2.2.2.1; have e8 : u 8 = _ := hD.2.2.2.2.2.2.2.2.1; have e9 : u 9 = _ := hD.2.2.2.2.2.2.2.2.2.1; have e14 : u 14 = _ := hD.2.2.2.2.2.2.2.2.2.2.1; clear hD; simp only [put9, e0, e1, e2, e3, e4, e5, e6, e7, e8, e9, e14] at hK ⊢
          obtain ⟨ko_0, ko_1, ko_2, fo_0, fo_1, fo_2⟩ := box3 x_o; refine Closed.mk ?_; go_simp
          exact hK.out _ _ ⟨hA, hN, x_p, x_o, c_0⟩ trivial rfl
        · refine GoalL.mk0 (by rfl) ?_; rintro f u wq hf ⟨hA, hN, x_p, x_o, c_0⟩ hD K hK; have e0 : u 0 = _ := hD.1; have e1 : u 1 = _ := hD.2.1; have e2 : u 2 = _ := hD.2.2.1; have e3 : u 3 = _ := hD.2.2.2.1; have e4 : u 4 = _ := hD.2.2.2.2.1; have e5 : u 5 = _ := hD.2.2.2.2.2.1; have e6 : u 6 = _ := hD.2.2.2.2.2.2.1; have e7 : u 7 = _ := hD.2.2.2.2.2.2.2.1; have e8 : u 8 = _ := hD.2.2.2.2.2.2.2.2.1; have e9 : u 9 = _ := hD.2.2.2.2.2.2.2.2.2.1; have e12 : u 12 = _ := hD.2.2.2.2.2.2.2.2.2.2.1; have e13 : u 13 = _ := hD.2.2.2.2.2.2.2.2.2.2.2.1; have e14 : u 14 = _ := hD.2.2.2.2.2.2.2.2.2.2.2.2.1; have e15 : u 15 = _ := hD.2.2.2.2.2.2.2.2.2.2.2.2.2.1; clear hD; simp only [put9, e0, e1, e2, e3, e4, e5, e6, e7, e8, e9, e12, e13, e14, e15] at hK ⊢
          refine Closed.mk ?_; go_simp
          exact hK.out _ _ ⟨hA, hN, x_p, x_o, c_0⟩ trivial rfl
        · refine GoalL.mk0 (by rfl) ?_; rintro f u wq hf ⟨hA, hN, x_p, x_o, c_0⟩ hD K hK; have e0 : u 0 = _ := hD.1; have e1 : u 1 = _ := hD.2.1; have e2 : u 2 = _ := hD.2.2.1; have e3 : u 3 = _ := hD.2.2.2.1; have e4 : u 4 = _ := hD.2.2.2.2.1; have e5 : u 5 = _ := hD.2.2.2.2.2.1; have e6 : u 6 = _ := hD.2.2.2.2.2.2.1; have e7 : u 7 = _ := hD.2.2.2.2.2.2.2.1; have e8 : u 8 = _ := hD.2.2.2.2.2.2.2.2.1; have e9 : u 9 = _ := hD.2.2.2.2.2.2.2.2.2.1; have e12 : u 12 = _ := hD.2.2.2.2.2.2.2.2.2.2.1; have e13 : u 13 = _ := hD.2.2.2.2.2.2.2.2.2.2.2.1; have e14 : u 14 = _ := hD.2.2.2.2.2.2.2.2.2.2.2.2.1; have e15 : u 15 = _ := hD.2.2.2.2.2.2.2.2.2.2.2.2.2.1; have e16 : u 16 = _ := hD.2.2.2.2.2.2.2.2.2.2.2.2.2.2.1; clear hD; simp only [put9, e0, e1, e2, e3, e4, e5, e6, e7, e8, e9, e12, e13, e14, e15, e16] at hK ⊢
          refine Closed.mk ?_; go_simp
          exact hK.out _ _ ⟨hA, hN, x_p, x_o, c_0⟩ trivial rfl
        · refine GoalL.mk0 (by rfl) ?_; rintro f u wq hf ⟨hA, hN, x_p, x_o, c_0⟩ hD K hK; have e0 : u 0 = _ := hD.1; have e1 : u 1 = _ := hD.2.1; have e2 : u 2 = _ := hD.2.2.1; have e3 : u 3 = _ := hD.2.2.2.1; have e4 : u 4 = _ := hD.2.2.2.2.1; have e5 : u 5 = _ := hD.2.2.2.2.2.1; have e6 : u 6 = _ := hD.2.2.2.2.2.2.1; have e7 : u 7 = _ := hD.2.2.2.2.2.2.2.1; have e8 : u 8 = _ := hD.2.2.2.2.2.2.2.2.1; have e9 : u 9 = _ := hD.2.2.2.2.2.2.2.2.2.1; have e10 : u 10 = _ := hD.2.2.2.2.2.2.2.2.2.2.1; have e11 : u 11 = _ := hD.2.2.2.2.2.2.2.2.2.2.2.1; have e12 : u 12 = _ := hD.2.2.2.2.2.2.2.2.2.2.2.2.1; have e13 : u 13 = _ := hD.2.2.2.2.2.2.2.2.2.2.2.2.2.1; have e14 : u 14 = _ := hD.2.2.2.2.2.2.2.2.2.2.2.2.2.2.1; have e15 : u 15 = _ := hD.2.2.2.2.2.2.2.2.2.2.2.2.2.2.2.1; have e16 : u 16 = _ := hD.2.2.2.2.2.2.2.2.2.2.2.2.2.2.2.2.1; have e17 : u 17 = _ := hD.2.2.2.2.2.2.2.2.2.2.2.2.2.2.2.2.2.1; clear hD; simp only [put9, e0, e1, e2, e3, e4, e5, e6, e7, e8, e9, e10, e11, e12, e13, e14, e15, e16, e17] at hK ⊢
          refine Closed.mk ?_; go_simp
          exact hK.out _ _ ⟨hA, hN, x_p, x_o, c_0⟩ trivial rfl
        · refine GoalL.mk0 (by rfl) ?_; rintro f u wq hf ⟨hA, hN, x_p, x_o, c_0⟩ hD K hK; have e0 : u 0 = _ := hD.1; have e1 : u 1 = _ := hD.2.1; have e2 : u 2 = _ := hD.2.2.1; have e3 : u 3 = _ := hD.2.2.2.1; have e4 : u 4 = _ := hD.2.2.2.2.1; have e5 : u 5 = _ := hD.2.2.2.2.2.1; have e6 : u 6 = _ := hD.2.2.2.2.2.2.1; have e7 : u 7 = _ := hD.2.2.2.2.2.2.2.1; have e8 : u 8 = _ := hD.2.2.2.2.2.2.2.2.1; have e9 : u 9 = _ := hD.2.2.2.2.2.2.2.2.2.1; have e10 : u 10 = _ := hD.2.2.2.2.2.2.2.2.2.2.1; have e11 : u 11 = _ := hD.2.2.2.2.2.2.2.2.2.2.2.1; have e12 : u 12 = _ := hD.2.2.2.2.2.2.2.2.2.2.2.2.1; have e13 : u 13 = _ := hD.2.2.2.2.2.2.2.2.2.2.2.2.2.1; have e14 : u 14 = _ := hD.2.2.2.2.2.2.2.2.2.2.2.2.2.2.1; have e15 : u 15 = _ := hD.2.2.2.2.2.2.2.2.2.2.2.2.2.2.2.1; have e16 : u 16 = _ := hD.2.2.2.2.2.2.2.2.2.2.2.2.2.2.2.2.1; have e17 : u 17 = _ := hD.2.2.2.2.2.2.2.2.2.2.2.2.2.2.2.2.2.1; have e18 : u 18 = _ := hD.2.2.2.2.2.2.2.2.2.2.2.2.2.2.2.2.2.2.1; clear hD; simp only [put9, e0, e1, e2, e3, e4, e5, e6, e7, e8, e9, e10, e11, e12, e13, e14, e15, e16, e17, e18] at hK ⊢
          refine Closed.mk ?_; go_simp
          exact hK.out _ _ ⟨hA, hN, x_p, x_o, c_0⟩ trivial rfl
        · refine GoalL.mk0 (by rfl) ?_; rintro f u wq hf ⟨hA, hN, x_p, x_o, c_0⟩ hD K hK; have e0 : u 0 = _ := hD.1; have e1 : u 1 = _ := hD.2.1; have e2 : u 2 = _ := hD.2.2.1; have e3 : u 3 = _ := hD.2.2.2.1; have e4 : u 4 = _ := hD.2.2.2.2.1; have e5 : u 5 = _ := hD.2.2.2.2.2.1; have e6 : u 6 = _ := hD.2.2.2.2.2.2.1; have e7 : u 7 = _ := hD.2.2.2.2.2.2.2.1; have e8 : u 8 = _ := hD.2.2.2.2.2.2.2.2.1; have e9 : u 9 = _ := hD.2.2.2.2.2.2.2.2.2.1; have e10 : u 10 = _ := hD.2.2.2.2.2.2.2.2.2.2.1; have e11 : u 11 = _ := hD.2.2.2.2.2.2.2.2.2.2.2.1; have e12 : u 12 = _ := hD.2.2.2.2.2.2.2.2.2.2.2.2.1; have e13 : u 13 = _ := hD.2.2.2.2.2.2.2.2.2.2.2.2.2.1; have e14 : u 14 = _ := hD.2.2.2.2.2.2.2.2.2.2.2.2.2.2.1; have e15 : u 15 = _ := hD.2.2.2.2.2.2.2.2.2.2.2.2.2.2.2.1; have e16 : u 16 = _ := hD.2.2.2.2.2.2.2.2.2.2.2.2.2.2.2.2.1; have e17 : u 17 = _ := hD.2.2.2.2.2.2.2.2.2.2.2.2.2.2.2.2.2.1; have e18 : u 18 = _ := hD.2.2.2.2.2.2.2.2.2.2.2.2.2.2.2.2.2.2.1; have e19 : u 19 = _ := hD.2.2.2.2.2.2.2.2.2.2.2.2.2.2.2.2.2.2.2.1; clear hD; simp only [put9, e0, e1, e2, e3, e4, e5, e6, e7, e8, e9, e10, e11, e12, e13, e14, e15, e16, e17, e18, e19] at hK ⊢
          refine Closed.mk ?_; go_simp
          exact hK.out _ _ ⟨hA, hN, x_p, x_o, c_0⟩ trivial rfl
        intro u w1 hC hD
        have hA := hC.1; have hN := hC.2.1; have x_p := hC.2.2.1; have x_o := hC.2.2.2.1; have c_0 := hC.2.2.2.2; clear hC
        have e0 : u 0 = _ := hD.1; have e1 : u 1 = _ := hD.2.1; have e2 : u 2 = _ := hD.2.2.1; have e3 : u 3 = _ := hD.2.2.2.1; have e4 : u 4 = _ := hD.2.2.2.2.1; have e5 : u 5 = _ := hD.2.2.2.2.2.1; have e6 : u 6 = _ := hD.2.2.2.2.2.2.1; have e7 : u 7 = _ := hD.2.2.2.2.2.2.2.1; have e8 : u 8 = _ := hD.2.2.2.2.2.2.2.2.1; have e9 : u 9 = _ := hD.2.2.2.2.2.2.2.2.2.1; have e10 : u 10 = _ := hD.2.2.2.2.2.2.2.2.2.2.1; have e11 : u 11 = _ := hD.2.2.2.2.2.2.2.2.2.2.2.1; have e12 : u 12 = _ := hD.2.2.2.2.2.2.2.2.2.2.2.2.1; have e13 : u 13 = _ := hD.2.2.2.2.2.2.2.2.2.2.2.2.2.1; have e14 : u 14 = _ := hD.2.2.2.2.2.2.2.2.2.2.2.2.2.2.1; have e15 : u 15 = _ := hD.2.2.2.2.2.2.2.2.2.2.2.2.2.2.2.1; have e16 : u 16 = _ := hD.2.2.2.2.2.2.2.2.2.2.2.2.2.2.2.2.1; have e17 : u 17 = _ := hD.2.2.2.2.2.2.2.2.2.2.2.2.2.2.2.2.2.1; have e18 : u 18 = _ := hD.2.2.2.2.2.2.2.2.2.2.2.2.2.2.2.2.2.2.1; have e19 : u 19 = _ := hD.2.2.2.2.2.2.2.2.2.2.2.2.2.2.2.2.2.2.2.1; have e20 : u 20 = _ := hD.2.2.2.2.2.2.2.2.2.2.2.2.2.2.2.2.2.2.2.2.1; clear hD
        have B1 := Lib.hid hA; have N1 := hN; have S1 := hA.size
        have Xp_1 := Lib.hid x_p; clear x_p
        have Xo_1 := Lib.hid x_o; clear x_o
        obtain ⟨cp1_0, cp1_1, cp1_2, cp1_3, cp1_4, fp1_0, fp1_1, fp1_2, fp1_3, fp1_4⟩ := box5 Xp_1.out; have lp1 := heap_lt Xp_1.out
        obtain ⟨co1_0, co1_1, co1_2, fo1_0, fo1_1, fo1_2⟩ := box3 Xo_1.out; have lo1 := heap_lt Xo_1.out
        clear hA hN
        simp only [put9, e0, e1, e2, e3, e4, e5, e6, e7, e8, e9, e10, e11, e12, e13, e14, e15, e16, e17, e18, e19, e20]
        refine Closed.mk (wpAnyH_done (by kernel_rfl) ?_ _)
        have hle2 := hle; rw [← hgd] at hle2
        go_wp2
        go_ret
        exact ⟨ret_bool (Eq.symm (by first | exact opB_no (by unfold OpOk Val; dsimp only; omega))), B1.out⟩
    · have d1 := decide_eq_false hge
      go_enter Tryd.func12, Tryd.ntmps12
      go_wp2_with (fail)
      have hN0 : w.heap.size + 2 ≤ ((w.alloc (.cells #[.slice a0 c.sems.length p0, .slice a1 c.groups.length p1, .slice a2 c.barriers.length p2, .slice a3 c.rooms.length p3, .slice a4 c.threads.length p4] 34)).alloc (.cells #[.int .i64 3, .int .i64 on, .int .i64 ag] 23)).heap.size := (by first | omega | (simp only [szA, szS, szD, World.heap_drewN] at * <;> omega))
      refine wp_region_L [⟨0, false, [], fun _ v _ => v = .func (.func 29) #[] #[.pointer (some ⟨w.heap.size + 1, 0, none⟩)]⟩, ⟨1, false, [], fun _ v _ => v = .pointer (some ⟨w.heap.size, 0, none⟩)⟩, ⟨2, false, [1], fun _ v _ => v = .slice a0 c.sems.length p0⟩, ⟨3, false, [0, 1, 2], fun _ v _ => v = .bool true⟩, ⟨4, false, [0, 1, 2, 3], fun _ v _ => v = .bool true⟩, ⟨5, false, [0, 1, 2, 3, 4], fun _ v _ => v = .pointer (some ⟨w.heap.size + 1, 2, none⟩)⟩, ⟨6, false, [0, 1, 2, 3, 4, 5], fun _ v _ => v = .int .i64 ag⟩, ⟨7, false, [0, 1, 2, 3, 4, 5, 6], fun _ v _ => v = .bool false⟩, ⟨8, false, [0, 1, 2, 3, 4, 5, 6, 7], fun _ v _ => v = .bool false⟩, ⟨9, false, [0, 1, 2, 3, 4, 5, 6, 7, 8], fun _ v _ => v = .bool false⟩, ⟨10, false, [0, 1, 2, 3, 4, 5, 6, 7, 8, 9], fun _ v _ => v = undef⟩, ⟨11, false, [0, 1, 2, 3, 4, 5, 6, 7, 8, 9], fun _ v _ => v = undef⟩, ⟨12, false, [0, 1, 2, 3, 4, 5, 6, 7, 8, 9], fun _ v _ => v = undef⟩, ⟨13, false, [0, 1, 2, 3, 4, 5, 6, 7, 8, 9], fun _ v _ => v = undef⟩, ⟨14, false, [0, 1, 2, 3, 4, 5, 6, 7, 8, 9], fun _ v _ => v = undef⟩, ⟨15, false, [0, 1, 2, 3, 4, 5, 6, 7, 8, 9], fun _ v _ => v = undef⟩, ⟨16, false, [0, 1, 2, 3, 4, 5, 6, 7, 8, 9], fun _ v _ => v = undef⟩, ⟨17, false, [0, 1, 2, 3, 4, 5, 6, 7, 8, 9], fun _ v _ => v = undef⟩, ⟨18, false, [0, 1, 2, 3, 4, 5, 6, 7, 8, 9], fun _ v _ => v = undef⟩, ⟨19, false, [0, 1, 2, 3, 4, 5, 6, 7, 8, 9, 18], fun _ v _ => v = .bool false⟩, ⟨20, false, [0, 1, 2, 3, 4, 5, 6, 7, 8, 9, 18, 19], fun _ v _ => v = .bool false⟩] [(0, some 22), (1, some 23), (2, some 24), (3, some 25), (4, some 26), (5, some 27), (6, some 28), (7, some 29), (8, some 30), (9, some 31), (10, some 32), (11, some 33), (12, some 34), (13, some 35), (14, some 36), (15, some 37), (16, some 38), (17, some 39), (18, some 40), (19, some 41), (20, some 4)] (fun _ w' => Below w.heap.size w w' ∧ w.heap.size + 2 ≤ w'.heap.size ∧ w'.heap[w.heap.size]? = some (.cells #[.slice a0 c.sems.length p0, .slice a1 c.groups.length p1, .slice a2 c.barriers.length p2, .slice a3 c.rooms.length p3, .slice a4 c.threads.length p4] 34 (0, 0)) ∧ w'.heap[w.heap.size + 1]? = some (.cells #[.int .i64 3, .int .i64 on, .int .i64 ag] 23 (0, 0))) (fun _ _ _ => True) (by kernel_rfl) (by rfl) (by kernel_rfl) (by kernel_rfl) ⟨((Below.alloc (Below.alloc (Below.refl _ _) (by first | omega | (simp only [szA, szS, szD, World.heap_drewN] at * <;> omega)) _) (by first | omega | (simp only [szA, szS, szD, World.heap_drewN] at * <;> omega)) _)).drew, hN0, (heap_drew (heap_up (heap_at' (n := w.heap.size) (by first | omega | (simp only [szA, szS, szD, World.heap_drewN] at * <;> omega))))), (heap_drew (heap_at' (n := w.heap.size + 1) (by first | omega | (simp only [szA, szS, szD, World.heap_drewN] at * <;> omega))))⟩ (GoalsL.cons ?_ (GoalsL.cons ?_ (GoalsL.cons ?_ (GoalsL.cons ?_ (GoalsL.cons ?_ (GoalsL.cons ?_ (GoalsL.cons ?_ (GoalsL.cons ?_ (GoalsL.cons ?_ (GoalsL.cons ?_ (GoalsL.cons ?_ (GoalsL.cons ?_ (GoalsL.cons ?_ (GoalsL.cons ?_ (GoalsL.cons ?_ (GoalsL.cons ?_ (GoalsL.cons ?_ (GoalsL.cons ?_ (GoalsL.cons ?_ (GoalsL.cons ?_ (GoalsL.cons ?_ (GoalsL.nil)))))))))))))))))))))) ?_
      · refine GoalL.mk0 (by rfl) ?_; rintro f u wq hf ⟨hA, hN, x_p, x_o⟩ hD K hK; clear hD; simp only [put9] at hK ⊢
        refine Closed.mk ?_; go_simp
        exact hK.out _ _ ⟨hA, hN, x_p, x_o⟩ trivial rfl
      · refine GoalL.mk0 (by rfl) ?_; rintro f u wq hf ⟨hA, hN, x_p, x_o⟩ hD K hK; clear hD; simp only [put9] at hK ⊢
        refine Closed.mk ?_; go_simp
        exact hK.out _ _ ⟨hA, hN, x_p, x_o⟩ trivial rfl
      · refine GoalL.mk0 (by rfl) ?_; rintro f u wq hf ⟨hA, hN, x_p, x_o⟩ hD K hK; have e1 : u 1 = _ := hD.1; clear hD; simp only [put9, e1] at hK ⊢
        obtain ⟨kp_0, kp_1, kp_2, kp_3, kp_4, fp_0, fp_1, fp_2, fp_3, fp_4⟩ := box5 x_p; refine Closed.mk ?_; go_simp
        exact hK.out _ _ ⟨hA, hN, x_p, x_o⟩ trivial rfl
      · refine GoalL.mk0 (by rfl) ?_; rintro f u wq hf ⟨hA, hN, x_p, x_o⟩ hD K hK; have e0 : u 0 = _ := hD.1; have e1 : u 1 = _ := hD.2.1; have e2 : u 2 = _ := hD.2.2.1; clear hD; simp only [put9, e0, e1, e2] at hK ⊢
        refine Closed.mk ?_; go_simp
        refine (onClo_calls a0 c.sems.length p0 (w.heap.size + 1) on _ (box3 x_o).2.1).mono ?_
        rw [HO]
        rintro e wr ⟨rfl, rfl⟩; have hb := Below.refl wq.heap.size wq
        exact hK.out _ _ ⟨Below.trans hA (hb.mono hA.size), Nat.le_trans hN hb.size, (below_at hb x_p), (below_at hb x_o)⟩ trivial rfl
      · refine GoalL.mk0 (by rfl) ?_; rintro f u wq hf ⟨hA, hN, x_p, x_o⟩ hD K hK; have e0 : u 0 = _ := hD.1; have e1 : u 1 = _ := hD.2.1; have e2 : u 2 = _ := hD.2.2.1; have e3 : u 3 = _ := hD.2.2.2.1; clear hD; simp only [put9, e0, e1, e2, e3] at hK ⊢
        refine Closed.mk ?_; go_simp
        exact hK.out _ _ ⟨hA, hN, x_p, x_o⟩ trivial rfl
      · refine GoalL.mk0 (by rfl) ?_; rintro f u wq hf ⟨hA, hN, x_p, x_o⟩ hD K hK; have e0 : u 0 = _ := hD.1; have e1 : u 1 = _ := hD.2.1; have e2 : u 2 = _ := hD.2.2.1; have e3 : u 3 = _ := hD.2.2.2.1; have e4 : u 4 = _ := hD.2.2.2.2.1; clear hD; simp only [put9, e0, e1, e2, e3, e4] at hK ⊢
        refine Closed.mk ?_; go_simp
        exact hK.out _ _ ⟨hA, hN, x_p, x_o⟩ trivial rfl
      · refine GoalL.mk0 (by rfl) ?_; rintro f u wq hf ⟨hA, hN, x_p, x_o⟩ hD K hK; have e0 : u 0 = _ := hD.1; have e1 : u 1 = _ := hD.2.1; have e2 : u 2 = _ := hD.2.2.1; have e3 : u 3 = _ := hD.2.2.2.1; have e4 : u 4 = _ := hD.2.2.2.2.1; have e5 : u 5 = _ := hD.2.2.2.2.2.1; clear hD; simp only [put9, e0, e1, e2, e3, e4, e5] at hK ⊢
        obtain ⟨ko_0, ko_1, ko_2, fo_0, fo_1, fo_2⟩ := box3 x_o; refine Closed.mk ?_; go_simp
        exact hK.out _ _ ⟨hA, hN, x_p, x_o⟩ trivial rfl
      · refine GoalL.mk0 (by rfl) ?_; rintro f u wq hf ⟨hA, hN, x_p, x_o⟩ hD K hK; have e0 : u 0 = _ := hD.1; have e1 : u 1 = _ := hD.2.1; have e2 : u 2 = _ := hD.2.2.1; have e3 : u 3 = _ := hD.2.2.2.1; have e4 : u 4 = _ := hD.2.2.2.2.1; have e5 : u 5 = _ := hD.2.2.2.2.2.1; have e6 : u 6 = _ := hD.2.2.2.2.2.2.1; clear hD; simp only [put9, e0, e1, e2, e3, e4, e5, e6] at hK ⊢
        refine Closed.mk ?_; go_simp
        exact hK.out _ _ ⟨hA, hN, x_p, x_o⟩ trivial rfl
      · refine GoalL.mk0 (by rfl) ?_; rintro f u wq hf ⟨hA, hN, x_p, x_o⟩ hD K hK; have e0 : u 0 = _ := hD.1; have e1 : u 1 = _ := hD.2.1; have e2 : u 2 = _ := hD.2.2.1; have e3 : u 3 = _ := hD.2.2.2.1; have e4 : u 4 = _ := hD.2.2.2.2.1; have e5 : u 5 = _ := hD.2.2.2.2.2.1; have e6 : u 6 = _ := hD.2.2.2.2.2.2.1; have e7 : u 7 = _ := hD.2.2.2.2.2.2.2.1; clear hD; simp only [put9, e0, e1, e2, e3, e4, e5, e6, e7] at hK ⊢
        refine Closed.mk ?_; go_simp
        exact hK.out _ _ ⟨hA, hN, x_p, x_o⟩ trivial rfl
      · refine GoalL.mk0 (by rfl) ?_; rintro f u wq hf ⟨hA, hN, x_p, x_o⟩ hD K hK; have e0 : u 0 = _ := hD.1; have e1 : u 1 = _ := hD.2.1; have e2 : u 2 = _ := hD.2.2.1; have e3 : u 3 = _ := hD.2.2.2.1; have e4 : u 4 = _ := hD.2.2.2.2.1; have e5 : u 5 = _ := hD.2.2.2.2.2.1; have e6 : u 6 = _ := hD.2.2.2.2.2.2.1; have e7 : u 7 = _ := hD.2.2.2.2.2.2.2.1; have e8 : u 8 = _ := hD.2.2.2.2.2.2.2.2.1; clear hD; simp only [put9, e0, e1, e2, e3, e4, e5, e6, e7, e8] at hK ⊢
        refine Closed.mk ?_; go_simp
        exact hK.out _ _ ⟨hA, hN, x_p, x_o⟩ trivial rfl
      · refine GoalL.mk0 (by rfl) ?_; rintro f u wq hf ⟨hA, hN, x_p, x_o⟩ hD K hK; have e0 : u 0 = _ := hD.1; have e1 : u 1 = _ := hD.2.1; have e2 : u 2 = _ := hD.2.2.1; have e3 : u 3 = _ := hD.2.2.2.1; have e4 : u 4 = _ := hD.2.2.2.2.1; have e5 : u 5 = _ := hD.2.2.2.2.2.1; have e6 : u 6 = _ := hD.2.2.2.2.2.2.1; have e7 : u 7 = _ := hD.2.2.2.2.2.2.2.1; have e8 : u 8 = _ := hD.2.2.2.2.2.2.2.2.1; have e9 : u 9 = _ := hD.2.2.2.2.2.2.2.2.2.1; clear hD; simp only [put9, e0, e1, e2, e3, e4, e5, e6, e7, e8, e9] at hK ⊢
        refine Closed.mk ?_; go_simp
        exact hK.out _ _ ⟨hA, hN, x_p, x_o⟩ trivial rfl
      · refine GoalL.mk0 (by rfl) ?_; rintro f u wq hf ⟨hA, hN, x_p, x_o⟩ hD K hK; have e0 : u 0 = _ := hD.1; have e1 : u 1 = _ := hD.2.1; have e2 : u 2 = _ := hD.2.2.1; have e3 : u 3 = _ := hD.2.2.2.1; have e4 : u 4 = _ := hD.2.2.2.2.1; have e5 : u 5 = _ := hD.2.2.2.2.2.1; have e6 : u 6 = _ := hD.2.2.2.2.2.2.1; have e7 : u 7 = _ := hD.2.2.2.2.2.2.2.1; have e8 : u 8 = _ := hD.2.2.2.2.2.2.2.2.1; have e9 : u 9 = _ := hD.2.2.2.2.2.2.2.2.2.1; clear hD; simp only [put9, e0, e1, e2, e3, e4, e5, e6, e7, e8, e9] at hK ⊢
        refine Closed.mk ?_; go_simp
        exact hK.out _ _ ⟨hA, hN, x_p, x_o⟩ trivial rfl
      · refine GoalL.mk0 (by rfl) ?_; rintro f u wq hf ⟨hA, hN, x_p, x_o⟩ hD K hK; have e0 : u 0 = _ := hD.1; have e1 : u 1 = _ := hD.2.1; have e2 : u 2 = _ := hD.2.2.1; have e3 : u 3 = _ := hD.2.2.2.1; have e4 : u 4 = _ := hD.2.2.2.2.1; have e5 : u 5 = _ := hD.2.2.2.2.2.1; have e6 : u 6 = _ := hD.2.2.2.2.2.2.1; have e7 : u 7 = _ := hD.2.2.2.2.2.2.2.1; have e8 : u 8 = _ := hD.2.2.2.2.2.2.2.2.1; have e9 : u 9 = _ := hD.2.2.2.2.2.2.2.2.2.1; clear hD; simp only [put9, e0, e1, e2, e3, e4, e5, e6, e7, e8, e9] at hK ⊢
        refine Closed.mk ?_; go_simp
        exact hK.out _ _ ⟨hA, hN, x_p, x_o⟩ trivial rfl
      · refine GoalL.mk0 (by rfl) ?_; rintro f u wq hf ⟨hA, hN, x_p, x_o⟩ hD K hK; have e0 : u 0 = _ := hD.1; have e1 : u 1 = _ := hD.2.1; have e2 : u 2 = _ := hD.2.2.1; have e3 : u 3 = _ := hD.2.2.2.1; have e4 : u 4 = _ := hD.2.2.2.2.1; have e5 : u 5 = _ := hD.2.2.2.2.2.1; have e6 : u 6 = _ := hD.2.2.2.2.2.2.1; have e7 : u 7 = _ := hD.2.2.2.2.2.2.2.1; have e8 : u 8 = _ := hD.2.2.2.2.2.2.2.2.1; have e9 : u 9 = _ := hD.2.2.2.2.2.2.2.2.2.1; clear hD; simp only [put9, e0, e1, e2, e3, e4, e5, e6, e7, e8, e9] at hK ⊢
        refine Closed.mk ?_; go_simp
        exact hK.out _ _ ⟨hA, hN, x_p, x_o⟩ trivial rfl
      · refine GoalL.mk0 (by rfl) ?_; rintro f u wq hf ⟨hA, hN, x_p, x_o⟩ hD K hK; have e0 : u 0 = _ := hD.1; have e1 : u 1 = _ := hD.2.1; have e2 : u 2 = _ := hD.2.2.1; have e3 : u 3 = _ := hD.2.2.2.1; have e4 : u 4 = _ := hD.2.2.2.2.1; have e5 : u 5 = _ := hD.2.2.2.2.2.1; have e6 : u 6 = _ := hD.2.2.2.2.2.2.1; have e7 : u 7 = _ := hD.2.2.2.2.2.2.2.1; have e8 : u 8 = _ := hD.2.2.2.2.2.2.2.2.1; have e9 : u 9 = _ := hD.2.2.2.2.2.2.2.2.2.1; clear hD; simp only [put9, e0, e1, e2, e3, e4, e5, e6, e7, e8, e9] at hK ⊢
        refine Closed.mk ?_; go_simp
        exact hK.out _ _ ⟨hA, hN, x_p, x_o⟩ trivial rfl
      · refine GoalL.mk0 (by rfl) ?_; rintro f u wq hf ⟨hA, hN, x_p, x_o⟩ hD K hK; have e0 : u 0 = _ := hD.1; have e1 : u 1 = _ := hD.2.1; have e2 : u 2 = _ := hD.2.2.1; have e3 : u 3 = _ := hD.2.2.2.1; have e4 : u 4 = _ := hD.2.2.2.2.1; have e5 : u 5 = _ := hD.2.2.2.2.2.1; have e6 : u 6 = _ := hD.2.2.2.2.2.2.1; have e7 : u 7 = _ := hD.2.2.2.2.2.2.2.1; have e8 : u 8 = _ := hD.2.2.2.2.2.2.2.2.1; have e9 : u 9 = _ := hD.2.2.2.2.2.2.2.2.2.1; clear hD; simp only [put9, e0, e1, e2, e3, e4, e5, e6, e7, e8, e9] at hK ⊢
        refine Closed.mk ?_; go_simp
        exact hK.out _ _ ⟨hA, hN, x_p, x_o⟩ trivial rfl
      · refine GoalL.mk0 (by rfl) ?_; rintro f u wq hf ⟨hA, hN, x_p, x_o⟩ hD K hK; have e0 : u 0 = _ := hD.1; have e1 : u 1 = _ := hD.2.1; have e2 : u 2 = _ := hD.2.2.1; have e3 : u 3 = _ := hD.2.2.2.1; have e4 : u 4 = _ := hD.2.2.2.2.1; have e5 : u 5 = _ := hD.2.2.2.2.2.1; have e6 : u 6 = _ := hD.2.2.2.2.2.2.1; have e7 : u 7 = _ := hD.2.2.2.2.2.2.2.1; have e8 : u 8 = _ := hD.2.2.2.2.2.2.2.2.1; have e9 : u 9 = _ := hD.2.2.2.2.2.2.2.2.2.1; clear hD; simp only [put9, e0, e1, e2, e3, e4, e5, e6, e7, e8, e9] at hK ⊢
        refine Closed.mk ?_; go_simp
        exact hK.out _ _ ⟨hA, hN, x_p, x_o⟩ trivial rfl
      · refine GoalL.mk0 (by rfl) ?_; rintro f u wq hf ⟨hA, hN, x_p, x_o⟩ hD K hK; have e0 : u 0 = _ := hD.1; have e1 : u 1 = _ := hD.2.1; have e2 : u 2 = _ := hD.2.2.1; have e3 : u 3 = _ := hD.2.2.2.1; have e4 : u 4 = _ := hD.2.2.2.2.1; have e5 : u 5 = _ := hD.2.2.2.2.2.1; have e6 : u 6 = _ := hD.2.2.2.2.2.2.1; have e7 : u 7 = _ := hD.2.2.2.2.2.2.2.1; have e8 : u 8 = _ := hD.2.2.2.2.2.2.2.2.1; have e9 : u 9 = _ := hD.2.2.2.2.2.2.2.2.2.1; clear hD; simp only [put9, e0, e1, e2, e3, e4, e5, e6, e7, e8, e9] at hK ⊢
        refine Closed.mk ?_; go_simp
        exact hK.out _ _ ⟨hA, hN, x_p, x_o⟩ trivial rfl
      · refine GoalL.mk0 (by rfl) ?_; rintro f u wq hf ⟨hA, hN, x_p, x_o⟩ hD K hK; have e0 : u 0 = _ := hD.1; have e1 : u 1 = _ := hD.2.1; have e2 : u 2 = _ := hD.2.2.1; have e3 : u 3 = _ := hD.2.2.2.1; have e4 : u 4 = _ := hD.2.2.2.2.1; have e5 : u 5 = _ := hD.2.2.2.2.2.1; have e6 : u 6 = _ := hD.2.2.2.2.2.2.1; have e7 : u 7 = _ := hD.2.2.2.2.2.2.2.1; have e8 : u 8 = _ := hD.2.2.2.2.2.2.2.2.1; have e9 : u 9 = _ := hD.2.2.2.2.2.2.2.2.2.1; clear hD; simp only [put9, e0, e1, e2, e3, e4, e5, e6, e7, e8, e9] at hK ⊢
        refine Closed.mk ?_; go_simp
        exact hK.out _ _ ⟨hA, hN, x_p, x_o⟩ trivial rfl
      · refine GoalL.mk0 (by rfl) ?_; rintro f u wq hf ⟨hA, hN, x_p, x_o⟩ hD K hK; have e0 : u 0 = _ := hD.1; have e1 : u 1 = _ := hD.2.1; have e2 : u 2 = _ := hD.2.2.1; have e3 : u 3 = _ := hD.2.2.2.1; have e4 : u 4 = _ := hD.2.2.2.2.1; have e5 : u 5 = _ := hD.2.2.2.2.2.1; have e6 : u 6 = _ := hD.2.2.2.2.2.2.1; have e7 : u 7 = _ := hD.2.2.2.2.2.2.2.1; have e8 : u 8 = _ := hD.2.2.2.2.2.2.2.2.1; have e9 : u 9 = _ := hD.2.2.2.2.2.2.2.2.2.1; have e18 : u 18 = _ := hD.2.2.2.2.2.2.2.2.2.2.1; clear hD; simp only [put9, e0, e1, e2, e3, e4, e5, e6, e7, e8, e9, e18] at hK ⊢
        refine Closed.mk ?_; go_simp
        exact hK.out _ _ ⟨hA, hN, x_p, x_o⟩ trivial rfl
      · refine GoalL.mk0 (by rfl) ?_; rintro f u wq hf ⟨hA, hN, x_p, x_o⟩ hD K hK; have e0 : u 0 = _ := hD.1; have e1 : u 1 = _ := hD.2.1; have e2 : u 2 = _ := hD.2.2.1; have e3 : u 3 = _ := hD.2.2.2.1; have e4 : u 4 = _ := hD.2.2.2.2.1; have e5 : u 5 = _ := hD.2.2.2.2.2.1; have e6 : u 6 = _ := hD.2.2.2.2.2.2.1; have e7 : u 7 = _ := hD.2.2.2.2.2.2.2.1; have e8 : u 8 = _ := hD.2.2.2.2.2.2.2.2.1; have e9 : u 9 = _ := hD.2.2.2.2.2.2.2.2.2.1; have e18 : u 18 = _ := hD.2.2.2.2.2.2.2.2.2.2.1; have e19 : u 19 = _ := hD.2.2.2.2.2.2.2.2.2.2.2.1; clear hD; simp only [put9, e0, e1, e2, e3, e4, e5, e6, e7, e8, e9, e18, e19] at hK ⊢
        refine Closed.mk ?_; go_simp
        exact hK.out _ _ ⟨hA, hN, x_p, x_o⟩ trivial rfl
      intro u w1 hC hD
      have hA := hC.1; have hN := hC.2.1; have x_p := hC.2.2.1; have x_o := hC.2.2.2; clear hC
      have e0 : u 0 = _ := hD.1; have e1 : u 1 = _ := hD.2.1; have e2 : u 2 = _ := hD.2.2.1; have e3 : u 3 = _ := hD.2.2.2.1; have e4 : u 4 = _ := hD.2.2.2.2.1; have e5 : u 5 = _ := hD.2.2.2.2.2.1; have e6 : u 6 = _ := hD.2.2.2.2.2.2.1; have e7 : u 7 = _ := hD.2.2.2.2.2.2.2.1; have e8 : u 8 = _ := hD.2.2.2.2.2.2.2.2.1; have e9 : u 9 = _ := hD.2.2.2.2.2.2.2.2.2.1; have e10 : u 10 = _ := hD.2.2.2.2.2.2.2.2.2.2.1; have e11 : u 11 = _ := hD.2.2.2.2.2.2.2.2.2.2.2.1; have e12 : u 12 = _ := hD.2.2.2.2.2.2.2.2.2.2.2.2.1; have e13 : u 13 = _ := hD.2.2.2.2.2.2.2.2.2.2.2.2.2.1; have e14 : u 14 = _ := hD.2.2.2.2.2.2.2.2.2.2.2.2.2.2.1; have e15 : u 15 = _ := hD.2.2.2.2.2.2.2.2.2.2.2.2.2.2.2.1; have e16 : u 16 = _ := hD.2.2.2.2.2.2.2.2.2.2.2.2.2.2.2.2.1; have e17 : u 17 = _ := hD.2.2.2.2.2.2.2.2.2.2.2.2.2.2.2.2.2.1; have e18 : u 18 = _ := hD.2.2.2.2.2.2.2.2.2.2.2.2.2.2.2.2.2.2.1; have e19 : u 19 = _ := hD.2.2.2.2.2.2.2.2.2.2.2.2.2.2.2.2.2.2.2.1; have e20 : u 20 = _ := hD.2.2.2.2.2.2.2.2.2.2.2.2.2.2.2.2.2.2.2.2.1; clear hD
      have B1 := Lib.hid hA; have N1 := hN; have S1 := hA.size
      have Xp_1 := Lib.hid x_p; clear x_p
      have Xo_1 := Lib.hid x_o; clear x_o
      obtain ⟨cp1_0, cp1_1, cp1_2, cp1_3, cp1_4, fp1_0, fp1_1, fp1_2, fp1_3, fp1_4⟩ := box5 Xp_1.out; have lp1 := heap_lt Xp_1.out
      obtain ⟨co1_0, co1_1, co1_2, fo1_0, fo1_1, fo1_2⟩ := box3 Xo_1.out; have lo1 := heap_lt Xo_1.out
      clear hA hN
      simp only [put9, e0, e1, e2, e3, e4, e5, e6, e7, e8, e9, e10, e11, e12, e13, e14, e15, e16, e17, e18, e19, e20]
      refine Closed.mk (wpAnyH_done (by kernel_rfl) ?_ _)
      go_wp2
      go_ret
      exact ⟨ret_bool (Eq.symm (by first | exact opB_no (by unfold OpOk Val; dsimp only; omega))), B1.out⟩
  · have HO := onB_no ho
    go_enter Tryd.func12, Tryd.ntmps12
    go_wp2_with (fail)
    have hN0 : w.heap.size + 2 ≤ ((w.alloc (.cells #[.slice a0 c.sems.length p0, .slice a1 c.groups.length p1, .slice a2 c.barriers.length p2, .slice a3 c.rooms.length p3, .slice a4 c.threads.length p4] 34)).alloc (.cells #[.int .i64 3, .int .i64 on, .int .i64 ag] 23)).heap.size := (by first | omega | (simp only [szA, szS, szD, World.heap_drewN] at * <;> omega))
    refine wp_region_L [⟨0, false, [], fun _ v _ => v = .func (.func 29) #[] #[.pointer (some ⟨w.heap.size + 1, 0, none⟩)]⟩, ⟨1, false, [], fun _ v _ => v = .pointer (some ⟨w.heap.size, 0, none⟩)⟩, ⟨2, false, [1], fun _ v _ => v = .slice a0 c.sems.length p0⟩, ⟨3, false, [0, 1, 2], fun _ v _ => v = .bool false⟩, ⟨4, false, [0, 1, 2, 3], fun _ v _ => v = .bool false⟩, ⟨5, false, [0, 1, 2, 3, 4], fun _ v _ => v = undef⟩, ⟨6, false, [0, 1, 2, 3, 4], fun _ v _ => v = undef⟩, ⟨7, false, [0, 1, 2, 3, 4], fun _ v _ => v = undef⟩, ⟨8, false, [0, 1, 2, 3, 4, 7], fun _ v _ => v = .bool false⟩, ⟨9, false, [0, 1, 2, 3, 4, 7, 8], fun _ v _ => v = .bool false⟩, ⟨10, false, [0, 1, 2, 3, 4, 7, 8, 9], fun _ v _ => v = undef⟩, ⟨11, false, [0, 1, 2, 3, 4, 7, 8, 9], fun _ v _ => v = undef⟩, ⟨12, false, [0, 1, 2, 3, 4, 7, 8, 9], fun _ v _ => v = undef⟩, ⟨13, false, [0, 1, 2, 3, 4, 7, 8, 9], fun _ v _ => v = undef⟩, ⟨14, false, [0, 1, 2, 3, 4, 7, 8, 9], fun _ v _ => v = undef⟩, ⟨15, false, [0, 1, 2, 3, 4, 7, 8, 9], fun _ v _ => v = undef⟩, ⟨16, false, [0, 1, 2, 3, 4, 7, 8, 9], fun _ v _ => v = undef⟩, ⟨17, false, [0, 1, 2, 3, 4, 7, 8, 9], fun _ v _ => v = undef⟩, ⟨18, false, [0, 1, 2, 3, 4, 7, 8, 9], fun _ v _ => v = undef⟩, ⟨19, false, [0, 1, 2, 3, 4, 7, 8, 9, 18], fun _ v _ => v = .bool false⟩, ⟨20, false, [0, 1, 2, 3, 4, 7, 8, 9, 18, 19], fun _ v _ => v = .bool false⟩] [(0, some 22), (1, some 23), (2, some 24), (3, some 25), (4, some 26), (5, some 27), (6, some 28), (7, some 29), (8, some 30), (9, some 31), (10, some 32), (11, some 33), (12, some 34), (13, some 35), (14, some 36), (15, some 37), (16, some 38), (17, some 39), (18, some 40), (19, some 41), (20, some 4)] (fun _ w' => Below w.heap.size w w' ∧ w.heap.size + 2 ≤ w'.heap.size ∧ w'.heap[w.heap.size]? = some (.cells #[.slice a0 c.sems.length p0, .slice a1 c.groups.length p1, .slice a2 c.barriers.length p2, .slice a3 c.rooms.length p3, .slice a4 c.threads.length p4] 34 (0, 0)) ∧ w'.heap[w.heap.size + 1]? = some (.cells #[.int .i64 3, .int .i64 on, .int .i64 ag] 23 (0, 0))) (fun _ _ _ => True) (by kernel_rfl) (by rfl) (by kernel_rfl) (by kernel_rfl) ⟨((Below.alloc (Below.alloc (Below.refl _ _) (by first | omega | (simp only [szA, szS, szD, World.heap_drewN] at * <;> omega)) _) (by first | omega | (simp only [szA, szS, szD, World.heap_drewN] at * <;> omega)) _)).drew, hN0, (heap_drew (heap_up (heap_at' (n := w.heap.size) (by first | omega | (simp only [szA, szS, szD, World.heap_drewN] at * <;> omega))))), (heap_drew (heap_at' (n := w.heap.size + 1) (by first | omega | (simp only [szA, szS, szD, World.heap_drewN] at * <;> omega))))⟩ (GoalsL.cons ?_ (GoalsL.cons ?_ (GoalsL.cons ?_ (GoalsL.cons ?_ (GoalsL.cons ?_ (GoalsL.cons ?_ (GoalsL.cons ?_ (GoalsL.cons ?_ (GoalsL.cons ?_ (GoalsL.cons ?_ (GoalsL.cons ?_ (GoalsL.cons ?_ (GoalsL.cons ?_ (GoalsL.cons ?_ (GoalsL.cons ?_ (GoalsL.cons ?_ (GoalsL.cons ?_ (GoalsL.cons ?_ (GoalsL.cons ?_ (GoalsL.cons ?_ (GoalsL.cons ?_ (GoalsL.nil)))))))))))))))))))))) ?_
    · refine GoalL.mk0 (by rfl) ?_; rintro f u wq hf ⟨hA, hN, x_p, x_o⟩ hD K hK; clear hD; simp only [put9] at hK ⊢
      refine Closed.mk ?_; go_simp
      exact hK.out _ _ ⟨hA, hN, x_p, x_o⟩ trivial rfl
    · refine GoalL.mk0 (by rfl) ?_; rintro f u wq hf ⟨hA, hN, x_p, x_o⟩ hD K hK; clear hD; simp only [put9] at hK ⊢
      refine Closed.mk ?_; go_simp
      exact hK.out _ _ ⟨hA, hN, x_p, x_o⟩ trivial rfl
    · refine GoalL.mk0 (by rfl) ?_; rintro f u wq hf ⟨hA, hN, x_p, x_o⟩ hD K hK; have e1 : u 1 = _ := hD.1; clear hD; simp only [put9, e1] at hK ⊢
      obtain ⟨kp_0, kp_1, kp_2, kp_3, kp_4, fp_0, fp_1, fp_2, fp_3, fp_4⟩ := box5 x_p; refine Closed.mk ?_; go_simp
      exact hK.out _ _ ⟨hA, hN, x_p, x_o⟩ trivial rfl
    · refine GoalL.mk0 (by rfl) ?_; rintro f u wq hf ⟨hA, hN, x_p, x_o⟩ hD K hK; have e0 : u 0 = _ := hD.1; have e1 : u 1 = _ := hD.2.1; have e2 : u 2 = _ := hD.2.2.1; clear hD; simp only [put9, e0, e1, e2] at hK ⊢
      refine Closed.mk ?_; go_simp
      refine (onClo_calls a0 c.sems.length p0 (w.heap.size + 1) on _ (box3 x_o).2.1).mono ?_
      rw [HO]
      rintro e wr ⟨rfl, rfl⟩; have hb := Below.refl wq.heap.size wq
      exact hK.out _ _ ⟨Below.trans hA (hb.mono hA.size), Nat.le_trans hN hb.size, (below_at hb x_p), (below_at hb x_o)⟩ trivial rfl
    · refine GoalL.mk0 (by rfl) ?_; rintro f u wq hf ⟨hA, hN, x_p, x_o⟩ hD K hK; have e0 : u 0 = _ := hD.1; have e1 : u 1 = _ := hD.2.1; have e2 : u 2 = _ := hD.2.2.1; have e3 : u 3 = _ := hD.2.2.2.1; clear hD; simp only [put9, e0, e1, e2, e3] at hK ⊢
      refine Closed.mk ?_; go_simp
      exact hK.out _ _ ⟨hA, hN, x_p, x_o⟩ trivial rfl
    · refine GoalL.mk0 (by rfl) ?_; rintro f u wq hf ⟨hA, hN, x_p, x_o⟩ hD K hK; have e0 : u 0 = _ := hD.1; have e1 : u 1 = _ := hD.2.1; have e2 : u 2 = _ := hD.2.2.1; have e3 : u 3 = _ := hD.2.2.2.1; have e4 : u 4 = _ := hD.2.2.2.2.1; clear hD; simp only [put9, e0, e1, e2, e3, e4] at hK ⊢
      refine Closed.mk ?_; go_simp
      exact hK.out _ _ ⟨hA, hN, x_p, x_o⟩ trivial rfl
    · refine GoalL.mk0 (by rfl) ?_; rintro f u wq hf ⟨hA, hN, x_p, x_o⟩ hD K hK; have e0 : u 0 = _ := hD.1; have e1 : u 1 = _ := hD.2.1; have e2 : u 2 = _ := hD.2.2.1; have e3 : u 3 = _ := hD.2.2.2.1; have e4 : u 4 = _ := hD.2.2.2.2.1; clear hD; simp only [put9, e0, e1, e2, e3, e4] at hK ⊢
      refine Closed.mk ?_; go_simp
      exact hK.out _ _ ⟨hA, hN, x_p, x_o⟩ trivial rfl
    · refine GoalL.mk0 (by rfl) ?_; rintro f u wq hf ⟨hA, hN, x_p, x_o⟩ hD K hK; have e0 : u 0 = _ := hD.1; have e1 : u 1 = _ := hD.2.1; have e2 : u 2 = _ := hD.2.2.1; have e3 : u 3 = _ := hD.2.2.2.1; have e4 : u 4 = _ := hD.2.2.2.2.1; clear hD; simp only [put9, e0, e1, e2, e3, e4] at hK ⊢
      refine Closed.mk ?_; go_simp
      exact hK.out _ _ ⟨hA, hN, x_p, x_o⟩ trivial rfl
    · refine GoalL.mk0 (by rfl) ?_; rintro f u wq hf ⟨hA, hN, x_p, x_o⟩ hD K hK; have e0 : u 0 = _ := hD.1; have e1 : u 1 = _ := hD.2.1; have e2 : u 2 = _ := hD.2.2.1; have e3 : u 3 = _ := hD.2.2.2.1; have e4 : u 4 = _ := hD.2.2.2.2.1; have e7 : u 7 = _ := hD.2.2.2.2.2.1; clear hD; simp only [put9, e0, e1, e2, e3, e4, e7] at hK ⊢
      refine Closed.mk ?_; go_simp
      exact hK.out _ _ ⟨hA, hN, x_p, x_o⟩ trivial rfl
    · refine GoalL.mk0 (by rfl) ?_; rintro f u wq hf ⟨hA, hN, x_p, x_o⟩ hD K hK; have e0 : u 0 = _ := hD.1; have e1 : u 1 = _ := hD.2.1; have e2 : u 2 = _ := hD.2.2.1; have e3 : u 3 = _ := hD.2.2.2.1; have e4 : u 4 = _ := hD.2.2.2.2.1; have e7 : u 7 = _ := hD.2.2.2.2.2.1; have e8 : u 8 = _ := hD.2.2.2.2.2.2.1; clear hD; simp only [put9, e0, e1, e2, e3, e4, e7, e8] at hK ⊢
      refine Closed.mk ?_; go_simp
      exact hK.out _ _ ⟨hA, hN, x_p, x_o⟩ trivial rfl
    · refine GoalL.mk0 (by rfl) ?_; rintro f u wq hf ⟨hA, hN, x_p, x_o⟩ hD K hK; have e0 : u 0 = _ := hD.1; have e1 : u 1 = _ := hD.2.1; have e2 : u 2 = _ := hD.2.2.1; have e3 : u 3 = _ := hD.2.2.2.1; have e4 : u 4 = _ := hD.2.2.2.2.1; have e7 : u 7 = _ := hD.2.2.2.2.2.1; have e8 : u 8 = _ := hD.2.2.2.2.2.2.1; have e9 : u 9 = _ := hD.2.2.2.2.2.2.2.1; clear hD; simp only [put9, e0, e1, e2, e3, e4, e7, e8, e9] at hK ⊢
      refine Closed.mk ?_; go_simp
      exact hK.out _ _ ⟨hA, hN, x_p, x_o⟩ trivial rfl
    · refine GoalL.mk0 (by rfl) ?_; rintro f u wq hf ⟨hA, hN, x_p, x_o⟩ hD K hK; have e0 : u 0 = _ := hD.1; have e1 : u 1 = _ := hD.2.1; have e2 : u 2 = _ := hD.2.2.1; have e3 : u 3 = _ := hD.2.2.2.1; have e4 : u 4 = _ := hD.2.2.2.2.1; have e7 : u 7 = _ := hD.2.2.2.2.2.1; have e8 : u 8 = _ := hD.2.2.2.2.2.2.1; have e9 : u 9 = _ := hD.2.2.2.2.2.2.2.1; clear hD; simp only [put9, e0, e1, e2, e3, e4, e7, e8, e9] at hK ⊢
      refine Closed.mk ?_; go_simp
      exact hK.out _ _ ⟨hA, hN, x_p, x_o⟩ trivial rfl
    · refine GoalL.mk0 (by rfl) ?_; rintro f u wq hf ⟨hA, hN, x_p, x_o⟩ hD K hK; have e0 : u 0 = _ := hD.1; have e1 : u 1 = _ := hD.2.1; have e2 : u 2 = _ := hD.2.2.1; have e3 : u 3 = _ := hD.2.2.2.1; have e4 : u 4 = _ := hD.2.2.2.2.1; have e7 : u 7 = _ := hD.2.2.2.2.2.1; have e8 : u 8 = _ := hD.2.2.2.2.2.2.1; have e9 : u 9 = _ := hD.2.2.2.2.2.2.2.1; clear hD; simp only [put9, e0, e1, e2, e3, e4, e7, e8, e9] at hK ⊢
      refine Closed.mk ?_; go_simp
      exact hK.out _ _ ⟨hA, hN, x_p, x_o⟩ trivial rfl
    · refine GoalL.mk0 (by rfl) ?_; rintro f u wq hf ⟨hA, hN, x_p, x_o⟩ hD K hK; have e0 : u 0 = _ := hD.1; have e1 : u 1 = _ := hD.2.1; have e2 : u 2 = _ := hD.2.2.1; have e3 : u 3 = _ := hD.2.2.2.1; have e4 : u 4 = _ := hD.2.2.2.2.1; have e7 : u 7 = _ := hD.2.2.2.2.2.1; have e8 : u 8 = _ := hD.2.2.2.2.2.2.1; have e9 : u 9 = _ := hD.2.2.2.2.2.2.2.1; clear hD; simp only [put9, e0, e1, e2, e3, e4, e7, e8, e9] at hK ⊢
      refine Closed.mk ?_; go_simp
      exact hK.out _ _ ⟨hA, hN, x_p, x_o⟩ trivial rfl
    · refine GoalL.mk0 (by rfl) ?_; rintro f u wq hf ⟨hA, hN, x_p, x_o⟩ hD K hK; have e0 : u 0 = _ := hD.1; have e1 : u 1 = _ := hD.2.1; have e2 : u 2 = _ := hD.2.2.1; have e3 : u 3 = _ := hD.2.2.2.1; have e4 : u 4 = _ := hD.2.2.2.2.1; have e7 : u 7 = _ := hD.2.2.2.2.2.1; have e8 : u 8 = _ := hD.2.2.2.2.2.2.1; have e9 : u 9 = _ := hD.2.2.2.2.2.2.2.1; clear hD; simp only [put9, e0, e1, e2, e3, e4, e7, e8, e9] at hK ⊢
      refine Closed.mk ?_; go_simp
      exact hK.out _ _ ⟨hA, hN, x_p, x_o⟩ trivial rfl
    · refine GoalL.mk0 (by rfl) ?_; rintro f u wq hf ⟨hA, hN, x_p, x_o⟩ hD K hK; have e0 : u 0 = _ := hD.1; have e1 : u 1 = _ := hD.2.1; have e2 : u 2 = _ := hD.2.2.1; have e3 : u 3 = _ := hD.2.2.2.1; have e4 : u 4 = _ := hD.2.2.2.2.1; have e7 : u 7 = _ := hD.2.2.2.2.2.1; have e8 : u 8 = _ := hD.2.2.2.2.2.2.1; have e9 : u 9 = _ := hD.2.2.2.2.2.2.2.1; clear hD; simp only [put9, e0, e1, e2, e3, e4, e7, e8, e9] at hK ⊢
      refine Closed.mk ?_; go_simp
      exact hK.out _ _ ⟨hA, hN, x_p, x_o⟩ trivial rfl
    · refine GoalL.mk0 (by rfl) ?_; rintro f u wq hf ⟨hA, hN, x_p, x_o⟩ hD K hK; have e0 : u 0 = _ := hD.1; have e1 : u 1 = _ := hD.2.1; have e2 : u 2 = _ := hD.2.2.1; have e3 : u 3 = _ := hD.2.2.2.1; have e4 : u 4 = _ := hD.2.2.2.2.1; have e7 : u 7 = _ := hD.2.2.2.2.2.1; have e8 : u 8 = _ := hD.2.2.2.2.2.2.1; have e9 : u 9 = _ := hD.2.2.2.2.2.2.2.1; clear hD; simp only [put9, e0, e1, e2, e3, e4, e7, e8, e9] at hK ⊢
      refine Closed.mk ?_; go_simp
      exact hK.out _ _ ⟨hA, hN, x_p, x_o⟩ trivial rfl
    · refine GoalL.mk0 (by rfl) ?_; rintro f u wq hf ⟨hA, hN, x_p, x_o⟩ hD K hK; have e0 : u 0 = _ := hD.1; have e1 : u 1 = _ := hD.2.1; have e2 : u 2 = _ := hD.2.2.1; have e3 : u 3 = _ := hD.2.2.2.1; have e4 : u 4 = _ := hD.2.2.2.2.1; have e7 : u 7 = _ := hD.2.2.2.2.2.1; have e8 : u 8 = _ := hD.2.2.2.2.2.2.1; have e9 : u 9 = _ := hD.2.2.2.2.2.2.2.1; clear hD; simp only [put9, e0, e1, e2, e3, e4, e7, e8, e9] at hK ⊢
      refine Closed.mk ?_; go_simp
      exact hK.out _ _ ⟨hA, hN, x_p, x_o⟩ trivial rfl
    · refine GoalL.mk0 (by rfl) ?_; rintro f u wq hf ⟨hA, hN, x_p, x_o⟩ hD K hK; have e0 : u 0 = _ := hD.1; have e1 : u 1 = _ := hD.2.1; have e2 : u 2 = _ := hD.2.2.1; have e3 : u 3 = _ := hD.2.2.2.1; have e4 : u 4 = _ := hD.2.2.2.2.1; have e7 : u 7 = _ := hD.2.2.2.2.2.1; have e8 : u 8 = _ := hD.2.2.2.2.2.2.1; have e9 : u 9 = _ := hD.2.2.2.2.2.2.2.1; clear hD; simp only [put9, e0, e1, e2, e3, e4, e7, e8, e9] at hK ⊢
      refine Closed.mk ?_; go_simp
      exact hK.out _ _ ⟨hA, hN, x_p, x_o⟩ trivial rfl
    · refine GoalL.mk0 (by rfl) ?_; rintro f u wq hf ⟨hA, hN, x_p, x_o⟩ hD K hK; have e0 : u 0 = _ := hD.1; have e1 : u 1 = _ := hD.2.1; have e2 : u 2 = _ := hD.2.2.1; have e3 : u 3 = _ := hD.2.2.2.1; have e4 : u 4 = _ := hD.2.2.2.2.1; have e7 : u 7 = _ := hD.2.2.2.2.2.1; have e8 : u 8 = _ := hD.2.2.2.2.2.2.1; have e9 : u 9 = _ := hD.2.2.2.2.2.2.2.1; have e18 : u 18 = _ := hD.2.2.2.2.2.2.2.2.1; clear hD; simp only [put9, e0, e1, e2, e3, e4, e7, e8, e9, e18] at hK ⊢
      refine Closed.mk ?_; go_simp
      exact hK.out _ _ ⟨hA, hN, x_p, x_o⟩ trivial rfl
    · refine GoalL.mk0 (by rfl) ?_; rintro f u wq hf ⟨hA, hN, x_p, x_o⟩ hD K hK; have e0 : u 0 = _ := hD.1; have e1 : u 1 = _ := hD.2.1; have e2 : u 2 = _ := hD.2.2.1; have e3 : u 3 = _ := hD.2.2.2.1; have e4 : u 4 = _ := hD.2.2.2.2.1; have e7 : u 7 = _ := hD.2.2.2.2.2.1; have e8 : u 8 = _ := hD.2.2.2.2.2.2.1; have e9 : u 9 = _ := hD.2.2.2.2.2.2.2.1; have e18 : u 18 = _ := hD.2.2.2.2.2.2.2.2.1; have e19 : u 19 = _ := hD.2.2.2.2.2.2.2.2.2.1; clear hD; simp only [put9, e0, e1, e2, e3, e4, e7, e8, e9, e18, e19] at hK ⊢
      refine Closed.mk ?_; go_simp
      exact hK.out _ _ ⟨hA, hN, x_p, x_o⟩ trivial rfl
    intro u w1 hC hD
    have hA := hC.1; have hN := hC.2.1; have x_p := hC.2.2.1; have x_o := hC.2.2.2; clear hC
    have e0 : u 0 = _ := hD.1; have e1 : u 1 = _ := hD.2.1; have e2 : u 2 = _ := hD.2.2.1; have e3 : u 3 = _ := hD.2.2.2.1; have e4 : u 4 = _ := hD.2.2.2.2.1; have e5 : u 5 = _ := hD.2.2.2.2.2.1; have e6 : u 6 = _ := hD.2.2.2.2.2.2.1; have e7 : u 7 = _ := hD.2.2.2.2.2.2.2.1; have e8 : u 8 = _ := hD.2.2.2.2.2.2.2.2.1; have e9 : u 9 = _ := hD.2.2.2.2.2.2.2.2.2.1; have e10 : u 10 = _ := hD.2.2.2.2.2.2.2.2.2.2.1; have e11 : u 11 = _ := hD.2.2.2.2.2.2.2.2.2.2.2.1; have e12 : u 12 = _ := hD.2.2.2.2.2.2.2.2.2.2.2.2.1; have e13 : u 13 = _ := hD.2.2.2.2.2.2.2.2.2.2.2.2.2.1; have e14 : u 14 = _ := hD.2.2.2.2.2.2.2.2.2.2.2.2.2.2.1; have e15 : u 15 = _ := hD.2.2.2.2.2.2.2.2.2.2.2.2.2.2.2.1; have e16 : u 16 = _ := hD.2.2.2.2.2.2.2.2.2.2.2.2.2.2.2.2.1; have e17 : u 17 = _ := hD.2.2.2.2.2.2.2.2.2.2.2.2.2.2.2.2.2.1; have e18 : u 18 = _ := hD.2.2.2.2.2.2.2.2.2.2.2.2.2.2.2.2.2.2.1; have e19 : u 19 = _ := hD.2.2.2.2.2.2.2.2.2.2.2.2.2.2.2.2.2.2.2.1; have e20 : u 20 = _ := hD.2.2.2.2.2.2.2.2.2.2.2.2.2.2.2.2.2.2.2.2.1; clear hD
    have B1 := Lib.hid hA; have N1 := hN; have S1 := hA.size
    have Xp_1 := Lib.hid x_p; clear x_p
    have Xo_1 := Lib.hid x_o; clear x_o
    obtain ⟨cp1_0, cp1_1, cp1_2, cp1_3, cp1_4, fp1_0, fp1_1, fp1_2, fp1_3, fp1_4⟩ := box5 Xp_1.out; have lp1 := heap_lt Xp_1.out
    obtain ⟨co1_0, co1_1, co1_2, fo1_0, fo1_1, fo1_2⟩ := box3 Xo_1.out; have lo1 := heap_lt Xo_1.out
    clear hA hN
    simp only [put9, e0, e1, e2, e3, e4, e5, e6, e7, e8, e9, e10, e11, e12, e13, e14, e15, e16, e17, e18, e19, e20]
    refine Closed.mk (wpAnyH_done (by kernel_rfl) ?_ _)
    go_wp2
    go_ret
    exact ⟨ret_bool (Eq.symm (by first | exact opB_no (by unfold OpOk Val; dsimp only; omega))), B1.out⟩
end Go.Proofs.YthbnbofoefdneaaDoor
