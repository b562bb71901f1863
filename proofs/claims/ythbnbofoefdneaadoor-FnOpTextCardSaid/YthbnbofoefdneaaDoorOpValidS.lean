/- spec.OpValid, by kinds (made by gen_opvalid.py). -/
import Derived.Test.YthbnbofoefdneaaDoorOpWord
import Derived.Test.YthbnbofoefdneaaDoorOpArg
import Derived.Test.YthbnbofoefdneaaDoorRg2
namespace Go.Proofs.YthbnbofoefdneaaDoor
open Go.RowKit
set_option linter.unusedSimpArgs false
set_option linter.unusedVariables false
set_option maxRecDepth 100000 in
set_option maxHeartbeats 8000000 in
theorem sOpValid_gen (v : Value) (c : ProgD) (k n : Int) (s : ByteArray) (on ag : Int) (w : World) (h : ProgRow w v c) (hs : s.toList.isEmpty = false)
    (hW : ∀ w : World, Calls Tryd.prog 17 #[.int .i64 k] w fun e w' => e = .returned (.string s) ∧ Below w.heap.size w w')
    (hS : ∀ (v : Value) (c' : ProgD) (w : World), ProgRow w v c → Calls Tryd.prog 31 #[v, .int .i64 k] w fun e w' => e = .returned (.int .i64 n) ∧ Below w.heap.size w w')
    (hA : ∀ (v : Value) (c' : ProgD) (on ag : Int) (w : World), ProgRow w v c → (0 ≤ on ∧ on < n) → Calls Tryd.prog 32 #[v, .agg #[.int .i64 k, .int .i64 on, .int .i64 ag]] w fun e w' => e = .returned (.bool (opB c (k, on, ag))) ∧ Below w.heap.size w w')
    (hN : ∀ on ag : Int, ¬ (0 ≤ on ∧ on < n) → ¬ OpOk c (k, on, ag)) :
    Calls Tryd.prog 13 #[v, .agg #[.int .i64 k, .int .i64 on, .int .i64 ag]] w fun e w' => e = .returned (.bool (opB c (k, on, ag))) ∧ Below w.heap.size w w' := by
  have HR := Lib.hid h
  obtain ⟨a0, p0, a1, p1, a2, p2, a3, p3, a4, p4, rfl, -, -, -, -, -⟩ := h
  by_cases ho1 : 0 ≤ on
  · have d1 := decide_eq_false (p := on < 0) (by omega)
    by_cases ho2 : on < n
    · have d2 := decide_eq_false (p := n ≤ on) (by omega)
      go_enter Tryd.func13, Tryd.ntmps13
      go_wp2_with (fail)
      have hN0 : w.heap.size + 2 ≤ ((w.alloc (.cells #[.slice a0 c.sems.length p0, .slice a1 c.groups.length p1, .slice a2 c.barriers.length p2, .slice a3 c.rooms.length p3, .slice a4 c.threads.length p4] 34)).alloc (.cells #[.int .i64 k, .int .i64 on, .int .i64 ag] 23)).heap.size := (by first | omega | (simp only [szA, szS, szD, World.heap_drewN] at * <;> omega))
      refine wp_region_L [⟨0, false, [], fun _ v _ => v = .pointer (some ⟨w.heap.size + 1, 0, none⟩)⟩, ⟨1, false, [0], fun _ v _ => v = .int .i64 k⟩, ⟨2, false, [0, 1], fun _ v _ => v = .string s⟩, ⟨3, false, [0, 1, 2], fun _ v _ => v = .bool false⟩, ⟨4, false, [0, 1, 2, 3], fun _ v _ => v = .bool false⟩, ⟨5, false, [0, 1, 2, 3, 4], fun _ v _ => v = .pointer (some ⟨w.heap.size + 1, 1, none⟩)⟩, ⟨6, false, [0, 1, 2, 3, 4, 5], fun _ v _ => v = .int .i64 on⟩, ⟨7, false, [0, 1, 2, 3, 4, 5, 6], fun _ v _ => v = .bool false⟩, ⟨8, false, [0, 1, 2, 3, 4, 5, 6, 7], fun _ v _ => v = .bool false⟩, ⟨9, false, [0, 1, 2, 3, 4, 5, 6, 7, 8], fun _ v _ => v = .bool false⟩, ⟨10, false, [0, 1, 2, 3, 4, 5, 6, 7, 8, 9], fun _ v _ => v = .pointer (some ⟨w.heap.size + 1, 1, none⟩)⟩, ⟨11, false, [0, 1, 2, 3, 4, 5, 6, 7, 8, 9, 10], fun _ v _ => v = .int .i64 on⟩, ⟨12, false, [0, 1, 2, 3, 4, 5, 6, 7, 8, 9], fun _ v _ => v = .agg #[.slice a0 c.sems.length p0, .slice a1 c.groups.length p1, .slice a2 c.barriers.length p2, .slice a3 c.rooms.length p3, .slice a4 c.threads.length p4]⟩, ⟨13, false, [0, 1, 2, 3, 4, 5, 6, 7, 8, 9], fun _ v _ => v = .pointer (some ⟨w.heap.size + 1, 0, none⟩)⟩, ⟨14, false, [0, 1, 2, 3, 4, 5, 6, 7, 8, 9, 13], fun _ v _ => v = .int .i64 k⟩, ⟨15, false, [0, 1, 2, 3, 4, 5, 6, 7, 8, 9, 12, 13, 14], fun _ v _ => v = .int .i64 n⟩, ⟨16, false, [0, 1, 2, 3, 4, 5, 6, 7, 8, 9, 10, 11, 12, 13, 14, 15], fun _ v _ => v = .bool false⟩, ⟨17, false, [0, 1, 2, 3, 4, 5, 6, 7, 8, 9, 10, 11, 12, 13, 14, 15, 16], fun _ v _ => v = .bool false⟩] [(0, some 5), (1, some 6), (2, some 7), (3, some 8), (4, some 9), (5, some 10), (6, some 11), (7, some 12), (8, some 13), (9, some 14), (10, some 15), (11, some 16), (12, some 17), (13, some 18), (14, some 19), (15, some 20), (16, some 21), (17, some 22)] (fun _ w' => Below w.heap.size w w' ∧ w.heap.size + 2 ≤ w'.heap.size ∧ w'.heap[w.heap.size]? = some (.cells #[.slice a0 c.sems.length p0, .slice a1 c.groups.length p1, .slice a2 c.barriers.length p2, .slice a3 c.rooms.length p3, .slice a4 c.threads.length p4] 34 (0, 0)) ∧ w'.heap[w.heap.size + 1]? = some (.cells #[.int .i64 k, .int .i64 on, .int .i64 ag] 23 (0, 0))) (fun _ _ _ => True) (by kernel_rfl) (by rfl) (by kernel_rfl) (by kernel_rfl) ⟨((Below.alloc (Below.alloc (Below.refl _ _) (by first | omega | (simp only [szA, szS, szD, World.heap_drewN] at * <;> omega)) _) (by first | omega | (simp only [szA, szS, szD, World.heap_drewN] at * <;> omega)) _)).drew, hN0, (heap_drew (heap_up (heap_at' (n := w.heap.size) (by first | omega | (simp only [szA, szS, szD, World.heap_drewN] at * <;> omega))))), (heap_drew (heap_at' (n := w.heap.size + 1) (by first | omega | (simp only [szA, szS, szD, World.heap_drewN] at * <;> omega))))⟩ (GoalsL.cons ?_ (GoalsL.cons ?_ (GoalsL.cons ?_ (GoalsL.cons ?_ (GoalsL.cons ?_ (GoalsL.cons ?_ (GoalsL.cons ?_ (GoalsL.cons ?_ (GoalsL.cons ?_ (GoalsL.cons ?_ (GoalsL.cons ?_ (GoalsL.cons ?_ (GoalsL.cons ?_ (GoalsL.cons ?_ (GoalsL.cons ?_ (GoalsL.cons ?_ (GoalsL.cons ?_ (GoalsL.cons ?_ (GoalsL.nil))))))))))))))))))) ?_
      · refine GoalL.mk0 (by rfl) ?_; rintro f u wq hf ⟨hA, hN, x_p, x_o⟩ hD K hK; clear hD; simp only [put9] at hK ⊢
        refine Closed.mk ?_; go_simp
        exact hK.out _ _ ⟨hA, hN, x_p, x_o⟩ trivial rfl
      · refine GoalL.mk0 (by rfl) ?_; rintro f u wq hf ⟨hA, hN, x_p, x_o⟩ hD K hK; have e0 : u 0 = _ := hD.1; clear hD; simp only [put9, e0] at hK ⊢
        obtain ⟨ko_0, ko_1, ko_2, fo_0, fo_1, fo_2⟩ := box3 x_o; refine Closed.mk ?_; go_simp
        exact hK.out _ _ ⟨hA, hN, x_p, x_o⟩ trivial rfl
      · refine GoalL.mk0 (by rfl) ?_; rintro f u wq hf ⟨hA, hN, x_p, x_o⟩ hD K hK; have e0 : u 0 = _ := hD.1; have e1 : u 1 = _ := hD.2.1; clear hD; simp only [put9, e0, e1] at hK ⊢
        refine Closed.mk ?_; go_simp
        refine (hW _).mono ?_
        rintro e wr ⟨rfl, hb⟩
        exact hK.out _ _ ⟨Below.trans hA (hb.mono hA.size), Nat.le_trans hN hb.size, (below_at hb x_p), (below_at hb x_o)⟩ trivial rfl
      · refine GoalL.mk0 (by rfl) ?_; rintro f u wq hf ⟨hA, hN, x_p, x_o⟩ hD K hK; have e0 : u 0 = _ := hD.1; have e1 : u 1 = _ := hD.2.1; have e2 : u 2 = _ := hD.2.2.1; clear hD; simp only [put9, e0, e1, e2] at hK ⊢
        refine Closed.mk ?_; go_simp
        exact hK.out _ _ ⟨hA, hN, x_p, x_o⟩ trivial rfl
      · refine GoalL.mk0 (by rfl) ?_; rintro f u wq hf ⟨hA, hN, x_p, x_o⟩ hD K hK; have e0 : u 0 = _ := hD.1; have e1 : u 1 = _ := hD.2.1; have e2 : u 2 = _ := hD.2.2.1; have e3 : u 3 = _ := hD.2.2.2.1; clear hD; simp only [put9, e0, e1, e2, e3] at hK ⊢
        refine Closed.mk ?_; go_simp
        exact hK.out _ _ ⟨hA, hN, x_p, x_o⟩ trivial rfl
      · refine GoalL.mk0 (by rfl) ?_; rintro f u wq hf ⟨hA, hN, x_p, x_o⟩ hD K hK; have e0 : u 0 = _ := hD.1; have e1 : u 1 = _ := hD.2.1; have e2 : u 2 = _ := hD.2.2.1; have e3 : u 3 = _ := hD.2.2.2.1; have e4 : u 4 = _ := hD.2.2.2.2.1; clear hD; simp only [put9, e0, e1, e2, e3, e4] at hK ⊢
        refine Closed.mk ?_; go_simp
        exact hK.out _ _ ⟨hA, hN, x_p, x_o⟩ trivial rfl
      · refine GoalL.mk0 (by rfl) ?_; rintro f u wq hf ⟨hA, hN, x_p, x_o⟩ hD K hK; have e0 : u 0 = _ := hD.1; have e1 : u 1 = _ := hD.2.1; have e2 : u 2 = _ := hD.2.2.1; have e3 : u 3 = _ := hD.2.2.2.1; have e4 : u 4 = _ := hD.2.2.2.2.1; have e5 : u 5 = _ := hD.2.2.2.2.2.1; clear hD; simp only [put9, e0, e1, e2, e3, e4, e5] at hK ⊢
        obtain ⟨ko_0, ko_1, ko_2, fo_0, fo_1, fo_2⟩ := box3 x_o; refine Closed.mk ?_; go_simp
        exact hK.out _ _ ⟨hA, hN, x_p, x_o⟩ trivial rfl
      · refine GoalL.mk0 (by rfl) ?_; rintro f u wq hf ⟨hA, hN, x_p, x_o⟩ hD K hK; have e0 : u 0 = _ := hD.1; have e1 : u 1 = _ := hD.2.1; have e2 : u 2 = _ := hD.2.2.1; have e3 : u 3 = _ := hD.2.2.2.1; have e4 : u 4 = _ := hD.2.2.2.2.1; have e5 : u 5 = _ := hD.2.2.2.2.2.1; have e6 : u 6 = _ := hD.2.2.2.2.2.2.1; clear hD; simp only [put9, e0, e1, e2, e3, e4, e5, e6] at hK ⊢
        refine Closed.mk ?_; go_simp
        exact hK.out _ _ ⟨hA, hN, x_p, x_o⟩ trivial rfl
      · refine GoalL.mk0 (by rfl) ?_; rintro f u wq hf ⟨hA, hN, x_p, x_o⟩ hD K hK; have e0 : u 0 = _ := hD.1; have e1 : u 1 = _ := hD.2.1; have e2 : u 2 = _ := hD.2.2.1; have e3 : u 3 = _ := hD.2.2.2.1; have e4 : u 4 = _ := hD.2.2.2.2.1; have e5 : u 5 = _ := hD.2.2.2.2.2.1; have e6 : u 6 = _ := hD.2.2.2.2.2.2.1; have e7 : u 7 = _ := hD.2.2.2.2.2.2.2.1; clear hD; simp only [put9, e0, e1, e2, e3, e4, e5, e6, e7] at hK ⊢
        refine Closed.mk ?_; go_simp
        exact hK.out _ _ ⟨hA, hN, x_p, x_o⟩ trivial rfl
      · refine GoalL.mk0 (by rfl) ?_; rintro f u wq hf ⟨hA, hN, x_p, x_o⟩ hD K hK; have e0 : u 0 = _ := hD.1; have e1 : u 1 = _ := hD.2.1; have e2 : u 2 = _ := hD.2.2.1; have e3 : u 3 = _ := hD.2.2.2.1; have e4 : u 4 = _ := hD.2.2.2.2.1; have e5 : u 5 = _ := hD.2.2.2.2.2.1; have e6 : u 6 = _ := hD.2.2.2.2.2.2.1; have e7 : u 7 = _ := hD.2.2.2.2.2.2.2.1; have e8 : u 8 = _ := hD.2.2.2.2.2.2.2.2.1; clear hD; simp only [put9, e0, e1, e2, e3, e4, e5, e6, e7, e8] at hK ⊢
        refine Closed.mk ?_; go_simp
        exact hK.out _ _ ⟨hA, hN, x_p, x_o⟩ trivial rfl
      · refine GoalL.mk0 (by rfl) ?_; rintro f u wq hf ⟨hA, hN, x_p, x_o⟩ hD K hK; have e0 : u 0 = _ := hD.1; have e1 : u 1 = _ := hD.2.1; have e2 : u 2 = _ := hD.2.2.1; have e3 : u 3 = _ := hD.2.2.2.1; have e4 : u 4 = _ := hD.2.2.2.2.1; have e5 : u 5 = _ := hD.2.2.2.2.2.1; have e6 : u 6 = _ := hD.2.2.2.2.2.2.1; have e7 : u 7 = _ := hD.2.2.2.2.2.2.2.1; have e8 : u 8 = _ := hD.2.2.2.2.2.2.2.2.1; have e9 : u 9 = _ := hD.2.2.2.2.2.2.2.2.2.1; clear hD; simp only [put9, e0, e1, e2, e3, e4, e5, e6, e7, e8, e9] at hK ⊢
        refine Closed.mk ?_; go_simp
        exact hK.out _ _ ⟨hA, hN, x_p, x_o⟩ trivial rfl
      · refine GoalL.mk0 (by rfl) ?_; rintro f u wq hf ⟨hA, hN, x_p, x_o⟩ hD K hK; have e0 : u 0 = _ := hD.1; have e1 : u 1 = _ := hD.2.1; have e2 : u 2 = _ := hD.2.2.1; have e3 : u 3 = _ := hD.2.2.2.1; have e4 : u 4 = _ := hD.2.2.2.2.1; have e5 : u 5 = _ := hD.2.2.2.2.2.1; have e6 : u 6 = _ := hD.2.2.2.2.2.2.1; have e7 : u 7 = _ := hD.2.2.2.2.2.2.2.1; have e8 : u 8 = _ := hD.2.2.2.2.2.2.2.2.1; have e9 : u 9 = _ := hD.2.2.2.2.2.2.2.2.2.1; have e10 : u 10 = _ := hD.2.2.2.2.2.2.2.2.2.2.1; clear hD; simp only [put9, e0, e1, e2, e3, e4, e5, e6, e7, e8, e9, e10] at hK ⊢
        obtain ⟨ko_0, ko_1, ko_2, fo_0, fo_1, fo_2⟩ := box3 x_o; refine Closed.mk ?_; go_simp
        exact hK.out _ _ ⟨hA, hN, x_p, x_o⟩ trivial rfl
      · refine GoalL.mk0 (by rfl) ?_; rintro f u wq hf ⟨hA, hN, x_p, x_o⟩ hD K hK; have e0 : u 0 = _ := hD.1; have e1 : u 1 = _ := hD.2.1; have e2 : u 2 = _ := hD.2.2.1; have e3 : u 3 = _ := hD.2.2.2.1; have e4 : u 4 = _ := hD.2.2.2.2.1; have e5 : u 5 = _ := hD.2.2.2.2.2.1; have e6 : u 6 = _ := hD.2.2.2.2.2.2.1; have e7 : u 7 = _ := hD.2.2.2.2.2.2.2.1; have e8 : u 8 = _ := hD.2.2.2.2.2.2.2.2.1; have e9 : u 9 = _ := hD.2.2.2.2.2.2.2.2.2.1; clear hD; simp only [put9, e0, e1, e2, e3, e4, e5, e6, e7, e8, e9] at hK ⊢
        obtain ⟨kp_0, kp_1, kp_2, kp_3, kp_4, fp_0, fp_1, fp_2, fp_3, fp_4⟩ := box5 x_p; refine Closed.mk ?_; go_simp
        exact hK.out _ _ ⟨hA, hN, x_p, x_o⟩ trivial rfl
      · refine GoalL.mk0 (by rfl) ?_; rintro f u wq hf ⟨hA, hN, x_p, x_o⟩ hD K hK; have e0 : u 0 = _ := hD.1; have e1 : u 1 = _ := hD.2.1; have e2 : u 2 = _ := hD.2.2.1; have e3 : u 3 = _ := hD.2.2.2.1; have e4 : u 4 = _ := hD.2.2.2.2.1; have e5 : u 5 = _ := hD.2.2.2.2.2.1; have e6 : u 6 = _ := hD.2.2.2.2.2.2.1; have e7 : u 7 = _ := hD.2.2.2.2.2.2.2.1; have e8 : u 8 = _ := hD.2.2.2.2.2.2.2.2.1; have e9 : u 9 = _ := hD.2.2.2.2.2.2.2.2.2.1; clear hD; simp only [put9, e0, e1, e2, e3, e4, e5, e6, e7, e8, e9] at hK ⊢
        refine Closed.mk ?_; go_simp
        exact hK.out _ _ ⟨hA, hN, x_p, x_o⟩ trivial rfl
      · refine GoalL.mk0 (by rfl) ?_; rintro f u wq hf ⟨hA, hN, x_p, x_o⟩ hD K hK; have e0 : u 0 = _ := hD.1; have e1 : u 1 = _ := hD.2.1; have e2 : u 2 = _ := hD.2.2.1; have e3 : u 3 = _ := hD.2.2.2.1; have e4 : u 4 = _ := hD.2.2.2.2.1; have e5 : u 5 = _ := hD.2.2.2.2.2.1; have e6 : u 6 = _ := hD.2.2.2.2.2.2.1; have e7 : u 7 = _ := hD.2.2.2.2.2.2.2.1; have e8 : u 8 = _ := hD.2.2.2.2.2.2.2.2.1; have e9 : u 9 = _ := hD.2.2.2.2.2.2.2.2.2.1; have e13 : u 13 = _ := hD.2.2.2.2.2.2.2.2.2.2.1; clear hD; simp only [put9, e0, e1, e2, e3, e4, e5, e6, e7, e8, e9, e13] at hK ⊢
        obtain ⟨ko_0, ko_1, ko_2, fo_0, fo_1, fo_2⟩ := box3 x_o; refine Closed.mk ?_; go_simp
        exact hK.out _ _ ⟨hA, hN, x_p, x_o⟩ trivial rfl
      · refine GoalL.mk0 (by rfl) ?_; rintro f u wq hf ⟨hA, hN, x_p, x_o⟩ hD K hK; have e0 : u 0 = _ := hD.1; have e1 : u 1 = _ := hD.2.1; have e2 : u 2 = _ := hD.2.2.1; have e3 : u 3 = _ := hD.2.2.2.1; have e4 : u 4 = _ := hD.2.2.2.2.1; have e5 : u 5 = _ := hD.2.2.2.2.2.1; have e6 : u 6 = _ := hD.2.2.2.2.2.2.1; have e7 : u 7 = _ := hD.2.2.2.2.2.2.2.1; have e8 : u 8 = _ := hD.2.2.2.2.2.2.2.2.1; have e9 : u 9 = _ := hD.2.2.2.2.2.2.2.2.2.1; have e12 : u 12 = _ := hD.2.2.2.2.2.2.2.2.2.2.1; have e13 : u 13 = _ := hD.2.2.2.2.2.2.2.2.2.2.2.1; have e14 : u 14 = _ := hD.2.2.2.2.2.2.2.2.2.2.2.2.1; clear hD; simp only [put9, e0, e1, e2, e3, e4, e5, e6, e7, e8, e9, e12, e13, e14] at hK ⊢
        refine Closed.mk ?_; go_simp
        refine (hS _ c _ (ProgRow.below HR.out hA)).mono ?_
        rintro e wr ⟨rfl, hb⟩
        exact hK.out _ _ ⟨Below.trans hA (hb.mono hA.size), Nat.le_trans hN hb.size, (below_at hb x_p), (below_at hb x_o)⟩ trivial rfl
      · refine GoalL.mk0 (by rfl) ?_; rintro f u wq hf ⟨hA, hN, x_p, x_o⟩ hD K hK; have e0 : u 0 = _ := hD.1; have e1 : u 1 = _ := hD.2.1; have e2 : u 2 = _ := hD.2.2.1; have e3 : u 3 = _ := hD.2.2.2.1; have e4 : u 4 = _ := hD.2.2.2.2.1; have e5 : u 5 = _ := hD.2.2.2.2.2.1; have e6 : u 6 = _ := hD.2.2.2.2.2.2.1; have e7 : u 7 = _ := hD.2.2.2.2.2.2.2.1; have e8 : u 8 = _ := hD.2.2.2.2.2.2.2.2.1; have e9 : u 9 = _ := hD.2.2.2.2.2.2.2.2.2.1; have e10 : u 10 = _ := hD.2.2.2.2.2.2.2.2.2.2.1; have e11 : u 11 = _ := hD.2.2.2.2.2.2.2.2.2.2.2.1; have e12 : u 12 = _ := hD.2.2.2.2.2.2.2.2.2.2.2.2.1; have e13 : u 13 = _ := hD.2.2.2.2.2.2.2.2.2.2.2.2.2.1; have e14 : u 14 = _ := hD.2.2.2.2.2.2.2.2.2.2.2.2.2.2.1; have e15 : u 15 = _ := hD.2.2.2.2.2.2.2.2.2.2.2.2.2.2.2.1; clear hD; simp only [put9, e0, e1, e2, e3, e4, e5, e6, e7, e8, e9, e10, e11, e12, e13, e14, e15] at hK ⊢
        refine Closed.mk ?_; go_simp
        exact hK.out _ _ ⟨hA, hN, x_p, x_o⟩ trivial rfl
      · refine GoalL.mk0 (by rfl) ?_; rintro f u wq hf ⟨hA, hN, x_p, x_o⟩ hD K hK; have e0 : u 0 = _ := hD.1; have e1 : u 1 = _ := hD.2.1; have e2 : u 2 = _ := hD.2.2.1; have e3 : u 3 = _ := hD.2.2.2.1; have e4 : u 4 = _ := hD.2.2.2.2.1; have e5 : u 5 = _ := hD.2.2.2.2.2.1; have e6 : u 6 = _ := hD.2.2.2.2.2.2.1; have e7 : u 7 = _ := hD.2.2.2.2.2.2.2.1; have e8 : u 8 = _ := hD.2.2.2.2.2.2.2.2.1; have e9 : u 9 = _ := hD.2.2.2.2.2.2.2.2.2.1; have e10 : u 10 = _ := hD.2.2.2.2.2.2.2.2.2.2.1; have e11 : u 11 = _ := hD.2.2.2.2.2.2.2.2.2.2.2.1; have e12 : u 12 = _ := hD.2.2.2.2.2.2.2.2.2.2.2.2.1; have e13 : u 13 = _ := hD.2.2.2.2.2.2.2.2.2.2.2.2.2.1; have e14 : u 14 = _ := hD.2.2.2.2.2.2.2.2.2.2.2.2.2.2.1; have e15 : u 15 = _ := hD.2.2.2.2.2.2.2.2.2.2.2.2.2.2.2.1; have e16 : u 16 = _ := hD.2.2.2.2.2.2.2.2.2.2.2.2.2.2.2.2.1; clear hD; simp only [put9, e0, e1, e2, e3, e4, e5, e6, e7, e8, e9, e10, e11, e12, e13, e14, e15, e16] at hK ⊢
        refine Closed.mk ?_; go_simp
        exact hK.out _ _ ⟨hA, hN, x_p, x_o⟩ trivial rfl
      intro u w1 hC hD
      have hA := hC.1; have hN := hC.2.1; have x_p := hC.2.2.1; have x_o := hC.2.2.2; clear hC
      have e0 : u 0 = _ := hD.1; have e1 : u 1 = _ := hD.2.1; have e2 : u 2 = _ := hD.2.2.1; have e3 : u 3 = _ := hD.2.2.2.1; have e4 : u 4 = _ := hD.2.2.2.2.1; have e5 : u 5 = _ := hD.2.2.2.2.2.1; have e6 : u 6 = _ := hD.2.2.2.2.2.2.1; have e7 : u 7 = _ := hD.2.2.2.2.2.2.2.1; have e8 : u 8 = _ := hD.2.2.2.2.2.2.2.2.1; have e9 : u 9 = _ := hD.2.2.2.2.2.2.2.2.2.1; have e10 : u 10 = _ := hD.2.2.2.2.2.2.2.2.2.2.1; have e11 : u 11 = _ := hD.2.2.2.2.2.2.2.2.2.2.2.1; have e12 : u 12 = _ := hD.2.2.2.2.2.2.2.2.2.2.2.2.1; have e13 : u 13 = _ := hD.2.2.2.2.2.2.2.2.2.2.2.2.2.1; have e14 : u 14 = _ := hD.2.2.2.2.2.2.2.2.2.2.2.2.2.2.1; have e15 : u 15 = _ := hD.2.2.2.2.2.2.2.2.2.2.2.2.2.2.2.1; have e16 : u 16 = _ := hD.2.2.2.2.2.2.2.2.2.2.2.2.2.2.2.2.1; have e17 : u 17 = _ := hD.2.2.2.2.2.2.2.2.2.2.2.2.2.2.2.2.2.1; clear hD
      have B1 := Lib.hid hA; have N1 := hN; have S1 := hA.size
      have Xp_1 := Lib.hid x_p; clear x_p
      have Xo_1 := Lib.hid x_o; clear x_o
      obtain ⟨cp1_0, cp1_1, cp1_2, cp1_3, cp1_4, fp1_0, fp1_1, fp1_2, fp1_3, fp1_4⟩ := box5 Xp_1.out; have lp1 := heap_lt Xp_1.out
      obtain ⟨co1_0, co1_1, co1_2, fo1_0, fo1_1, fo1_2⟩ := box3 Xo_1.out; have lo1 := heap_lt Xo_1.out
      clear hA hN
      simp only [put9, e0, e1, e2, e3, e4, e5, e6, e7, e8, e9, e10, e11, e12, e13, e14, e15, e16, e17]
      refine Closed.mk (wpAnyH_done (by kernel_rfl) ?_ _)
      go_wp2_with (fail)
      refine (hA _ c on ag _ (ProgRow.below HR.out B1.out) ⟨ho1, ho2⟩).mono ?_
      rintro e w2 ⟨rfl, hb⟩
      have B2 := Lib.hid (Below.trans B1.out (hb.mono (by first | omega | (simp only [szA, szS, szD, World.heap_drewN] at * <;> omega))) : Below w.heap.size w w2)
      have Z2 := hb.size
      have N2 : w1.heap.size ≤ w2.heap.size := (by first | with_reducible exact Z2 | (simp only [szA, szS, szD] at Z2; omega))
      clear Z2
      have Xp_2 := Lib.hid (below_at hb Xp_1.out)
      have Xo_2 := Lib.hid (below_at hb Xo_1.out)
      clear hb
      obtain ⟨cp2_0, cp2_1, cp2_2, cp2_3, cp2_4, fp2_0, fp2_1, fp2_2, fp2_3, fp2_4⟩ := box5 Xp_2.out; have lp2 := heap_lt Xp_2.out
      obtain ⟨co2_0, co2_1, co2_2, fo2_0, fo2_1, fo2_2⟩ := box3 Xo_2.out; have lo2 := heap_lt Xo_2.out
      have S2 : w.heap.size ≤ w2.heap.size := (by omega)
      go_wp2
      go_ret
      exact ⟨rfl, B2.out⟩
    · have d2 := decide_eq_true (p := n ≤ on) (by omega)
      go_enter Tryd.func13, Tryd.ntmps13
      go_wp2_with (fail)
      have hN0 : w.heap.size + 2 ≤ ((w.alloc (.cells #[.slice a0 c.sems.length p0, .slice a1 c.groups.length p1, .slice a2 c.barriers.length p2, .slice a3 c.rooms.length p3, .slice a4 c.threads.length p4] 34)).alloc (.cells #[.int .i64 k, .int .i64 on, .int .i64 ag] 23)).heap.size := (by first | omega | (simp only [szA, szS, szD, World.heap_drewN] at * <;> omega))
      refine wp_region_L [⟨0, false, [], fun _ v _ => v = .pointer (some ⟨w.heap.size + 1, 0, none⟩)⟩, ⟨1, false, [0], fun _ v _ => v = .int .i64 k⟩, ⟨2, false, [0, 1], fun _ v _ => v = .string s⟩, ⟨3, false, [0, 1, 2], fun _ v _ => v = .bool false⟩, ⟨4, false, [0, 1, 2, 3], fun _ v _ => v = .bool false⟩, ⟨5, false, [0, 1, 2, 3, 4], fun _ v _ => v = .pointer (some ⟨w.heap.size + 1, 1, none⟩)⟩, ⟨6, false, [0, 1, 2, 3, 4, 5], fun _ v _ => v = .int .i64 on⟩, ⟨7, false, [0, 1, 2, 3, 4, 5, 6], fun _ v _ => v = .bool false⟩, ⟨8, false, [0, 1, 2, 3, 4, 5, 6, 7], fun _ v _ => v = .bool false⟩, ⟨9, false, [0, 1, 2, 3, 4, 5, 6, 7, 8], fun _ v _ => v = .bool false⟩, ⟨10, false, [0, 1, 2, 3, 4, 5, 6, 7, 8, 9], fun _ v _ => v = .pointer (some ⟨w.heap.size + 1, 1, none⟩)⟩, ⟨11, false, [0, 1, 2, 3, 4, 5, 6, 7, 8, 9, 10], fun _ v _ => v = .int .i64 on⟩, ⟨12, false, [0, 1, 2, 3, 4, 5, 6, 7, 8, 9], fun _ v _ => v = .agg #[.slice a0 c.sems.length p0, .slice a1 c.groups.length p1, .slice a2 c.barriers.length p2, .slice a3 c.rooms.length p3, .slice a4 c.threads.length p4]⟩, ⟨13, false, [0, 1, 2, 3, 4, 5, 6, 7, 8, 9], fun _ v _ => v = .pointer (some ⟨w.heap.size + 1, 0, none⟩)⟩, ⟨14, false, [0, 1, 2, 3, 4, 5, 6, 7, 8, 9, 13], fun _ v _ => v = .int .i64 k⟩, ⟨15, false, [0, 1, 2, 3, 4, 5, 6, 7, 8, 9, 12, 13, 14], fun _ v _ => v = .int .i64 n⟩, ⟨16, false, [0, 1, 2, 3, 4, 5, 6, 7, 8, 9, 10, 11, 12, 13, 14, 15], fun _ v _ => v = .bool true⟩, ⟨17, false, [0, 1, 2, 3, 4, 5, 6, 7, 8, 9, 10, 11, 12, 13, 14, 15, 16], fun _ v _ => v = .bool true⟩] [(0, some 5), (1, some 6), (2, some 7), (3, some 8), (4, some 9), (5, some 10), (6, some 11), (7, some 12), (8, some 13), (9, some 14), (10, some 15), (11, some 16), (12, some 17), (13, some 18), (14, some 19), (15, some 20), (16, some 21), (17, some 22)] (fun _ w' => Below w.heap.size w w' ∧ w.heap.size + 2 ≤ w'.heap.size ∧ w'.heap[w.heap.size]? = some (.cells #[.slice a0 c.sems.length p0, .slice a1 c.groups.length p1, .slice a2 c.barriers.length p2, .slice a3 c.rooms.length p3, .slice a4 c.threads.length p4] 34 (0, 0)) ∧ w'.heap[w.heap.size + 1]? = some (.cells #[.int .i64 k, .int .i64 on, .int .i64 ag] 23 (0, 0))) (fun _ _ _ => True) (by kernel_rfl) (by rfl) (by kernel_rfl) (by kernel_rfl) ⟨((Below.alloc (Below.alloc (Below.refl _ _) (by first | omega | (simp only [szA, szS, szD, World.heap_drewN] at * <;> omega)) _) (by first | omega | (simp only [szA, szS, szD, World.heap_drewN] at * <;> omega)) _)).drew, hN0, (heap_drew (heap_up (heap_at' (n := w.heap.size) (by first | omega | (simp only [szA, szS, szD, World.heap_drewN] at * <;> omega))))), (heap_drew (heap_at' (n := w.heap.size + 1) (by first | omega | (simp only [szA, szS, szD, World.heap_drewN] at * <;> omega))))⟩ (GoalsL.cons ?_ (GoalsL.cons ?_ (GoalsL.cons ?_ (GoalsL.cons ?_ (GoalsL.cons ?_ (GoalsL.cons ?_ (GoalsL.cons ?_ (GoalsL.cons ?_ (GoalsL.cons ?_ (GoalsL.cons ?_ (GoalsL.cons ?_ (GoalsL.cons ?_ (GoalsL.cons ?_ (GoalsL.cons ?_ (GoalsL.cons ?_ (GoalsL.cons ?_ (GoalsL.cons ?_ (GoalsL.cons ?_ (GoalsL.nil))))))))))))))))))) ?_
      · refine GoalL.mk0 (by rfl) ?_; rintro f u wq hf ⟨hA, hN, x_p, x_o⟩ hD K hK; clear hD; simp only [put9] at hK ⊢
        refine Closed.mk ?_; go_simp
        exact hK.out _ _ ⟨hA, hN, x_p, x_o⟩ trivial rfl
      · refine GoalL.mk0 (by rfl) ?_; rintro f u wq hf ⟨hA, hN, x_p, x_o⟩ hD K hK; have e0 : u 0 = _ := hD.1; clear hD; simp only [put9, e0] at hK ⊢
        obtain ⟨ko_0, ko_1, ko_2, fo_0, fo_1, fo_2⟩ := box3 x_o; refine Closed.mk ?_; go_simp
        exact hK.out _ _ ⟨hA, hN, x_p, x_o⟩ trivial rfl
      · refine GoalL.mk0 (by rfl) ?_; rintro f u wq hf ⟨hA, hN, x_p, x_o⟩ hD K hK; have e0 : u 0 = _ := hD.1; have e1 : u 1 = _ := hD.2.1; clear hD; simp only [put9, e0, e1] at hK ⊢
        refine Closed.mk ?_; go_simp
        refine (hW _).mono ?_
        rintro e wr ⟨rfl, hb⟩
        exact hK.out _ _ ⟨Below.trans hA (hb.mono hA.size), Nat.le_trans hN hb.size, (below_at hb x_p), (below_at hb x_o)⟩ trivial rfl
      · refine GoalL.mk0 (by rfl) ?_; rintro f u wq hf ⟨hA, hN, x_p, x_o⟩ hD K hK; have e0 : u 0 = _ := hD.1; have e1 : u 1 = _ := hD.2.1; have e2 : u 2 = _ := hD.2.2.1; clear hD; simp only [put9, e0, e1, e2] at hK ⊢
        refine Closed.mk ?_; go_simp
        exact hK.out _ _ ⟨hA, hN, x_p, x_o⟩ trivial rfl
      · refine GoalL.mk0 (by rfl) ?_; rintro f u wq hf ⟨hA, hN, x_p, x_o⟩ hD K hK; have e0 : u 0 = _ := hD.1; have e1 : u 1 = _ := hD.2.1; have e2 : u 2 = _ := hD.2.2.1; have e3 : u 3 = _ := hD.2.2.2.1; clear hD; simp only [put9, e0, e1, e2, e3] at hK ⊢
        refine Closed.mk ?_; go_simp
        exact hK.out _ _ ⟨hA, hN, x_p, x_o⟩ trivial rfl
      · refine GoalL.mk0 (by rfl) ?_; rintro f u wq hf ⟨hA, hN, x_p, x_o⟩ hD K hK; have e0 : u 0 = _ := hD.1; have e1 : u 1 = _ := hD.2.1; have e2 : u 2 = _ := hD.2.2.1; have e3 : u 3 = _ := hD.2.2.2.1; have e4 : u 4 = _ := hD.2.2.2.2.1; clear hD; simp only [put9, e0, e1, e2, e3, e4] at hK ⊢
        refine Closed.mk ?_; go_simp
        exact hK.out _ _ ⟨hA, hN, x_p, x_o⟩ trivial rfl
      · refine GoalL.mk0 (by rfl) ?_; rintro f u wq hf ⟨hA, hN, x_p, x_o⟩ hD K hK; have e0 : u 0 = _ := hD.1; have e1 : u 1 = _ := hD.2.1; have e2 : u 2 = _ := hD.2.2.1; have e3 : u 3 = _ := hD.2.2.2.1; have e4 : u 4 = _ := hD.2.2.2.2.1; have e5 : u 5 = _ := hD.2.2.2.2.2.1; clear hD; simp only [put9, e0, e1, e2, e3, e4, e5] at hK ⊢
        obtain ⟨ko_0, ko_1, ko_2, fo_0, fo_1, fo_2⟩ := box3 x_o; refine Closed.mk ?_; go_simp
        exact hK.out _ _ ⟨hA, hN, x_p, x_o⟩ trivial rfl
      · refine GoalL.mk0 (by rfl) ?_; rintro f u wq hf ⟨hA, hN, x_p, x_o⟩ hD K hK; have e0 : u 0 = _ := hD.1; have e1 : u 1 = _ := hD.2.1; have e2 : u 2 = _ := hD.2.2.1; have e3 : u 3 = _ := hD.2.2.2.1; have e4 : u 4 = _ := hD.2.2.2.2.1; have e5 : u 5 = _ := hD.2.2.2.2.2.1; have e6 : u 6 = _ := hD.2.2.2.2.2.2.1; clear hD; simp only [put9, e0, e1, e2, e3, e4, e5, e6] at hK ⊢
        refine Closed.mk ?_; go_simp
        exact hK.out _ _ ⟨hA, hN, x_p, x_o⟩ trivial rfl
      · refine GoalL.mk0 (by rfl) ?_; rintro f u wq hf ⟨hA, hN, x_p, x_o⟩ hD K hK; have e0 : u 0 = _ := hD.1; have e1 : u 1 = _ := hD.2.1; have e2 : u 2 = _ := hD.2.2.1; have e3 : u 3 = _ := hD.2.2.2.1; have e4 : u 4 = _ := hD.2.2.2.2.1; have e5 : u 5 = _ := hD.2.2.2.2.2.1; have e6 : u 6 = _ := hD.2.2.2.2.2.2.1; have e7 : u 7 = _ := hD.2.2.2.2.2.2.2.1; clear hD; simp only [put9, e0, e1, e2, e3, e4, e5, e6, e7] at hK ⊢
        refine Closed.mk ?_; go_simp
        exact hK.out _ _ ⟨hA, hN, x_p, x_o⟩ trivial rfl
      · refine GoalL.mk0 (by rfl) ?_; rintro f u wq hf ⟨hA, hN, x_p, x_o⟩ hD K hK; have e0 : u 0 = _ := hD.1; have e1 : u 1 = _ := hD.2.1; have e2 : u 2 = _ := hD.2.2.1; have e3 : u 3 = _ := hD.2.2.2.1; have e4 : u 4 = _ := hD.2.2.2.2.1; have e5 : u 5 = _ := hD.2.2.2.2.2.1; have e6 : u 6 = _ := hD.2.2.2.2.2.2.1; have e7 : u 7 = _ := hD.2.2.2.2.2.2.2.1; have e8 : u 8 = _ := hD.2.2.2.2.2.2.2.2.1; clear hD; simp only [put9, e0, e1, e2, e3, e4, e5, e6, e7, e8] at hK ⊢
        refine Closed.mk ?_; go_simp
        exact hK.out _ _ ⟨hA, hN, x_p, x_o⟩ trivial rfl
      · refine GoalL.mk0 (by rfl) ?_; rintro f u wq hf ⟨hA, hN, x_p, x_o⟩ hD K hK; have e0 : u 0 = _ := hD.1; have e1 : u 1 = _ := hD.2.1; have e2 : u 2 = _ := hD.2.2.1; have e3 : u 3 = _ := hD.2.2.2.1; have e4 : u 4 = _ := hD.2.2.2.2.1; have e5 : u 5 = _ := hD.2.2.2.2.2.1; have e6 : u 6 = _ := hD.2.2.2.2.2.2.1; have e7 : u 7 = _ := hD.2.2.2.2.2.2.2.1; have e8 : u 8 = _ := hD.2.2.2.2.2.2.2.2.1; have e9 : u 9 = _ := hD.2.2.2.2.2.2.2.2.2.1; clear hD; simp only [put9, e0, e1, e2, e3, e4, e5, e6, e7, e8, e9] at hK ⊢
        refine Closed.mk ?_; go_simp
        exact hK.out _ _ ⟨hA, hN, x_p, x_o⟩ trivial rfl
      · refine GoalL.mk0 (by rfl) ?_; rintro f u wq hf ⟨hA, hN, x_p, x_o⟩ hD K hK; have e0 : u 0 = _ := hD.1; have e1 : u 1 = _ := hD.2.1; have e2 : u 2 = _ := hD.2.2.1; have e3 : u 3 = _ := hD.2.2.2.1; have e4 : u 4 = _ := hD.2.2.2.2.1; have e5 : u 5 = _ := hD.2.2.2.2.2.1; have e6 : u 6 = _ := hD.2.2.2.2.2.2.1; have e7 : u 7 = _ := hD.2.2.2.2.2.2.2.1; have e8 : u 8 = _ := hD.2.2.2.2.2.2.2.2.1; have e9 : u 9 = _ := hD.2.2.2.2.2.2.2.2.2.1; have e10 : u 10 = _ := hD.2.2.2.2.2.2.2.2.2.2.1; clear hD; simp only [put9, e0, e1, e2, e3, e4, e5, e6, e7, e8, e9, e10] at hK ⊢
        obtain ⟨ko_0, ko_1, ko_2, fo_0, fo_1, fo_2⟩ := box3 x_o; refine Closed.mk ?_; go_simp
        exact hK.out _ _ ⟨hA, hN, x_p, x_o⟩ trivial rfl
      · refine GoalL.mk0 (by rfl) ?_; rintro f u wq hf ⟨hA, hN, x_p, x_o⟩ hD K hK; have e0 : u 0 = _ := hD.1; have e1 : u 1 = _ := hD.2.1; have e2 : u 2 = _ := hD.2.2.1; have e3 : u 3 = _ := hD.2.2.2.1; have e4 : u 4 = _ := hD.2.2.2.2.1; have e5 : u 5 = _ := hD.2.2.2.2.2.1; have e6 : u 6 = _ := hD.2.2.2.2.2.2.1; have e7 : u 7 = _ := hD.2.2.2.2.2.2.2.1; have e8 : u 8 = _ := hD.2.2.2.2.2.2.2.2.1; have e9 : u 9 = _ := hD.2.2.2.2.2.2.2.2.2.1; clear hD; simp only [put9, e0, e1, e2, e3, e4, e5, e6, e7, e8, e9] at hK ⊢
        obtain ⟨kp_0, kp_1, kp_2, kp_3, kp_4, fp_0, fp_1, fp_2, fp_3, fp_4⟩ := box5 x_p; refine Closed.mk ?_; go_simp
        exact hK.out _ _ ⟨hA, hN, x_p, x_o⟩ trivial rfl
      · refine GoalL.mk0 (by rfl) ?_; rintro f u wq hf ⟨hA, hN, x_p, x_o⟩ hD K hK; have e0 : u 0 = _ := hD.1; have e1 : u 1 = _ := hD.2.1; have e2 : u 2 = _ := hD.2.2.1; have e3 : u 3 = _ := hD.2.2.2.1; have e4 : u 4 = _ := hD.2.2.2.2.1; have e5 : u 5 = _ := hD.2.2.2.2.2.1; have e6 : u 6 = _ := hD.2.2.2.2.2.2.1; have e7 : u 7 = _ := hD.2.2.2.2.2.2.2.1; have e8 : u 8 = _ := hD.2.2.2.2.2.2.2.2.1; have e9 : u 9 = _ := hD.2.2.2.2.2.2.2.2.2.1; clear hD; simp only [put9, e0, e1, e2, e3, e4, e5, e6, e7, e8, e9] at hK ⊢
        refine Closed.mk ?_; go_simp
        exact hK.out _ _ ⟨hA, hN, x_p, x_o⟩ trivial rfl
      · refine GoalL.mk0 (by rfl) ?_; rintro f u wq hf ⟨hA, hN, x_p, x_o⟩ hD K hK; have e0 : u 0 = _ := hD.1; have e1 : u 1 = _ := hD.2.1; have e2 : u 2 = _ := hD.2.2.1; have e3 : u 3 = _ := hD.2.2.2.1; have e4 : u 4 = _ := hD.2.2.2.2.1; have e5 : u 5 = _ := hD.2.2.2.2.2.1; have e6 : u 6 = _ := hD.2.2.2.2.2.2.1; have e7 : u 7 = _ := hD.2.2.2.2.2.2.2.1; have e8 : u 8 = _ := hD.2.2.2.2.2.2.2.2.1; have e9 : u 9 = _ := hD.2.2.2.2.2.2.2.2.2.1; have e13 : u 13 = _ := hD.2.2.2.2.2.2.2.2.2.2.1; clear hD; simp only [put9, e0, e1, e2, e3, e4, e5, e6, e7, e8, e9, e13] at hK ⊢
        obtain ⟨ko_0, ko_1, ko_2, fo_0, fo_1, fo_2⟩ := box3 x_o; refine Closed.mk ?_; go_simp
        exact hK.out _ _ ⟨hA, hN, x_p, x_o⟩ trivial rfl
      · refine GoalL.mk0 (by rfl) ?_; rintro f u wq hf ⟨hA, hN, x_p, x_o⟩ hD K hK; have e0 : u 0 = _ := hD.1; have e1 : u 1 = _ := hD.2.1; have e2 : u 2 = _ := hD.2.2.1; have e3 : u 3 = _ := hD.2.2.2.1; have e4 : u 4 = _ := hD.2.2.2.2.1; have e5 : u 5 = _ := hD.2.2.2.2.2.1; have e6 : u 6 = _ := hD.2.2.2.2.2.2.1; have e7 : u 7 = _ := hD.2.2.2.2.2.2.2.1; have e8 : u 8 = _ := hD.2.2.2.2.2.2.2.2.1; have e9 : u 9 = _ := hD.2.2.2.2.2.2.2.2.2.1; have e12 : u 12 = _ := hD.2.2.2.2.2.2.2.2.2.2.1; have e13 : u 13 = _ := hD.2.2.2.2.2.2.2.2.2.2.2.1; have e14 : u 14 = _ := hD.2.2.2.2.2.2.2.2.2.2.2.2.1; clear hD; simp only [put9, e0, e1, e2, e3, e4, e5, e6, e7, e8, e9, e12, e13, e14] at hK ⊢
        refine Closed.mk ?_; go_simp
        refine (hS _ c _ (ProgRow.below HR.out hA)).mono ?_
        rintro e wr ⟨rfl, hb⟩
        exact hK.out _ _ ⟨Below.trans hA (hb.mono hA.size), Nat.le_trans hN hb.size, (below_at hb x_p), (below_at hb x_o)⟩ trivial rfl
      · refine GoalL.mk0 (by rfl) ?_; rintro f u wq hf ⟨hA, hN, x_p, x_o⟩ hD K hK; have e0 : u 0 = _ := hD.1; have e1 : u 1 = _ := hD.2.1; have e2 : u 2 = _ := hD.2.2.1; have e3 : u 3 = _ := hD.2.2.2.1; have e4 : u 4 = _ := hD.2.2.2.2.1; have e5 : u 5 = _ := hD.2.2.2.2.2.1; have e6 : u 6 = _ := hD.2.2.2.2.2.2.1; have e7 : u 7 = _ := hD.2.2.2.2.2.2.2.1; have e8 : u 8 = _ := hD.2.2.2.2.2.2.2.2.1; have e9 : u 9 = _ := hD.2.2.2.2.2.2.2.2.2.1; have e10 : u 10 = _ := hD.2.2.2.2.2.2.2.2.2.2.1; have e11 : u 11 = _ := hD.2.2.2.2.2.2.2.2.2.2.2.1; have e12 : u 12 = _ := hD.2.2.2.2.2.2.2.2.2.2.2.2.1; have e13 : u 13 = _ := hD.2.2.2.2.2.2.2.2.2.2.2.2.2.1; have e14 : u 14 = _ := hD.2.2.2.2.2.2.2.2.2.2.2.2.2.2.1; have e15 : u 15 = _ := hD.2.2.2.2.2.2.2.2.2.2.2.2.2.2.2.1; clear hD; simp only [put9, e0, e1, e2, e3, e4, e5, e6, e7, e8, e9, e10, e11, e12, e13, e14, e15] at hK ⊢
        refine Closed.mk ?_; go_simp
        exact hK.out _ _ ⟨hA, hN, x_p, x_o⟩ trivial rfl
      · refine GoalL.mk0 (by rfl) ?_; rintro f u wq hf ⟨hA, hN, x_p, x_o⟩ hD K hK; have e0 : u 0 = _ := hD.1; have e1 : u 1 = _ := hD.2.1; have e2 : u 2 = _ := hD.2.2.1; have e3 : u 3 = _ := hD.2.2.2.1; have e4 : u 4 = _ := hD.2.2.2.2.1; have e5 : u 5 = _ := hD.2.2.2.2.2.1; have e6 : u 6 = _ := hD.2.2.2.2.2.2.1; have e7 : u 7 = _ := hD.2.2.2.2.2.2.2.1; have e8 : u 8 = _ := hD.2.2.2.2.2.2.2.2.1; have e9 : u 9 = _ := hD.2.2.2.2.2.2.2.2.2.1; have e10 : u 10 = _ := hD.2.2.2.2.2.2.2.2.2.2.1; have e11 : u 11 = _ := hD.2.2.2.2.2.2.2.2.2.2.2.1; have e12 : u 12 = _ := hD.2.2.2.2.2.2.2.2.2.2.2.2.1; have e13 : u 13 = _ := hD.2.2.2.2.2.2.2.2.2.2.2.2.2.1; have e14 : u 14 = _ := hD.2.2.2.2.2.2.2.2.2.2.2.2.2.2.1; have e15 : u 15 = _ := hD.2.2.2.2.2.2.2.2.2.2.2.2.2.2.2.1; have e16 : u 16 = _ := hD.2.2.2.2.2.2.2.2.2.2.2.2.2.2.2.2.1; clear hD; simp only [put9, e0, e1, e2, e3, e4, e5, e6, e7, e8, e9, e10, e11, e12, e13, e14, e15, e16] at hK ⊢
        refine Closed.mk ?_; go_simp
        exact hK.out _ _ ⟨hA, hN, x_p, x_o⟩ trivial rfl
      intro u w1 hC hD
      have hA := hC.1; have hN := hC.2.1; have x_p := hC.2.2.1; have x_o := hC.2.2.2; clear hC
      have e0 : u 0 = _ := hD.1; have e1 : u 1 = _ := hD.2.1; have e2 : u 2 = _ := hD.2.2.1; have e3 : u 3 = _ := hD.2.2.2.1; have e4 : u 4 = _ := hD.2.2.2.2.1; have e5 : u 5 = _ := hD.2.2.2.2.2.1; have e6 : u 6 = _ := hD.2.2.2.2.2.2.1; have e7 : u 7 = _ := hD.2.2.2.2.2.2.2.1; have e8 : u 8 = _ := hD.2.2.2.2.2.2.2.2.1; have e9 : u 9 = _ := hD.2.2.2.2.2.2.2.2.2.1; have e10 : u 10 = _ := hD.2.2.2.2.2.2.2.2.2.2.1; have e11 : u 11 = _ := hD.2.2.2.2.2.2.2.2.2.2.2.1; have e12 : u 12 = _ := hD.2.2.2.2.2.2.2.2.2.2.2.2.1; have e13 : u 13 = _ := hD.2.2.2.2.2.2.2.2.2.2.2.2.2.1; have e14 : u 14 = _ := hD.2.2.2.2.2.2.2.2.2.2.2.2.2.2.1; have e15 : u 15 = _ := hD.2.2.2.2.2.2.2.2.2.2.2.2.2.2.2.1; have e16 : u 16 = _ := hD.2.2.2.2.2.2.2.2.2.2.2.2.2.2.2.2.1; have e17 : u 17 = _ := hD.2.2.2.2.2.2.2.2.2.2.2.2.2.2.2.2.2.1; clear hD
      have B1 := Lib.hid hA; have N1 := hN; have S1 := hA.size
      have Xp_1 := Lib.hid x_p; clear x_p
      have Xo_1 := Lib.hid x_o; clear x_o
      obtain ⟨cp1_0, cp1_1, cp1_2, cp1_3, cp1_4, fp1_0, fp1_1, fp1_2, fp1_3, fp1_4⟩ := box5 Xp_1.out; have lp1 := heap_lt Xp_1.out
      obtain ⟨co1_0, co1_1, co1_2, fo1_0, fo1_1, fo1_2⟩ := box3 Xo_1.out; have lo1 := heap_lt Xo_1.out
      clear hA hN
      simp only [put9, e0, e1, e2, e3, e4, e5, e6, e7, e8, e9, e10, e11, e12, e13, e14, e15, e16, e17]
      refine Closed.mk (wpAnyH_done (by kernel_rfl) ?_ _)
      go_wp2
      go_ret
      exact ⟨ret_bool (opB_no (hN on ag (by omega))).symm, B1.out⟩
  · have d1 := decide_eq_true (p := on < 0) (by omega)
    go_enter Tryd.func13, Tryd.ntmps13
    go_wp2_with (fail)
    have hN0 : w.heap.size + 2 ≤ ((w.alloc (.cells #[.slice a0 c.sems.length p0, .slice a1 c.groups.length p1, .slice a2 c.barriers.length p2, .slice a3 c.rooms.length p3, .slice a4 c.threads.length p4] 34)).alloc (.cells #[.int .i64 k, .int .i64 on, .int .i64 ag] 23)).heap.size := (by first | omega | (simp only [szA, szS, szD, World.heap_drewN] at * <;> omega))
    refine wp_region_L [⟨0, false, [], fun _ v _ => v = .pointer (some ⟨w.heap.size + 1, 0, none⟩)⟩, ⟨1, false, [0], fun _ v _ => v = .int .i64 k⟩, ⟨2, false, [0, 1], fun _ v _ => v = .string s⟩, ⟨3, false, [0, 1, 2], fun _ v _ => v = .bool false⟩, ⟨4, false, [0, 1, 2, 3], fun _ v _ => v = .bool false⟩, ⟨5, false, [0, 1, 2, 3, 4], fun _ v _ => v = .pointer (some ⟨w.heap.size + 1, 1, none⟩)⟩, ⟨6, false, [0, 1, 2, 3, 4, 5], fun _ v _ => v = .int .i64 on⟩, ⟨7, false, [0, 1, 2, 3, 4, 5, 6], fun _ v _ => v = .bool true⟩, ⟨8, false, [0, 1, 2, 3, 4, 5, 6, 7], fun _ v _ => v = .bool true⟩, ⟨9, false, [0, 1, 2, 3, 4, 5, 6, 7, 8], fun _ v _ => v = .bool true⟩, ⟨10, false, [0, 1, 2, 3, 4, 5, 6, 7, 8, 9], fun _ v _ => v = undef⟩, ⟨11, false, [0, 1, 2, 3, 4, 5, 6, 7, 8, 9], fun _ v _ => v = undef⟩, ⟨12, false, [0, 1, 2, 3, 4, 5, 6, 7, 8, 9], fun _ v _ => v = undef⟩, ⟨13, false, [0, 1, 2, 3, 4, 5, 6, 7, 8, 9], fun _ v _ => v = undef⟩, ⟨14, false, [0, 1, 2, 3, 4, 5, 6, 7, 8, 9], fun _ v _ => v = undef⟩, ⟨15, false, [0, 1, 2, 3, 4, 5, 6, 7, 8, 9], fun _ v _ => v = undef⟩, ⟨16, false, [0, 1, 2, 3, 4, 5, 6, 7, 8, 9], fun _ v _ => v = undef⟩, ⟨17, false, [0, 1, 2, 3, 4, 5, 6, 7, 8, 9, 16], fun _ v _ => v = .bool true⟩] [(0, some 5), (1, some 6), (2, some 7), (3, some 8), (4, some 9), (5, some 10), (6, some 11), (7, some 12), (8, some 13), (9, some 14), (10, some 15), (11, some 16), (12, some 17), (13, some 18), (14, some 19), (15, some 20), (16, some 21), (17, some 22)] (fun _ w' => Below w.heap.size w w' ∧ w.heap.size + 2 ≤ w'.heap.size ∧ w'.heap[w.heap.size]? = some (.cells #[.slice a0 c.sems.length p0, .slice a1 c.groups.length p1, .slice a2 c.barriers.length p2, .slice a3 c.rooms.length p3, .slice a4 c.threads.length p4] 34 (0, 0)) ∧ w'.heap[w.heap.size + 1]? = some (.cells #[.int .i64 k, .int .i64 on, .int .i64 ag] 23 (0, 0))) (fun _ _ _ => True) (by kernel_rfl) (by rfl) (by kernel_rfl) (by kernel_rfl) ⟨((Below.alloc (Below.alloc (Below.refl _ _) (by first | omega | (simp only [szA, szS, szD, World.heap_drewN] at * <;> omega)) _) (by first | omega | (simp only [szA, szS, szD, World.heap_drewN] at * <;> omega)) _)).drew, hN0, (heap_drew (heap_up (heap_at' (n := w.heap.size) (by first | omega | (simp only [szA, szS, szD, World.heap_drewN] at * <;> omega))))), (heap_drew (heap_at' (n := w.heap.size + 1) (by first | omega | (simp only [szA, szS, szD, World.heap_drewN] at * <;> omega))))⟩ (GoalsL.cons ?_ (GoalsL.cons ?_ (GoalsL.cons ?_ (GoalsL.cons ?_ (GoalsL.cons ?_ (GoalsL.cons ?_ (GoalsL.cons ?_ (GoalsL.cons ?_ (GoalsL.cons ?_ (GoalsL.cons ?_ (GoalsL.cons ?_ (GoalsL.cons ?_ (GoalsL.cons ?_ (GoalsL.cons ?_ (GoalsL.cons ?_ (GoalsL.cons ?_ (GoalsL.cons ?_ (GoalsL.cons ?_ (GoalsL.nil))))))))))))))))))) ?_
    · refine GoalL.mk0 (by rfl) ?_; rintro f u wq hf ⟨hA, hN, x_p, x_o⟩ hD K hK; clear hD; simp only [put9] at hK ⊢
      refine Closed.mk ?_; go_simp
      exact hK.out _ _ ⟨hA, hN, x_p, x_o⟩ trivial rfl
    · refine GoalL.mk0 (by rfl) ?_; rintro f u wq hf ⟨hA, hN, x_p, x_o⟩ hD K hK; have e0 : u 0 = _ := hD.1; clear hD; simp only [put9, e0] at hK ⊢
      obtain ⟨ko_0, ko_1, ko_2, fo_0, fo_1, fo_2⟩ := box3 x_o; refine Closed.mk ?_; go_simp
      exact hK.out _ _ ⟨hA, hN, x_p, x_o⟩ trivial rfl
    · refine GoalL.mk0 (by rfl) ?_; rintro f u wq hf ⟨hA, hN, x_p, x_o⟩ hD K hK; have e0 : u 0 = _ := hD.1; have e1 : u 1 = _ := hD.2.1; clear hD; simp only [put9, e0, e1] at hK ⊢
      refine Closed.mk ?_; go_simp
      refine (hW _).mono ?_
      rintro e wr ⟨rfl, hb⟩
      exact hK.out _ _ ⟨Below.trans hA (hb.mono hA.size), Nat.le_trans hN hb.size, (below_at hb x_p), (below_at hb x_o)⟩ trivial rfl
    · refine GoalL.mk0 (by rfl) ?_; rintro f u wq hf ⟨hA, hN, x_p, x_o⟩ hD K hK; have e0 : u 0 = _ := hD.1; have e1 : u 1 = _ := hD.2.1; have e2 : u 2 = _ := hD.2.2.1; clear hD; simp only [put9, e0, e1, e2] at hK ⊢
      refine Closed.mk ?_; go_simp
      exact hK.out _ _ ⟨hA, hN, x_p, x_o⟩ trivial rfl
    · refine GoalL.mk0 (by rfl) ?_; rintro f u wq hf ⟨hA, hN, x_p, x_o⟩ hD K hK; have e0 : u 0 = _ := hD.1; have e1 : u 1 = _ := hD.2.1; have e2 : u 2 = _ := hD.2.2.1; have e3 : u 3 = _ := hD.2.2.2.1; clear hD; simp only [put9, e0, e1, e2, e3] at hK ⊢
      refine Closed.mk ?_; go_simp
      exact hK.out _ _ ⟨hA, hN, x_p, x_o⟩ trivial rfl
    · refine GoalL.mk0 (by rfl) ?_; rintro f u wq hf ⟨hA, hN, x_p, x_o⟩ hD K hK; have e0 : u 0 = _ := hD.1; have e1 : u 1 = _ := hD.2.1; have e2 : u 2 = _ := hD.2.2.1; have e3 : u 3 = _ := hD.2.2.2.1; have e4 : u 4 = _ := hD.2.2.2.2.1; clear hD; simp only [put9, e0, e1, e2, e3, e4] at hK ⊢
      refine Closed.mk ?_; go_simp
      exact hK.out _ _ ⟨hA, hN, x_p, x_o⟩ trivial rfl
    · refine GoalL.mk0 (by rfl) ?_; rintro f u wq hf ⟨hA, hN, x_p, x_o⟩ hD K hK; have e0 : u 0 = _ := hD.1; have e1 : u 1 = _ := hD.2.1; have e2 : u 2 = _ := hD.2.2.1; have e3 : u 3 = _ := hD.2.2.2.1; have e4 : u 4 = _ := hD.2.2.2.2.1; have e5 : u 5 = _ := hD.2.2.2.2.2.1; clear hD; simp only [put9, e0, e1, e2, e3, e4, e5] at hK ⊢
      obtain ⟨ko_0, ko_1, ko_2, fo_0, fo_1, fo_2⟩ := box3 x_o; refine Closed.mk ?_; go_simp
      exact hK.out _ _ ⟨hA, hN, x_p, x_o⟩ trivial rfl
    · refine GoalL.mk0 (by rfl) ?_; rintro f u wq hf ⟨hA, hN, x_p, x_o⟩ hD K hK; have e0 : u 0 = _ := hD.1; have e1 : u 1 = _ := hD.2.1; have e2 : u 2 = _ := hD.2.2.1; have e3 : u 3 = _ := hD.2.2.2.1; have e4 : u 4 = _ := hD.2.2.2.2.1; have e5 : u 5 = _ := hD.2.2.2.2.2.1; have e6 : u 6 = _ := hD.2.2.2.2.2.2.1; clear hD; simp only [put9, e0, e1, e2, e3, e4, e5, e6] at hK ⊢
      refine Closed.mk ?_; go_simp
      exact hK.out _ _ ⟨hA, hN, x_p, x_o⟩ trivial rfl
    · refine GoalL.mk0 (by rfl) ?_; rintro f u wq hf ⟨hA, hN, x_p, x_o⟩ hD K hK; have e0 : u 0 = _ := hD.1; have e1 : u 1 = _ := hD.2.1; have e2 : u 2 = _ := hD.2.2.1; have e3 : u 3 = _ := hD.2.2.2.1; have e4 : u 4 = _ := hD.2.2.2.2.1; have e5 : u 5 = _ := hD.2.2.2.2.2.1; have e6 : u 6 = _ := hD.2.2.2.2.2.2.1; have e7 : u 7 = _ := hD.2.2.2.2.2.2.2.1; clear hD; simp only [put9, e0, e1, e2, e3, e4, e5, e6, e7] at hK ⊢
      refine Closed.mk ?_; go_simp
      exact hK.out _ _ ⟨hA, hN, x_p, x_o⟩ trivial rfl
    · refine GoalL.mk0 (by rfl) ?_; rintro f u wq hf ⟨hA, hN, x_p, x_o⟩ hD K hK; have e0 : u 0 = _ := hD.1; have e1 : u 1 = _ := hD.2.1; have e2 : u 2 = _ := hD.2.2.1; have e3 : u 3 = _ := hD.2.2.2.1; have e4 : u 4 = _ := hD.2.2.2.2.1; have e5 : u 5 = _ := hD.2.2.2.2.2.1; have e6 : u 6 = _ := hD.2.2.2.2.2.2.1; have e7 : u 7 = _ := hD.2.2.2.2.2.2.2.1; have e8 : u 8 = _ := hD.2.2.2.2.2.2.2.2.1; clear hD; simp only [put9, e0, e1, e2, e3, e4, e5, e6, e7, e8] at hK ⊢
      refine Closed.mk ?_; go_simp
      exact hK.out _ _ ⟨hA, hN, x_p, x_o⟩ trivial rfl
    · refine GoalL.mk0 (by rfl) ?_; rintro f u wq hf ⟨hA, hN, x_p, x_o⟩ hD K hK; have e0 : u 0 = _ := hD.1; have e1 : u 1 = _ := hD.2.1; have e2 : u 2 = _ := hD.2.2.1; have e3 : u 3 = _ := hD.2.2.2.1; have e4 : u 4 = _ := hD.2.2.2.2.1; have e5 : u 5 = _ := hD.2.2.2.2.2.1; have e6 : u 6 = _ := hD.2.2.2.2.2.2.1; have e7 : u 7 = _ := hD.2.2.2.2.2.2.2.1; have e8 : u 8 = _ := hD.2.2.2.2.2.2.2.2.1; have e9 : u 9 = _ := hD.2.2.2.2.2.2.2.2.2.1; clear hD; simp only [put9, e0, e1, e2, e3, e4, e5, e6, e7, e8, e9] at hK ⊢
      refine Closed.mk ?_; go_simp
      exact hK.out _ _ ⟨hA, hN, x_p, x_o⟩ trivial rfl
    · refine GoalL.mk0 (by rfl) ?_; rintro f u wq hf ⟨hA, hN, x_p, x_o⟩ hD K hK; have e0 : u 0 = _ := hD.1; have e1 : u 1 = _ := hD.2.1; have e2 : u 2 = _ := hD.2.2.1; have e3 : u 3 = _ := hD.2.2.2.1; have e4 : u 4 = _ := hD.2.2.2.2.1; have e5 : u 5 = _ := hD.2.2.2.2.2.1; have e6 : u 6 = _ := hD.2.2.2.2.2.2.1; have e7 : u 7 = _ := hD.2.2.2.2.2.2.2.1; have e8 : u 8 = _ := hD.2.2.2.2.2.2.2.2.1; have e9 : u 9 = _ := hD.2.2.2.2.2.2.2.2.2.1; clear hD; simp only [put9, e0, e1, e2, e3, e4, e5, e6, e7, e8, e9] at hK ⊢
      refine Closed.mk ?_; go_simp
      exact hK.out _ _ ⟨hA, hN, x_p, x_o⟩ trivial rfl
    · refine GoalL.mk0 (by rfl) ?_; rintro f u wq hf ⟨hA, hN, x_p, x_o⟩ hD K hK; have e0 : u 0 = _ := hD.1; have e1 : u 1 = _ := hD.2.1; have e2 : u 2 = _ := hD.2.2.1; have e3 : u 3 = _ := hD.2.2.2.1; have e4 : u 4 = _ := hD.2.2.2.2.1; have e5 : u 5 = _ := hD.2.2.2.2.2.1; have e6 : u 6 = _ := hD.2.2.2.2.2.2.1; have e7 : u 7 = _ := hD.2.2.2.2.2.2.2.1; have e8 : u 8 = _ := hD.2.2.2.2.2.2.2.2.1; have e9 : u 9 = _ := hD.2.2.2.2.2.2.2.2.2.1; clear hD; simp only [put9, e0, e1, e2, e3, e4, e5, e6, e7, e8, e9] at hK ⊢
      refine Closed.mk ?_; go_simp
      exact hK.out _ _ ⟨hA, hN, x_p, x_o⟩ trivial rfl
    · refine GoalL.mk0 (by rfl) ?_; rintro f u wq hf ⟨hA, hN, x_p, x_o⟩ hD K hK; have e0 : u 0 = _ := hD.1; have e1 : u 1 = _ := hD.2.1; have e2 : u 2 = _ := hD.2.2.1; have e3 : u 3 = _ := hD.2.2.2.1; have e4 : u 4 = _ := hD.2.2.2.2.1; have e5 : u 5 = _ := hD.2.2.2.2.2.1; have e6 : u 6 = _ := hD.2.2.2.2.2.2.1; have e7 : u 7 = _ := hD.2.2.2.2.2.2.2.1; have e8 : u 8 = _ := hD.2.2.2.2.2.2.2.2.1; have e9 : u 9 = _ := hD.2.2.2.2.2.2.2.2.2.1; clear hD; simp only [put9, e0, e1, e2, e3, e4, e5, e6, e7, e8, e9] at hK ⊢
      refine Closed.mk ?_; go_simp
      exact hK.out _ _ ⟨hA, hN, x_p, x_o⟩ trivial rfl
    · refine GoalL.mk0 (by rfl) ?_; rintro f u wq hf ⟨hA, hN, x_p, x_o⟩ hD K hK; have e0 : u 0 = _ := hD.1; have e1 : u 1 = _ := hD.2.1; have e2 : u 2 = _ := hD.2.2.1; have e3 : u 3 = _ := hD.2.2.2.1; have e4 : u 4 = _ := hD.2.2.2.2.1; have e5 : u 5 = _ := hD.2.2.2.2.2.1; have e6 : u 6 = _ := hD.2.2.2.2.2.2.1; have e7 : u 7 = _ := hD.2.2.2.2.2.2.2.1; have e8 : u 8 = _ := hD.2.2.2.2.2.2.2.2.1; have e9 : u 9 = _ := hD.2.2.2.2.2.2.2.2.2.1; clear hD; simp only [put9, e0, e1, e2, e3, e4, e5, e6, e7, e8, e9] at hK ⊢
      refine Closed.mk ?_; go_simp
      exact hK.out _ _ ⟨hA, hN, x_p, x_o⟩ trivial rfl
    · refine GoalL.mk0 (by rfl) ?_; rintro f u wq hf ⟨hA, hN, x_p, x_o⟩ hD K hK; have e0 : u 0 = _ := hD.1; have e1 : u 1 = _ := hD.2.1; have e2 : u 2 = _ := hD.2.2.1; have e3 : u 3 = _ := hD.2.2.2.1; have e4 : u 4 = _ := hD.2.2.2.2.1; have e5 : u 5 = _ := hD.2.2.2.2.2.1; have e6 : u 6 = _ := hD.2.2.2.2.2.2.1; have e7 : u 7 = _ := hD.2.2.2.2.2.2.2.1; have e8 : u 8 = _ := hD.2.2.2.2.2.2.2.2.1; have e9 : u 9 = _ := hD.2.2.2.2.2.2.2.2.2.1; clear hD; simp only [put9, e0, e1, e2, e3, e4, e5, e6, e7, e8, e9] at hK ⊢
      refine Closed.mk ?_; go_simp
      exact hK.out _ _ ⟨hA, hN, x_p, x_o⟩ trivial rfl
    · refine GoalL.mk0 (by rfl) ?_; rintro f u wq hf ⟨hA, hN, x_p, x_o⟩ hD K hK; have e0 : u 0 = _ := hD.1; have e1 : u 1 = _ := hD.2.1; have e2 : u 2 = _ := hD.2.2.1; have e3 : u 3 = _ := hD.2.2.2.1; have e4 : u 4 = _ := hD.2.2.2.2.1; have e5 : u 5 = _ := hD.2.2.2.2.2.1; have e6 : u 6 = _ := hD.2.2.2.2.2.2.1; have e7 : u 7 = _ := hD.2.2.2.2.2.2.2.1; have e8 : u 8 = _ := hD.2.2.2.2.2.2.2.2.1; have e9 : u 9 = _ := hD.2.2.2.2.2.2.2.2.2.1; clear hD; simp only [put9, e0, e1, e2, e3, e4, e5, e6, e7, e8, e9] at hK ⊢
      refine Closed.mk ?_; go_simp
      exact hK.out _ _ ⟨hA, hN, x_p, x_o⟩ trivial rfl
    · refine GoalL.mk0 (by rfl) ?_; rintro f u wq hf ⟨hA, hN, x_p, x_o⟩ hD K hK; have e0 : u 0 = _ := hD.1; have e1 : u 1 = _ := hD.2.1; have e2 : u 2 = _ := hD.2.2.1; have e3 : u 3 = _ := hD.2.2.2.1; have e4 : u 4 = _ := hD.2.2.2.2.1; have e5 : u 5 = _ := hD.2.2.2.2.2.1; have e6 : u 6 = _ := hD.2.2.2.2.2.2.1; have e7 : u 7 = _ := hD.2.2.2.2.2.2.2.1; have e8 : u 8 = _ := hD.2.2.2.2.2.2.2.2.1; have e9 : u 9 = _ := hD.2.2.2.2.2.2.2.2.2.1; have e16 : u 16 = _ := hD.2.2.2.2.2.2.2.2.2.2.1; clear hD; simp only [put9, e0, e1, e2, e3, e4, e5, e6, e7, e8, e9, e16] at hK ⊢
      refine Closed.mk ?_; go_simp
      exact hK.out _ _ ⟨hA, hN, x_p, x_o⟩ trivial rfl
    intro u w1 hC hD
    have hA := hC.1; have hN := hC.2.1; have x_p := hC.2.2.1; have x_o := hC.2.2.2; clear hC
    have e0 : u 0 = _ := hD.1; have e1 : u 1 = _ := hD.2.1; have e2 : u 2 = _ := hD.2.2.1; have e3 : u 3 = _ := hD.2.2.2.1; have e4 : u 4 = _ := hD.2.2.2.2.1; have e5 : u 5 = _ := hD.2.2.2.2.2.1; have e6 : u 6 = _ := hD.2.2.2.2.2.2.1; have e7 : u 7 = _ := hD.2.2.2.2.2.2.2.1; have e8 : u 8 = _ := hD.2.2.2.2.2.2.2.2.1; have e9 : u 9 = _ := hD.2.2.2.2.2.2.2.2.2.1; have e10 : u 10 = _ := hD.2.2.2.2.2.2.2.2.2.2.1; have e11 : u 11 = _ := hD.2.2.2.2.2.2.2.2.2.2.2.1; have e12 : u 12 = _ := hD.2.2.2.2.2.2.2.2.2.2.2.2.1; have e13 : u 13 = _ := hD.2.2.2.2.2.2.2.2.2.2.2.2.2.1; have e14 : u 14 = _ := hD.2.2.2.2.2.2.2.2.2.2.2.2.2.2.1; have e15 : u 15 = _ := hD.2.2.2.2.2.2.2.2.2.2.2.2.2.2.2.1; have e16 : u 16 = _ := hD.2.2.2.2.2.2.2.2.2.2.2.2.2.2.2.2.1; have e17 : u 17 = _ := hD.2.2.2.2.2.2.2.2.2.2.2.2.2.2.2.2.2.1; clear hD
    have B1 := Lib.hid hA; have N1 := hN; have S1 := hA.size
    have Xp_1 := Lib.hid x_p; clear x_p
    have Xo_1 := Lib.hid x_o; clear x_o
    obtain ⟨cp1_0, cp1_1, cp1_2, cp1_3, cp1_4, fp1_0, fp1_1, fp1_2, fp1_3, fp1_4⟩ := box5 Xp_1.out; have lp1 := heap_lt Xp_1.out
    obtain ⟨co1_0, co1_1, co1_2, fo1_0, fo1_1, fo1_2⟩ := box3 Xo_1.out; have lo1 := heap_lt Xo_1.out
    clear hA hN
    simp only [put9, e0, e1, e2, e3, e4, e5, e6, e7, e8, e9, e10, e11, e12, e13, e14, e15, e16, e17]
    refine Closed.mk (wpAnyH_done (by kernel_rfl) ?_ _)
    go_wp2
    go_ret
    exact ⟨ret_bool (opB_no (hN on ag (by omega))).symm, B1.out⟩
set_option maxRecDepth 100000 in
set_option maxHeartbeats 8000000 in
theorem sOpValid_0 (v : Value) (c : ProgD) (k : Int) (on ag : Int) (w : World) (h : ProgRow w v c) (hk : ¬ (1 ≤ k ∧ k ≤ 10)) :
    Calls Tryd.prog 13 #[v, .agg #[.int .i64 k, .int .i64 on, .int .i64 ag]] w fun e w' => e = .returned (.bool (opB c (k, on, ag))) ∧ Below w.heap.size w w' := by
  have HR := Lib.hid h
  obtain ⟨a0, p0, a1, p1, a2, p2, a3, p3, a4, p4, rfl, -, -, -, -, -⟩ := h
  go_enter Tryd.func13, Tryd.ntmps13
  go_wp2_with (fail)
  have hN0 : w.heap.size + 2 ≤ ((w.alloc (.cells #[.slice a0 c.sems.length p0, .slice a1 c.groups.length p1, .slice a2 c.barriers.length p2, .slice a3 c.rooms.length p3, .slice a4 c.threads.length p4] 34)).alloc (.cells #[.int .i64 k, .int .i64 on, .int .i64 ag] 23)).heap.size := (by first | omega | (simp only [szA, szS, szD, World.heap_drewN] at * <;> omega))
  refine wp_region_L [⟨0, false, [], fun _ v _ => v = .pointer (some ⟨w.heap.size + 1, 0, none⟩)⟩, ⟨1, false, [0], fun _ v _ => v = .int .i64 k⟩, ⟨2, false, [0, 1], fun _ v _ => v = .string ⟨#[]⟩⟩, ⟨3, false, [0, 1, 2], fun _ v _ => v = .bool true⟩, ⟨4, false, [0, 1, 2, 3], fun _ v _ => v = .bool true⟩, ⟨5, false, [0, 1, 2, 3, 4], fun _ v _ => v = undef⟩, ⟨6, false, [0, 1, 2, 3, 4], fun _ v _ => v = undef⟩, ⟨7, false, [0, 1, 2, 3, 4], fun _ v _ => v = undef⟩, ⟨8, false, [0, 1, 2, 3, 4, 7], fun _ v _ => v = .bool true⟩, ⟨9, false, [0, 1, 2, 3, 4, 7, 8], fun _ v _ => v = .bool true⟩, ⟨10, false, [0, 1, 2, 3, 4, 7, 8, 9], fun _ v _ => v = undef⟩, ⟨11, false, [0, 1, 2, 3, 4, 7, 8, 9], fun _ v _ => v = undef⟩, ⟨12, false, [0, 1, 2, 3, 4, 7, 8, 9], fun _ v _ => v = undef⟩, ⟨13, false, [0, 1, 2, 3, 4, 7, 8, 9], fun _ v _ => v = undef⟩, ⟨14, false, [0, 1, 2, 3, 4, 7, 8, 9], fun _ v _ => v = undef⟩, ⟨15, false, [0, 1, 2, 3, 4, 7, 8, 9], fun _ v _ => v = undef⟩, ⟨16, false, [0, 1, 2, 3, 4, 7, 8, 9], fun _ v _ => v = undef⟩, ⟨17, false, [0, 1, 2, 3, 4, 7, 8, 9, 16], fun _ v _ => v = .bool true⟩] [(0, some 5), (1, some 6), (2, some 7), (3, some 8), (4, some 9), (5, some 10), (6, some 11), (7, some 12), (8, some 13), (9, some 14), (10, some 15), (11, some 16), (12, some 17), (13, some 18), (14, some 19), (15, some 20), (16, some 21), (17, some 22)] (fun _ w' => Below w.heap.size w w' ∧ w.heap.size + 2 ≤ w'.heap.size ∧ w'.heap[w.heap.size]? = some (.cells #[.slice a0 c.sems.length p0, .slice a1 c.groups.length p1, .slice a2 c.barriers.length p2, .slice a3 c.rooms.length p3, .slice a4 c.threads.length p4] 34 (0, 0)) ∧ w'.heap[w.heap.size + 1]? = some (.cells #[.int .i64 k, .int .i64 on, .int .i64 ag] 23 (0, 0))) (fun _ _ _ => True) (by kernel_rfl) (by rfl) (by kernel_rfl) (by kernel_rfl) ⟨((Below.alloc (Below.alloc (Below.refl _ _) (by first | omega | (simp only [szA, szS, szD, World.heap_drewN] at * <;> omega)) _) (by first | omega | (simp only [szA, szS, szD, World.heap_drewN] at * <;> omega)) _)).drew, hN0, (heap_drew (heap_up (heap_at' (n := w.heap.size) (by first | omega | (simp only [szA, szS, szD, World.heap_drewN] at * <;> omega))))), (heap_drew (heap_at' (n := w.heap.size + 1) (by first | omega | (simp only [szA, szS, szD, World.heap_drewN] at * <;> omega))))⟩ (GoalsL.cons ?_ (GoalsL.cons ?_ (GoalsL.cons ?_ (GoalsL.cons ?_ (GoalsL.cons ?_ (GoalsL.cons ?_ (GoalsL.cons ?_ (GoalsL.cons ?_ (GoalsL.cons ?_ (GoalsL.cons ?_ (GoalsL.cons ?_ (GoalsL.cons ?_ (GoalsL.cons ?_ (GoalsL.cons ?_ (GoalsL.cons ?_ (GoalsL.cons ?_ (GoalsL.cons ?_ (GoalsL.cons ?_ (GoalsL.nil))))))))))))))))))) ?_
  · refine GoalL.mk0 (by rfl) ?_; rintro f u wq hf ⟨hA, hN, x_p, x_o⟩ hD K hK; clear hD; simp only [put9] at hK ⊢
    refine Closed.mk ?_; go_simp
    exact hK.out _ _ ⟨hA, hN, x_p, x_o⟩ trivial rfl
  · refine GoalL.mk0 (by rfl) ?_; rintro f u wq hf ⟨hA, hN, x_p, x_o⟩ hD K hK; have e0 : u 0 = _ := hD.1; clear hD; simp only [put9, e0] at hK ⊢
    obtain ⟨ko_0, ko_1, ko_2, fo_0, fo_1, fo_2⟩ := box3 x_o; refine Closed.mk ?_; go_simp
    exact hK.out _ _ ⟨hA, hN, x_p, x_o⟩ trivial rfl
  · refine GoalL.mk0 (by rfl) ?_; rintro f u wq hf ⟨hA, hN, x_p, x_o⟩ hD K hK; have e0 : u 0 = _ := hD.1; have e1 : u 1 = _ := hD.2.1; clear hD; simp only [put9, e0, e1] at hK ⊢
    refine Closed.mk ?_; go_simp
    refine (l6Word_0 k _ hk).mono ?_
    rintro e wr ⟨rfl, hb⟩
    exact hK.out _ _ ⟨Below.trans hA (hb.mono hA.size), Nat.le_trans hN hb.size, (below_at hb x_p), (below_at hb x_o)⟩ trivial rfl
  · refine GoalL.mk0 (by rfl) ?_; rintro f u wq hf ⟨hA, hN, x_p, x_o⟩ hD K hK; have e0 : u 0 = _ := hD.1; have e1 : u 1 = _ := hD.2.1; have e2 : u 2 = _ := hD.2.2.1; clear hD; simp only [put9, e0, e1, e2] at hK ⊢
    refine Closed.mk ?_; go_simp
    exact hK.out _ _ ⟨hA, hN, x_p, x_o⟩ trivial rfl
  · refine GoalL.mk0 (by rfl) ?_; rintro f u wq hf ⟨hA, hN, x_p, x_o⟩ hD K hK; have e0 : u 0 = _ := hD.1; have e1 : u 1 = _ := hD.2.1; have e2 : u 2 = _ := hD.2.2.1; have e3 : u 3 = _ := hD.2.2.2.1; clear hD; simp only [put9, e0, e1, e2, e3] at hK ⊢
    refine Closed.mk ?_; go_simp
    exact hK.out _ _ ⟨hA, hN, x_p, x_o⟩ trivial rfl
  · refine GoalL.mk0 (by rfl) ?_; rintro f u wq hf ⟨hA, hN, x_p, x_o⟩ hD K hK; have e0 : u 0 = _ := hD.1; have e1 : u 1 = _ := hD.2.1; have e2 : u 2 = _ := hD.2.2.1; have e3 : u 3 = _ := hD.2.2.2.1; have e4 : u 4 = _ := hD.2.2.2.2.1; clear hD; simp only [put9, e0, e1, e2, e3, e4] at hK ⊢
    refine Closed.mk ?_; go_simp
    exact hK.out _ _ ⟨hA, hN, x_p, x_o⟩ trivial rfl
  · refine GoalL.mk0 (by rfl) ?_; rintro f u wq hf ⟨hA, hN, x_p, x_o⟩ hD K hK; have e0 : u 0 = _ := hD.1; have e1 : u 1 = _ := hD.2.1; have e2 : u 2 = _ := hD.2.2.1; have e3 : u 3 = _ := hD.2.2.2.1; have e4 : u 4 = _ := hD.2.2.2.2.1; clear hD; simp only [put9, e0, e1, e2, e3, e4] at hK ⊢
    refine Closed.mk ?_; go_simp
    exact hK.out _ _ ⟨hA, hN, x_p, x_o⟩ trivial rfl
  · refine GoalL.mk0 (by rfl) ?_; rintro f u wq hf ⟨hA, hN, x_p, x_o⟩ hD K hK; have e0 : u 0 = _ := hD.1; have e1 : u 1 = _ := hD.2.1; have e2 : u 2 = _ := hD.2.2.1; have e3 : u 3 = _ := hD.2.2.2.1; have e4 : u 4 = _ := hD.2.2.2.2.1; clear hD; simp only [put9, e0, e1, e2, e3, e4] at hK ⊢
    refine Closed.mk ?_; go_simp
    exact hK.out _ _ ⟨hA, hN, x_p, x_o⟩ trivial rfl
  · refine GoalL.mk0 (by rfl) ?_; rintro f u wq hf ⟨hA, hN, x_p, x_o⟩ hD K hK; have e0 : u 0 = _ := hD.1; have e1 : u 1 = _ := hD.2.1; have e2 : u 2 = _ := hD.2.2.1; have e3 : u 3 = _ := hD.2.2.2.1; have e4 : u 4 = _ := hD.2.2.2.2.1; have e7 : u 7 = _ := hD.2.2.2.2.2.1; clear hD; simp only [put9, e0, e1, e2, e3, e4, e7] at hK ⊢
    refine Closed.mk ?_; go_simp
    exact hK.out _ _ ⟨hA, hN, x_p, x_o⟩ trivial rfl
  · refine GoalL.mk0 (by rfl) ?_; rintro f u wq hf ⟨hA, hN, x_p, x_o⟩ hD K hK; have e0 : u 0 = _ := hD.1; have e1 : u 1 = _ := hD.2.1; have e2 : u 2 = _ := hD.2.2.1; have e3 : u 3 = _ := hD.2.2.2.1; have e4 : u 4 = _ := hD.2.2.2.2.1; have e7 : u 7 = _ := hD.2.2.2.2.2.1; have e8 : u 8 = _ := hD.2.2.2.2.2.2.1; clear hD; simp only [put9, e0, e1, e2, e3, e4, e7, e8] at hK ⊢
    refine Closed.mk ?_; go_simp
    exact hK.out _ _ ⟨hA, hN, x_p, x_o⟩ trivial rfl
  · refine GoalL.mk0 (by rfl) ?_; rintro f u wq hf ⟨hA, hN, x_p, x_o⟩ hD K hK; have e0 : u 0 = _ := hD.1; have e1 : u 1 = _ := hD.2.1; have e2 : u 2 = _ := hD.2.2.1; have e3 : u 3 = _ := hD.2.2.2.1; have e4 : u 4 = _ := hD.2.2.2.2.1; have e7 : u 7 = _ := hD.2.2.2.2.2.1; have e8 : u 8 = _ := hD.2.2.2.2.2.2.1; have e9 : u 9 = _ := hD.2.2.2.2.2.2.2.1; clear hD; simp only [put9, e0, e1, e2, e3, e4, e7, e8, e9] at hK ⊢
    refine Closed.mk ?_; go_simp
    exact hK.out _ _ ⟨hA, hN, x_p, x_o⟩ trivial rfl
  · refine GoalL.mk0 (by rfl) ?_; rintro f u wq hf ⟨hA, hN, x_p, x_o⟩ hD K hK; have e0 : u 0 = _ := hD.1; have e1 : u 1 = _ := hD.2.1; have e2 : u 2 = _ := hD.2.2.1; have e3 : u 3 = _ := hD.2.2.2.1; have e4 : u 4 = _ := hD.2.2.2.2.1; have e7 : u 7 = _ := hD.2.2.2.2.2.1; have e8 : u 8 = _ := hD.2.2.2.2.2.2.1; have e9 : u 9 = _ := hD.2.2.2.2.2.2.2.1; clear hD; simp only [put9, e0, e1, e2, e3, e4, e7, e8, e9] at hK ⊢
    refine Closed.mk ?_; go_simp
    exact hK.out _ _ ⟨hA, hN, x_p, x_o⟩ trivial rfl
  · refine GoalL.mk0 (by rfl) ?_; rintro f u wq hf ⟨hA, hN, x_p, x_o⟩ hD K hK; have e0 : u 0 = _ := hD.1; have e1 : u 1 = _ := hD.2.1; have e2 : u 2 = _ := hD.2.2.1; have e3 : u 3 = _ := hD.2.2.2.1; have e4 : u 4 = _ := hD.2.2.2.2.1; have e7 : u 7 = _ := hD.2.2.2.2.2.1; have e8 : u 8 = _ := hD.2.2.2.2.2.2.1; have e9 : u 9 = _ := hD.2.2.2.2.2.2.2.1; clear hD; simp only [put9, e0, e1, e2, e3, e4, e7, e8, e9] at hK ⊢
    refine Closed.mk ?_; go_simp
    exact hK.out _ _ ⟨hA, hN, x_p, x_o⟩ trivial rfl
  · refine GoalL.mk0 (by rfl) ?_; rintro f u wq hf ⟨hA, hN, x_p, x_o⟩ hD K hK; have e0 : u 0 = _ := hD.1; have e1 : u 1 = _ := hD.2.1; have e2 : u 2 = _ := hD.2.2.1; have e3 : u 3 = _ := hD.2.2.2.1; have e4 : u 4 = _ := hD.2.2.2.2.1; have e7 : u 7 = _ := hD.2.2.2.2.2.1; have e8 : u 8 = _ := hD.2.2.2.2.2.2.1; have e9 : u 9 = _ := hD.2.2.2.2.2.2.2.1; clear hD; simp only [put9, e0, e1, e2, e3, e4, e7, e8, e9] at hK ⊢
    refine Closed.mk ?_; go_simp
    exact hK.out _ _ ⟨hA, hN, x_p, x_o⟩ trivial rfl
  · refine GoalL.mk0 (by rfl) ?_; rintro f u wq hf ⟨hA, hN, x_p, x_o⟩ hD K hK; have e0 : u 0 = _ := hD.1; have e1 : u 1 = _ := hD.2.1; have e2 : u 2 = _ := hD.2.2.1; have e3 : u 3 = _ := hD.2.2.2.1; have e4 : u 4 = _ := hD.2.2.2.2.1; have e7 : u 7 = _ := hD.2.2.2.2.2.1; have e8 : u 8 = _ := hD.2.2.2.2.2.2.1; have e9 : u 9 = _ := hD.2.2.2.2.2.2.2.1; clear hD; simp only [put9, e0, e1, e2, e3, e4, e7, e8, e9] at hK ⊢
    refine Closed.mk ?_; go_simp
    exact hK.out _ _ ⟨hA, hN, x_p, x_o⟩ trivial rfl
  · refine GoalL.mk0 (by rfl) ?_; rintro f u wq hf ⟨hA, hN, x_p, x_o⟩ hD K hK; have e0 : u 0 = _ := hD.1; have e1 : u 1 = _ := hD.2.1; have e2 : u 2 = _ := hD.2.2.1; have e3 : u 3 = _ := hD.2.2.2.1; have e4 : u 4 = _ := hD.2.2.2.2.1; have e7 : u 7 = _ := hD.2.2.2.2.2.1; have e8 : u 8 = _ := hD.2.2.2.2.2.2.1; have e9 : u 9 = _ := hD.2.2.2.2.2.2.2.1; clear hD; simp only [put9, e0, e1, e2, e3, e4, e7, e8, e9] at hK ⊢
    refine Closed.mk ?_; go_simp
    exact hK.out _ _ ⟨hA, hN, x_p, x_o⟩ trivial rfl
  · refine GoalL.mk0 (by rfl) ?_; rintro f u wq hf ⟨hA, hN, x_p, x_o⟩ hD K hK; have e0 : u 0 = _ := hD.1; have e1 : u 1 = _ := hD.2.1; have e2 : u 2 = _ := hD.2.2.1; have e3 : u 3 = _ := hD.2.2.2.1; have e4 : u 4 = _ := hD.2.2.2.2.1; have e7 : u 7 = _ := hD.2.2.2.2.2.1; have e8 : u 8 = _ := hD.2.2.2.2.2.2.1; have e9 : u 9 = _ := hD.2.2.2.2.2.2.2.1; clear hD; simp only [put9, e0, e1, e2, e3, e4, e7, e8, e9] at hK ⊢
    refine Closed.mk ?_; go_simp
    exact hK.out _ _ ⟨hA, hN, x_p, x_o⟩ trivial rfl
  · refine GoalL.mk0 (by rfl) ?_; rintro f u wq hf ⟨hA, hN, x_p, x_o⟩ hD K hK; have e0 : u 0 = _ := hD.1; have e1 : u 1 = _ := hD.2.1; have e2 : u 2 = _ := hD.2.2.1; have e3 : u 3 = _ := hD.2.2.2.1; have e4 : u 4 = _ := hD.2.2.2.2.1; have e7 : u 7 = _ := hD.2.2.2.2.2.1; have e8 : u 8 = _ := hD.2.2.2.2.2.2.1; have e9 : u 9 = _ := hD.2.2.2.2.2.2.2.1; have e16 : u 16 = _ := hD.2.2.2.2.2.2.2.2.1; clear hD; simp only [put9, e0, e1, e2, e3, e4, e7, e8, e9, e16] at hK ⊢
    refine Closed.mk ?_; go_simp
    exact hK.out _ _ ⟨hA, hN, x_p, x_o⟩ trivial rfl
  intro u w1 hC hD
  have hA := hC.1; have hN := hC.2.1; have x_p := hC.2.2.1; have x_o := hC.2.2.2; clear hC
  have e0 : u 0 = _ := hD.1; have e1 : u 1 = _ := hD.2.1; have e2 : u 2 = _ := hD.2.2.1; have e3 : u 3 = _ := hD.2.2.2.1; have e4 : u 4 = _ := hD.2.2.2.2.1; have e5 : u 5 = _ := hD.2.2.2.2.2.1; have e6 : u 6 = _ := hD.2.2.2.2.2.2.1; have e7 : u 7 = _ := hD.2.2.2.2.2.2.2.1; have e8 : u 8 = _ := hD.2.2.2.2.2.2.2.2.1; have e9 : u 9 = _ := hD.2.2.2.2.2.2.2.2.2.1; have e10 : u 10 = _ := hD.2.2.2.2.2.2.2.2.2.2.1; have e11 : u 11 = _ := hD.2.2.2.2.2.2.2.2.2.2.2.1; have e12 : u 12 = _ := hD.2.2.2.2.2.2.2.2.2.2.2.2.1; have e13 : u 13 = _ := hD.2.2.2.2.2.2.2.2.2.2.2.2.2.1; have e14 : u 14 = _ := hD.2.2.2.2.2.2.2.2.2.2.2.2.2.2.1; have e15 : u 15 = _ := hD.2.2.2.2.2.2.2.2.2.2.2.2.2.2.2.1; have e16 : u 16 = _ := hD.2.2.2.2.2.2.2.2.2.2.2.2.2.2.2.2.1; have e17 : u 17 = _ := hD.2.2.2.2.2.2.2.2.2.2.2.2.2.2.2.2.2.1; clear hD
  have B1 := Lib.hid hA; have N1 := hN; have S1 := hA.size
  have Xp_1 := Lib.hid x_p; clear x_p
  have Xo_1 := Lib.hid x_o; clear x_o
  obtain ⟨cp1_0, cp1_1, cp1_2, cp1_3, cp1_4, fp1_0, fp1_1, fp1_2, fp1_3, fp1_4⟩ := box5 Xp_1.out; have lp1 := heap_lt Xp_1.out
  obtain ⟨co1_0, co1_1, co1_2, fo1_0, fo1_1, fo1_2⟩ := box3 Xo_1.out; have lo1 := heap_lt Xo_1.out
  clear hA hN
  simp only [put9, e0, e1, e2, e3, e4, e5, e6, e7, e8, e9, e10, e11, e12, e13, e14, e15, e16, e17]
  refine Closed.mk (wpAnyH_done (by kernel_rfl) ?_ _)
  go_wp2
  go_ret
  exact ⟨ret_bool (Eq.symm (by first | exact opB_no (by unfold OpOk Val; dsimp only; omega))), B1.out⟩
theorem sOpValid_1 (v : Value) (c : ProgD) (on ag : Int) (w : World) (h : ProgRow w v c) :
    Calls Tryd.prog 13 #[v, .agg #[.int .i64 1, .int .i64 on, .int .i64 ag]] w fun e w' => e = .returned (.bool (opB c (1, on, ag))) ∧ Below w.heap.size w w' :=
  sOpValid_gen v c 1 1 ⟨#[115, 97, 121]⟩ on ag w h (by first | decide | rfl | (simp; done) | go_simp) (fun w => l6Word_1 w) (fun v _ w h => l6Shared_1 v c w h) (fun v _ on ag w h ho => l6Arg_1 v c on ag w h ho) (fun on ag hn e => hn (by unfold OpOk at e; dsimp only at e; omega))
theorem sOpValid_2 (v : Value) (c : ProgD) (on ag : Int) (w : World) (h : ProgRow w v c) :
    Calls Tryd.prog 13 #[v, .agg #[.int .i64 2, .int .i64 on, .int .i64 ag]] w fun e w' => e = .returned (.bool (opB c (2, on, ag))) ∧ Below w.heap.size w w' :=
  sOpValid_gen v c 2 (c.sems.length : Int) ⟨#[97, 99, 113, 117, 105, 114, 101]⟩ on ag w h (by first | decide | rfl | (simp; done) | go_simp) (fun w => l6Word_2 w) (fun v _ w h => l6Shared_2 v c w h) (fun v _ on ag w h ho => l6Arg_2 v c on ag w h ho) (fun on ag hn e => hn (by unfold OpOk at e; dsimp only at e; omega))
theorem sOpValid_3 (v : Value) (c : ProgD) (on ag : Int) (w : World) (h : ProgRow w v c) :
    Calls Tryd.prog 13 #[v, .agg #[.int .i64 3, .int .i64 on, .int .i64 ag]] w fun e w' => e = .returned (.bool (opB c (3, on, ag))) ∧ Below w.heap.size w w' :=
  sOpValid_gen v c 3 (c.sems.length : Int) ⟨#[114, 101, 108, 101, 97, 115, 101]⟩ on ag w h (by first | decide | rfl | (simp; done) | go_simp) (fun w => l6Word_3 w) (fun v _ w h => l6Shared_3 v c w h) (fun v _ on ag w h ho => l6Arg_3 v c on ag w h ho) (fun on ag hn e => hn (by unfold OpOk at e; dsimp only at e; omega))
theorem sOpValid_4 (v : Value) (c : ProgD) (on ag : Int) (w : World) (h : ProgRow w v c) :
    Calls Tryd.prog 13 #[v, .agg #[.int .i64 4, .int .i64 on, .int .i64 ag]] w fun e w' => e = .returned (.bool (opB c (4, on, ag))) ∧ Below w.heap.size w w' :=
  sOpValid_gen v c 4 3 ⟨#[111, 110, 99, 101]⟩ on ag w h (by first | decide | rfl | (simp; done) | go_simp) (fun w => l6Word_4 w) (fun v _ w h => l6Shared_4 v c w h) (fun v _ on ag w h ho => l6Arg_4 v c on ag w h ho) (fun on ag hn e => hn (by unfold OpOk at e; dsimp only at e; omega))
theorem sOpValid_5 (v : Value) (c : ProgD) (on ag : Int) (w : World) (h : ProgRow w v c) :
    Calls Tryd.prog 13 #[v, .agg #[.int .i64 5, .int .i64 on, .int .i64 ag]] w fun e w' => e = .returned (.bool (opB c (5, on, ag))) ∧ Below w.heap.size w w' :=
  sOpValid_gen v c 5 (c.groups.length : Int) ⟨#[97, 100, 100]⟩ on ag w h (by first | decide | rfl | (simp; done) | go_simp) (fun w => l6Word_5 w) (fun v _ w h => l6Shared_5 v c w h) (fun v _ on ag w h ho => l6Arg_5 v c on ag w h ho) (fun on ag hn e => hn (by unfold OpOk at e; dsimp only at e; omega))
theorem sOpValid_6 (v : Value) (c : ProgD) (on ag : Int) (w : World) (h : ProgRow w v c) :
    Calls Tryd.prog 13 #[v, .agg #[.int .i64 6, .int .i64 on, .int .i64 ag]] w fun e w' => e = .returned (.bool (opB c (6, on, ag))) ∧ Below w.heap.size w w' :=
  sOpValid_gen v c 6 (c.groups.length : Int) ⟨#[119, 97, 105, 116]⟩ on ag w h (by first | decide | rfl | (simp; done) | go_simp) (fun w => l6Word_6 w) (fun v _ w h => l6Shared_6 v c w h) (fun v _ on ag w h ho => l6Arg_6 v c on ag w h ho) (fun on ag hn e => hn (by unfold OpOk at e; dsimp only at e; omega))
theorem sOpValid_7 (v : Value) (c : ProgD) (on ag : Int) (w : World) (h : ProgRow w v c) :
    Calls Tryd.prog 13 #[v, .agg #[.int .i64 7, .int .i64 on, .int .i64 ag]] w fun e w' => e = .returned (.bool (opB c (7, on, ag))) ∧ Below w.heap.size w w' :=
  sOpValid_gen v c 7 (c.barriers.length : Int) ⟨#[97, 114, 114, 105, 118, 101]⟩ on ag w h (by first | decide | rfl | (simp; done) | go_simp) (fun w => l6Word_7 w) (fun v _ w h => l6Shared_7 v c w h) (fun v _ on ag w h ho => l6Arg_7 v c on ag w h ho) (fun on ag hn e => hn (by unfold OpOk at e; dsimp only at e; omega))
theorem sOpValid_8 (v : Value) (c : ProgD) (on ag : Int) (w : World) (h : ProgRow w v c) :
    Calls Tryd.prog 13 #[v, .agg #[.int .i64 8, .int .i64 on, .int .i64 ag]] w fun e w' => e = .returned (.bool (opB c (8, on, ag))) ∧ Below w.heap.size w w' :=
  sOpValid_gen v c 8 (c.rooms.length : Int) ⟨#[115, 101, 110, 100]⟩ on ag w h (by first | decide | rfl | (simp; done) | go_simp) (fun w => l6Word_8 w) (fun v _ w h => l6Shared_8 v c w h) (fun v _ on ag w h ho => l6Arg_8 v c on ag w h ho) (fun on ag hn e => hn (by unfold OpOk at e; dsimp only at e; omega))
theorem sOpValid_9 (v : Value) (c : ProgD) (on ag : Int) (w : World) (h : ProgRow w v c) :
    Calls Tryd.prog 13 #[v, .agg #[.int .i64 9, .int .i64 on, .int .i64 ag]] w fun e w' => e = .returned (.bool (opB c (9, on, ag))) ∧ Below w.heap.size w w' :=
  sOpValid_gen v c 9 (c.rooms.length : Int) ⟨#[103, 101, 116]⟩ on ag w h (by first | decide | rfl | (simp; done) | go_simp) (fun w => l6Word_9 w) (fun v _ w h => l6Shared_9 v c w h) (fun v _ on ag w h ho => l6Arg_9 v c on ag w h ho) (fun on ag hn e => hn (by unfold OpOk at e; dsimp only at e; omega))
theorem sOpValid_10 (v : Value) (c : ProgD) (on ag : Int) (w : World) (h : ProgRow w v c) :
    Calls Tryd.prog 13 #[v, .agg #[.int .i64 10, .int .i64 on, .int .i64 ag]] w fun e w' => e = .returned (.bool (opB c (10, on, ag))) ∧ Below w.heap.size w w' :=
  sOpValid_gen v c 10 (c.rooms.length : Int) ⟨#[99, 108, 111, 115, 101]⟩ on ag w h (by first | decide | rfl | (simp; done) | go_simp) (fun w => l6Word_10 w) (fun v _ w h => l6Shared_10 v c w h) (fun v _ on ag w h ho => l6Arg_10 v c on ag w h ho) (fun on ag hn e => hn (by unfold OpOk at e; dsimp only at e; omega))
theorem sOpValidO (v : Value) (c : ProgD) (x : OpT) (w : World) (h : ProgRow w v c) :
    Calls Tryd.prog 13 #[v, opv x] w fun e w' => e = .returned (.bool (opB c x)) ∧ Below w.heap.size w w' := by
  obtain ⟨k, on, ag⟩ := x
  by_cases h1 : k = 1
  · subst h1; exact sOpValid_1 v c on ag w h
  by_cases h2 : k = 2
  · subst h2; exact sOpValid_2 v c on ag w h
  by_cases h3 : k = 3
  · subst h3; exact sOpValid_3 v c on ag w h
  by_cases h4 : k = 4
  · subst h4; exact sOpValid_4 v c on ag w h
  by_cases h5 : k = 5
  · subst h5; exact sOpValid_5 v c on ag w h
  by_cases h6 : k = 6
  · subst h6; exact sOpValid_6 v c on ag w h
  by_cases h7 : k = 7
  · subst h7; exact sOpValid_7 v c on ag w h
  by_cases h8 : k = 8
  · subst h8; exact sOpValid_8 v c on ag w h
  by_cases h9 : k = 9
  · subst h9; exact sOpValid_9 v c on ag w h
  by_cases h10 : k = 10
  · subst h10; exact sOpValid_10 v c on ag w h
  exact sOpValid_0 v c k on ag w h (by omega)
end Go.Proofs.YthbnbofoefdneaaDoor
