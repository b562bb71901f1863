/- spec.FormatProg returns a text (made by gen_fmtprog.py). -/
import Derived.Test.YthbnbofoefdneaaDoorListS
import Derived.Test.YthbnbofoefdneaaDoorProgValidS
import Derived.Test.YthbnbofoefdneaaDoorG1
namespace Go.Proofs.YthbnbofoefdneaaDoor
open Go.RowKit
set_option linter.unusedSimpArgs false
set_option linter.unusedVariables false
theorem getD_le {xs : List Int} (h : ∀ x ∈ xs, 1 ≤ x ∧ x ≤ 9) (i : Nat) : xs.getD i 0 ≤ 9 := by
  rw [List.getD_eq_getElem?_getD]
  cases hx : xs[i]? with
  | none => simp
  | some x => have := h x (get_mem hx); simp; omega
theorem opOk_inB {c : ProgD} {x : OpT} (h : OpOk c x) (g0 : InOk 1 9 c.sems) (g1 : InOk 0 9 c.groups) (g2 : InOk 1 6 c.barriers) (g3 : InOk 0 4 c.rooms) : InB x.2.1 ∧ InB x.2.2 := by
  have h1 := g0.1
  have h2 := g1.1
  have h3 := g2.1
  have h4 := g3.1
  have h5 := getD_le g0.2 x.2.1.toNat
  unfold OpOk Val at h
  unfold InB
  omega
set_option maxRecDepth 100000 in
set_option maxHeartbeats 16000000 in
theorem sFormatProg_calls (v : Value) (c : ProgD) (w : World) (h : ProgRow w v c) :
    Calls Tryd.prog 52 #[v] w fun e w' => ∃ s, e = .returned (.string s) ∧ Below w.heap.size w w' := by
  have HR := Lib.hid h
  obtain ⟨a0, p0, a1, p1, a2, p2, a3, p3, a4, p4, rfl, r0, r1, r2, r3, r4⟩ := h
  have HI0 := Lib.hid r0; clear r0
  have HI1 := Lib.hid r1; clear r1
  have HI2 := Lib.hid r2; clear r2
  have HI3 := Lib.hid r3; clear r3
  have R4 := Lib.hid r4; clear r4
  cases hv : progB c
  · have HV := Lib.hid hv; clear hv
    go_enter Tryd.func52, Tryd.ntmps52
    go_wp2_with (fail)
    refine (sProgValidO _ c _ (ProgRow.below HR.out (Below.alloc (Below.refl _ _) (by first | omega | (simp only [szA, szS, szD, World.heap_drewN] at * <;> omega)) _))).mono ?_
    rw [HV.out]
    rintro e w1 ⟨rfl, hb⟩
    have B1 := Lib.hid (Below.trans (Below.alloc (Below.refl _ _) (by first | omega | (simp only [szA, szS, szD, World.heap_drewN] at * <;> omega)) _) (hb.mono (by first | omega | (simp only [szA, szS, szD, World.heap_drewN] at * <;> omega))) : Below w.heap.size w w1)
    have Z1 := hb.size
    have N1 : w.heap.size + 1 ≤ w1.heap.size := (by first | with_reducible exact Z1 | (simp only [szA, szS, szD] at Z1; omega))
    clear Z1
    have Xp_1 : Hid (w1.heap[w.heap.size]? = some (.cells #[.slice a0 c.sems.length p0, .slice a1 c.groups.length p1, .slice a2 c.barriers.length p2, .slice a3 c.rooms.length p3, .slice a4 c.threads.length p4] 34 (0, 0))) := below_at hb (heap_at' (n := w.heap.size) (by first | omega | (simp only [szA, szS, szD, World.heap_drewN] at * <;> omega)))
    clear hb
    obtain ⟨cp1_0, cp1_1, cp1_2, cp1_3, cp1_4, fp1_0, fp1_1, fp1_2, fp1_3, fp1_4⟩ := box5 Xp_1.out; have lp1 := heap_lt Xp_1.out
    have S1 : w.heap.size ≤ w1.heap.size := (by omega)
    go_wp2
    go_ret
    exact ⟨_, rfl, B1.out⟩
  · have HV := Lib.hid hv; have ok := progB_true.1 hv; clear hv
    obtain ⟨g0, g1, g2, g3, g4, g5, g6⟩ := ok
    have G0 := Lib.hid g0; clear g0
    have G1 := Lib.hid g1; clear g1
    have G2 := Lib.hid g2; clear g2
    have G3 := Lib.hid g3; clear g3
    have G6 := Lib.hid g6; clear g6
    go_enter Tryd.func52, Tryd.ntmps52
    go_wp2_with (fail)
    refine (sProgValidO _ c _ (ProgRow.below HR.out (Below.alloc (Below.refl _ _) (by first | omega | (simp only [szA, szS, szD, World.heap_drewN] at * <;> omega)) _))).mono ?_
    rw [HV.out]
    rintro e w1 ⟨rfl, hb⟩
    have B1 := Lib.hid (Below.trans (Below.alloc (Below.refl _ _) (by first | omega | (simp only [szA, szS, szD, World.heap_drewN] at * <;> omega)) _) (hb.mono (by first | omega | (simp only [szA, szS, szD, World.heap_drewN] at * <;> omega))) : Below w.heap.size w w1)
    have Z1 := hb.size
    have N1 : w.heap.size + 1 ≤ w1.heap.size := (by first | with_reducible exact Z1 | (simp only [szA, szS, szD] at Z1; omega))
    clear Z1
    have Xp_1 : Hid (w1.heap[w.heap.size]? = some (.cells #[.slice a0 c.sems.length p0, .slice a1 c.groups.length p1, .slice a2 c.barriers.length p2, .slice a3 c.rooms.length p3, .slice a4 c.threads.length p4] 34 (0, 0))) := below_at hb (heap_at' (n := w.heap.size) (by first | omega | (simp only [szA, szS, szD, World.heap_drewN] at * <;> omega)))
    clear hb
    obtain ⟨cp1_0, cp1_1, cp1_2, cp1_3, cp1_4, fp1_0, fp1_1, fp1_2, fp1_3, fp1_4⟩ := box5 Xp_1.out; have lp1 := heap_lt Xp_1.out
    have S1 : w.heap.size ≤ w1.heap.size := (by omega)
    obtain ⟨s0, hs0⟩ : ∃ s, listB ⟨#[115, 101, 109, 115]⟩ c.sems = s := ⟨_, rfl⟩
    have hz0 : s0.size ≤ 77 := by rw [← hs0]; exact listB_size (by decide) G0.out.1 (inB_of G0.out (by decide) (by decide))
    have HS0 := Lib.hid hs0; clear hs0
    obtain ⟨s1, hs1⟩ : ∃ s, listB ⟨#[103, 114, 111, 117, 112, 115]⟩ c.groups = s := ⟨_, rfl⟩
    have hz1 : s1.size ≤ 77 := by rw [← hs1]; exact listB_size (by decide) G1.out.1 (inB_of G1.out (by decide) (by decide))
    have HS1 := Lib.hid hs1; clear hs1
    obtain ⟨s2, hs2⟩ : ∃ s, listB ⟨#[98, 97, 114, 114, 105, 101, 114, 115]⟩ c.barriers = s := ⟨_, rfl⟩
    have hz2 : s2.size ≤ 77 := by rw [← hs2]; exact listB_size (by decide) G2.out.1 (inB_of G2.out (by decide) (by decide))
    have HS2 := Lib.hid hs2; clear hs2
    obtain ⟨s3, hs3⟩ : ∃ s, listB ⟨#[114, 111, 111, 109, 115]⟩ c.rooms = s := ⟨_, rfl⟩
    have hz3 : s3.size ≤ 77 := by rw [← hs3]; exact listB_size (by decide) G3.out.1 (inB_of G3.out (by decide) (by decide))
    have HS3 := Lib.hid hs3; clear hs3
    have zz1 : (s0 ++ s1).size ≤ 154 := (by rw [ByteArray.size_append]; omega)
    have E1 : ∀ w : World, (Op.stringOp .add s0 s1).run Tryd.prog w = .ok (.string (s0 ++ s1)) w := fun w => run_string_add_sum w _ _ (by rw [← ByteArray.size_append]; omega)
    have zz2 : (s0 ++ s1 ++ s2).size ≤ 231 := (by rw [ByteArray.size_append]; omega)
    have E2 : ∀ w : World, (Op.stringOp .add (s0 ++ s1) s2).run Tryd.prog w = .ok (.string (s0 ++ s1 ++ s2)) w := fun w => run_string_add_sum w _ _ (by rw [← ByteArray.size_append]; omega)
    have zz3 : (s0 ++ s1 ++ s2 ++ s3).size ≤ 308 := (by rw [ByteArray.size_append]; omega)
    have E3 : ∀ w : World, (Op.stringOp .add (s0 ++ s1 ++ s2) s3).run Tryd.prog w = .ok (.string (s0 ++ s1 ++ s2 ++ s3)) w := fun w => run_string_add_sum w _ _ (by rw [← ByteArray.size_append]; omega)
    go_wp2_with (fail)
    have hN0 : w1.heap.size ≤ w1.heap.size := (by first | omega | (simp only [szA, szS, szD, World.heap_drewN] at * <;> omega))
    refine wp_region_L [⟨0, false, [], fun _ v _ => v = .pointer (some ⟨w.heap.size, 0, none⟩)⟩, ⟨1, false, [0], fun _ v _ => v = .slice a0 c.sems.length p0⟩, ⟨2, false, [0, 1], fun _ v _ => v = .string s0⟩, ⟨3, false, [], fun _ v _ => v = .pointer (some ⟨w.heap.size, 1, none⟩)⟩, ⟨4, false, [3], fun _ v _ => v = .slice a1 c.groups.length p1⟩, ⟨5, false, [3, 4], fun _ v _ => v = .string s1⟩, ⟨6, false, [0, 1, 2, 3, 4, 5], fun _ v _ => v = .string (s0 ++ s1)⟩, ⟨7, false, [], fun _ v _ => v = .pointer (some ⟨w.heap.size, 2, none⟩)⟩, ⟨8, false, [7], fun _ v _ => v = .slice a2 c.barriers.length p2⟩, ⟨9, false, [7, 8], fun _ v _ => v = .string s2⟩, ⟨10, false, [0, 1, 2, 3, 4, 5, 6, 7, 8, 9], fun _ v _ => v = .string (s0 ++ s1 ++ s2)⟩, ⟨11, false, [], fun _ v _ => v = .pointer (some ⟨w.heap.size, 3, none⟩)⟩, ⟨12, false, [11], fun _ v _ => v = .slice a3 c.rooms.length p3⟩, ⟨13, false, [11, 12], fun _ v _ => v = .string s3⟩, ⟨14, false, [0, 1, 2, 3, 4, 5, 6, 7, 8, 9, 10, 11, 12, 13], fun _ v _ => v = .string (s0 ++ s1 ++ s2 ++ s3)⟩, ⟨15, false, [0, 1, 2, 3, 4, 5, 6, 7, 8, 9, 10, 11, 12, 13, 14], fun _ v _ => v = .string (s0 ++ s1 ++ s2 ++ s3)⟩] [(0, some 9), (1, some 10), (2, some 11), (3, some 12), (4, some 13), (5, some 14), (6, some 15), (7, some 16), (8, some 17), (9, some 18), (10, some 19), (11, some 20), (12, some 21), (13, some 22), (14, some 23), (15, some 3)] (fun _ w' => Below w.heap.size w w' ∧ w1.heap.size ≤ w'.heap.size ∧ w'.heap[w.heap.size]? = some (.cells #[.slice a0 c.sems.length p0, .slice a1 c.groups.length p1, .slice a2 c.barriers.length p2, .slice a3 c.rooms.length p3, .slice a4 c.threads.length p4] 34 (0, 0))) (fun _ _ _ => True) (by kernel_rfl) (by rfl) (by kernel_rfl) (by kernel_rfl) ⟨(B1.out).drew, hN0, (heap_drew Xp_1.out)⟩ (GoalsL.cons ?_ (GoalsL.cons ?_ (GoalsL.cons ?_ (GoalsL.cons ?_ (GoalsL.cons ?_ (GoalsL.cons ?_ (GoalsL.cons ?_ (GoalsL.cons ?_ (GoalsL.cons ?_ (GoalsL.cons ?_ (GoalsL.cons ?_ (GoalsL.cons ?_ (GoalsL.cons ?_ (GoalsL.cons ?_ (GoalsL.cons ?_ (GoalsL.cons ?_ (GoalsL.nil))))))))))))))))) ?_
    · refine GoalL.mk (by rfl) ⟨fun _ _ _ _ _ h => h, fun _ _ _ _ _ _ h => h⟩ ?_
      intro f u wq hf hC hD K hK
      have hA := hC.1; have hN := hC.2.1; have x_p := hC.2.2; clear hC
      clear hD
      simp only [putL, Act.put, List.setIfInBounds_toArray, List.set_cons_zero, List.set_cons_succ] at hK ⊢
      refine Closed.mk ?_
      go_simp
      exact hK.out _ _ ⟨hA, hN, x_p⟩ trivial rfl
    · refine GoalL.mk (by rfl) ⟨fun _ _ _ _ _ h => h, fun _ _ _ _ _ _ h => h⟩ ?_
      intro f u wq hf hC hD K hK
      have hA := hC.1; have hN := hC.2.1; have x_p := hC.2.2; clear hC
      have d0 := hD.1; clear hD
      have e0 : u 0 = .pointer (some ⟨w.heap.size, 0, none⟩) := d0; clear d0
      simp only [putL, Act.put, List.setIfInBounds_toArray, List.set_cons_zero, List.set_cons_succ, e0] at hK ⊢
      obtain ⟨kp_0, kp_1, kp_2, kp_3, kp_4, fp_0, fp_1, fp_2, fp_3, fp_4⟩ := box5 x_p
      refine Closed.mk ?_
      go_simp
      exact hK.out _ _ ⟨hA, hN, x_p⟩ trivial rfl
    · refine GoalL.mk (by rfl) ⟨fun _ _ _ _ _ h => h, fun _ _ _ _ _ _ h => h⟩ ?_
      intro f u wq hf hC hD K hK
      have hA := hC.1; have hN := hC.2.1; have x_p := hC.2.2; clear hC
      have d0 := hD.1; have d1 := hD.2.1; clear hD
      have e0 : u 0 = .pointer (some ⟨w.heap.size, 0, none⟩) := d0; clear d0
      have e1 : u 1 = .slice a0 c.sems.length p0 := d1; clear d1
      simp only [putL, Act.put, List.setIfInBounds_toArray, List.set_cons_zero, List.set_cons_succ, e0, e1] at hK ⊢
      refine Closed.mk ?_
      go_simp
      refine (l6List_calls ⟨#[115, 101, 109, 115]⟩ _ c.sems _ (Row.below HI0.out hA) G0.out.1 (by decide) (inB_of G0.out (by decide) (by decide))).mono ?_
      rw [HS0.out]
      rintro e wr ⟨rfl, hb⟩
      exact hK.out _ _ ⟨Below.trans hA (hb.mono hA.size), Nat.le_trans hN hb.size, (below_at hb x_p)⟩ trivial rfl
    · refine GoalL.mk (by rfl) ⟨fun _ _ _ _ _ h => h, fun _ _ _ _ _ _ h => h⟩ ?_
      intro f u wq hf hC hD K hK
      have hA := hC.1; have hN := hC.2.1; have x_p := hC.2.2; clear hC
      clear hD
      simp only [putL, Act.put, List.setIfInBounds_toArray, List.set_cons_zero, List.set_cons_succ] at hK ⊢
      refine Closed.mk ?_
      go_simp
      exact hK.out _ _ ⟨hA, hN, x_p⟩ trivial rfl
    · refine GoalL.mk (by rfl) ⟨fun _ _ _ _ _ h => h, fun _ _ _ _ _ _ h => h⟩ ?_
      intro f u wq hf hC hD K hK
      have hA := hC.1; have hN := hC.2.1; have x_p := hC.2.2; clear hC
      have d3 := hD.1; clear hD
      have e3 : u 3 = .pointer (some ⟨w.heap.size, 1, none⟩) := d3; clear d3
      simp only [putL, Act.put, List.setIfInBounds_toArray, List.set_cons_zero, List.set_cons_succ, e3] at hK ⊢
      obtain ⟨kp_0, kp_1, kp_2, kp_3, kp_4, fp_0, fp_1, fp_2, fp_3, fp_4⟩ := box5 x_p
      refine Closed.mk ?_
      go_simp
      exact hK.out _ _ ⟨hA, hN, x_p⟩ trivial rfl
    · refine GoalL.mk (by rfl) ⟨fun _ _ _ _ _ h => h, fun _ _ _ _ _ _ h => h⟩ ?_
      intro f u wq hf hC hD K hK
      have hA := hC.1; have hN := hC.2.1; have x_p := hC.2.2; clear hC
      have d3 := hD.1; have d4 := hD.2.1; clear hD
      have e3 : u 3 = .pointer (some ⟨w.heap.size, 1, none⟩) := d3; clear d3
      have e4 : u 4 = .slice a1 c.groups.length p1 := d4; clear d4
      simp only [putL, Act.put, List.setIfInBounds_toArray, List.set_cons_zero, List.set_cons_succ, e3, e4] at hK ⊢
      refine Closed.mk ?_
      go_simp
      refine (l6List_calls ⟨#[103, 114, 111, 117, 112, 115]⟩ _ c.groups _ (Row.below HI1.out hA) G1.out.1 (by decide) (inB_of G1.out (by decide) (by decide))).mono ?_
      rw [HS1.out]
      rintro e wr ⟨rfl, hb⟩
      exact hK.out _ _ ⟨Below.trans hA (hb.mono hA.size), Nat.le_trans hN hb.size, (below_at hb x_p)⟩ trivial rfl
    · refine GoalL.mk (by rfl) ⟨fun _ _ _ _ _ h => h, fun _ _ _ _ _ _ h => h⟩ ?_
      intro f u wq hf hC hD K hK
      have hA := hC.1; have hN := hC.2.1; have x_p := hC.2.2; clear hC
      have d0 := hD.1; have d1 := hD.2.1; have d2 := hD.2.2.1; have d3 := hD.2.2.2.1; have d4 := hD.2.2.2.2.1; have d5 := hD.2.2.2.2.2.1; clear hD
      have e0 : u 0 = .pointer (some ⟨w.heap.size, 0, none⟩) := d0; clear d0
      have e1 : u 1 = .slice a0 c.sems.length p0 := d1; clear d1
      have e2 : u 2 = .string s0 := d2; clear d2
      have e3 : u 3 = .pointer (some ⟨w.heap.size, 1, none⟩) := d3; clear d3
      have e4 : u 4 = .slice a1 c.groups.length p1 := d4; clear d4
      have e5 : u 5 = .string s1 := d5; clear d5
      simp only [putL, Act.put, List.setIfInBounds_toArray, List.set_cons_zero, List.set_cons_succ, e0, e1, e2, e3, e4, e5] at hK ⊢
      refine Closed.mk ?_
      go_simp
      exact hK.out _ _ ⟨hA, hN, x_p⟩ trivial rfl
    · refine GoalL.mk (by rfl) ⟨fun _ _ _ _ _ h => h, fun _ _ _ _ _ _ h => h⟩ ?_
      intro f u wq hf hC hD K hK
      have hA := hC.1; have hN := hC.2.1; have x_p := hC.2.2; clear hC
      clear hD
      simp only [putL, Act.put, List.setIfInBounds_toArray, List.set_cons_zero, List.set_cons_succ] at hK ⊢
      refine Closed.mk ?_
      go_simp
      exact hK.out _ _ ⟨hA, hN, x_p⟩ trivial rfl
    · refine GoalL.mk (by rfl) ⟨fun _ _ _ _ _ h => h, fun _ _ _ _ _ _ h => h⟩ ?_
      intro f u wq hf hC hD K hK
      have hA := hC.1; have hN := hC.2.1; have x_p := hC.2.2; clear hC
      have d7 := hD.1; clear hD
      have e7 : u 7 = .pointer (some ⟨w.heap.size, 2, none⟩) := d7; clear d7
      simp only [putL, Act.put, List.setIfInBounds_toArray, List.set_cons_zero, List.set_cons_succ, e7] at hK ⊢
      obtain ⟨kp_0, kp_1, kp_2, kp_3, kp_4, fp_0, fp_1, fp_2, fp_3, fp_4⟩ := box5 x_p
      refine Closed.mk ?_
      go_simp
      exact hK.out _ _ ⟨hA, hN, x_p⟩ trivial rfl
    · refine GoalL.mk (by rfl) ⟨fun _ _ _ _ _ h => h, fun _ _ _ _ _ _ h => h⟩ ?_
      intro f u wq hf hC hD K hK
      have hA := hC.1; have hN := hC.2.1; have x_p := hC.2.2; clear hC
      have d7 := hD.1; have d8 := hD.2.1; clear hD
      have e7 : u 7 = .pointer (some ⟨w.heap.size, 2, none⟩) := d7; clear d7
      have e8 : u 8 = .slice a2 c.barriers.length p2 := d8; clear d8
      simp only [putL, Act.put, List.setIfInBounds_toArray, List.set_cons_zero, List.set_cons_succ, e7, e8] at hK ⊢
      refine Closed.mk ?_
      go_simp
      refine (l6List_calls ⟨#[98, 97, 114, 114, 105, 101, 114, 115]⟩ _ c.barriers _ (Row.below HI2.out hA) G2.out.1 (by decide) (inB_of G2.out (by decide) (by decide))).mono ?_
      rw [HS2.out]
      rintro e wr ⟨rfl, hb⟩
      exact hK.out _ _ ⟨Below.trans hA (hb.mono hA.size), Nat.le_trans hN hb.size, (below_at hb x_p)⟩ trivial rfl
    · refine GoalL.mk (by rfl) ⟨fun _ _ _ _ _ h => h, fun _ _ _ _ _ _ h => h⟩ ?_
      intro f u wq hf hC hD K hK
      have hA := hC.1; have hN := hC.2.1; have x_p := hC.2.2; clear hC
      have d0 := hD.1; have d1 := hD.2.1; have d2 := hD.2.2.1; have d3 := hD.2.2.2.1; have d4 := hD.2.2.2.2.1; have d5 := hD.2.2.2.2.2.1; have d6 := hD.2.2.2.2.2.2.1; have d7 := hD.2.2.2.2.2.2.2.1; have d8 := hD.2.2.2.2.2.2.2.2.1; have d9 := hD.2.2.2.2.2.2.2.2.2.1; clear hD
      have e0 : u 0 = .pointer (some ⟨w.heap.size, 0, none⟩) := d0; clear d0
      have e1 : u 1 = .slice a0 c.sems.length p0 := d1; clear d1
      have e2 : u 2 = .string s0 := d2; clear d2
      have e3 : u 3 = .pointer (some ⟨w.heap.size, 1, none⟩) := d3; clear d3
      have e4 : u 4 = .slice a1 c.groups.length p1 := d4; clear d4
      have e5 : u 5 = .string s1 := d5; clear d5
      have e6 : u 6 = .string (s0 ++ s1) := d6; clear d6
      have e7 : u 7 = .pointer (some ⟨w.heap.size, 2, none⟩) := d7; clear d7
      have e8 : u 8 = .slice a2 c.barriers.length p2 := d8; clear d8
      have e9 : u 9 = .string s2 := d9; clear d9
      simp only [putL, Act.put, List.setIfInBounds_toArray, List.set_cons_zero, List.set_cons_succ, e0, e1, e2, e3, e4, e5, e6, e7, e8, e9] at hK ⊢
      refine Closed.mk ?_
      go_simp
      exact hK.out _ _ ⟨hA, hN, x_p⟩ trivial rfl
    · refine GoalL.mk (by rfl) ⟨fun _ _ _ _ _ h => h, fun _ _ _ _ _ _ h => h⟩ ?_
      intro f u wq hf hC hD K hK
      have hA := hC.1; have hN := hC.2.1; have x_p := hC.2.2; clear hC
      clear hD
      simp only [putL, Act.put, List.setIfInBounds_toArray, List.set_cons_zero, List.set_cons_succ] at hK ⊢
      refine Closed.mk ?_
      go_simp
      exact hK.out _ _ ⟨hA, hN, x_p⟩ trivial rfl
    · refine GoalL.mk (by rfl) ⟨fun _ _ _ _ _ h => h, fun _ _ _ _ _ _ h => h⟩ ?_
      intro f u wq hf hC hD K hK
      have hA := hC.1; have hN := hC.2.1; have x_p := hC.2.2; clear hC
      have d11 := hD.1; clear hD
      have e11 : u 11 = .pointer (some ⟨w.heap.size, 3, none⟩) := d11; clear d11
      simp only [putL, Act.put, List.setIfInBounds_toArray, List.set_cons_zero, List.set_cons_succ, e11] at hK ⊢
      obtain ⟨kp_0, kp_1, kp_2, kp_3, kp_4, fp_0, fp_1, fp_2, fp_3, fp_4⟩ := box5 x_p
      refine Closed.mk ?_
      go_simp
      exact hK.out _ _ ⟨hA, hN, x_p⟩ trivial rfl
    · refine GoalL.mk (by rfl) ⟨fun _ _ _ _ _ h => h, fun _ _ _ _ _ _ h => h⟩ ?_
      intro f u wq hf hC hD K hK
      have hA := hC.1; have hN := hC.2.1; have x_p := hC.2.2; clear hC
      have d11 := hD.1; have d12 := hD.2.1; clear hD
      have e11 : u 11 = .pointer (some ⟨w.heap.size, 3, none⟩) := d11; clear d11
      have e12 : u 12 = .slice a3 c.rooms.length p3 := d12; clear d12
      simp only [putL, Act.put, List.setIfInBounds_toArray, List.set_cons_zero, List.set_cons_succ, e11, e12] at hK ⊢
      refine Closed.mk ?_
      go_simp
      refine (l6List_calls ⟨#[114, 111, 111, 109, 115]⟩ _ c.rooms _ (Row.below HI3.out hA) G3.out.1 (by decide) (inB_of G3.out (by decide) (by decide))).mono ?_
      rw [HS3.out]
      rintro e wr ⟨rfl, hb⟩
      exact hK.out _ _ ⟨Below.trans hA (hb.mono hA.size), Nat.le_trans hN hb.size, (below_at hb x_p)⟩ trivial rfl
    · refine GoalL.mk (by rfl) ⟨fun _ _ _ _ _ h => h, fun _ _ _ _ _ _ h => h⟩ ?_
      intro f u wq hf hC hD K hK
      have hA := hC.1; have hN := hC.2.1; have x_p := hC.2.2; clear hC
      have d0 := hD.1; have d1 := hD.2.1; have d2 := hD.2.2.1; have d3 := hD.2.2.2.1; have d4 := hD.2.2.2.2.1; have d5 := hD.2.2.2.2.2.1; have d6 := hD.2.2.2.2.2.2.1; have d7 := hD.2.2.2.2.2.2.2.1; have d8 := hD.2.2.2.2.2.2.2.2.1; have d9 := hD.2.2.2.2.2.2.2.2.2.1; have d10 := hD.2.2.2.2.2.2.2.2.2.2.1; have d11 := hD.2.2.2.2.2.2.2.2.2.2.2.1; have d12 := hD.2.2.2.2.2.2.2.2.2.2.2.2.1; have d13 := hD.2.2.2.2.2.2.2.2.2.2.2.2.2.1; clear hD
      have e0 : u 0 = .pointer (some ⟨w.heap.size, 0, none⟩) := d0; clear d0
      have e1 : u 1 = .slice a0 c.sems.length p0 := d1; clear d1
      have e2 : u 2 = .string s0 := d2; clear d2
      have e3 : u 3 = .pointer (some ⟨w.heap.size, 1, none⟩) := d3; clear d3
      have e4 : u 4 = .slice a1 c.groups.length p1 := d4; clear d4
      have e5 : u 5 = .string s1 := d5; clear d5
      have e6 : u 6 = .string (s0 ++ s1) := d6; clear d6
      have e7 : u 7 = .pointer (some ⟨w.heap.size, 2, none⟩) := d7; clear d7
      have e8 : u 8 = .slice a2 c.barriers.length p2 := d8; clear d8
      have e9 : u 9 = .string s2 := d9; clear d9
      have e10 : u 10 = .string (s0 ++ s1 ++ s2) := d10; clear d10
      have e11 : u 11 = .pointer (some ⟨w.heap.size, 3, none⟩) := d11; clear d11
      have e12 : u 12 = .slice a3 c.rooms.length p3 := d12; clear d12
      have e13 : u 13 = .string s3 := d13; clear d13
      simp only [putL, Act.put, List.setIfInBounds_toArray, List.set_cons_zero, List.set_cons_succ, e0, e1, e2, e3, e4, e5, e6, e7, e8, e9, e10, e11, e12, e13] at hK ⊢
      refine Closed.mk ?_
      go_simp
      exact hK.out _ _ ⟨hA, hN, x_p⟩ trivial rfl
    · refine GoalL.mk (by rfl) ⟨fun _ _ _ _ _ h => h, fun _ _ _ _ _ _ h => h⟩ ?_
      intro f u wq hf hC hD K hK
      have hA := hC.1; have hN := hC.2.1; have x_p := hC.2.2; clear hC
      have d0 := hD.1; have d1 := hD.2.1; have d2 := hD.2.2.1; have d3 := hD.2.2.2.1; have d4 := hD.2.2.2.2.1; have d5 := hD.2.2.2.2.2.1; have d6 := hD.2.2.2.2.2.2.1; have d7 := hD.2.2.2.2.2.2.2.1; have d8 := hD.2.2.2.2.2.2.2.2.1; have d9 := hD.2.2.2.2.2.2.2.2.2.1; have d10 := hD.2.2.2.2.2.2.2.2.2.2.1; have d11 := hD.2.2.2.2.2.2.2.2.2.2.2.1; have d12 := hD.2.2.2.2.2.2.2.2.2.2.2.2.1; have d13 := hD.2.2.2.2.2.2.2.2.2.2.2.2.2.1; have d14 := hD.2.2.2.2.2.2.2.2.2.2.2.2.2.2.1; clear hD
      have e0 : u 0 = .pointer (some ⟨w.heap.size, 0, none⟩) := d0; clear d0
      have e1 : u 1 = .slice a0 c.sems.length p0 := d1; clear d1
      have e2 : u 2 = .string s0 := d2; clear d2
      have e3 : u 3 = .pointer (some ⟨w.heap.size, 1, none⟩) := d3; clear d3
      have e4 : u 4 = .slice a1 c.groups.length p1 := d4; clear d4
      have e5 : u 5 = .string s1 := d5; clear d5
      have e6 : u 6 = .string (s0 ++ s1) := d6; clear d6
      have e7 : u 7 = .pointer (some ⟨w.heap.size, 2, none⟩) := d7; clear d7
      have e8 : u 8 = .slice a2 c.barriers.length p2 := d8; clear d8
      have e9 : u 9 = .string s2 := d9; clear d9
      have e10 : u 10 = .string (s0 ++ s1 ++ s2) := d10; clear d10
      have e11 : u 11 = .pointer (some ⟨w.heap.size, 3, none⟩) := d11; clear d11
      have e12 : u 12 = .slice a3 c.rooms.length p3 := d12; clear d12
      have e13 : u 13 = .string s3 := d13; clear d13
      have e14 : u 14 = .string (s0 ++ s1 ++ s2 ++ s3) := d14; clear d14
      simp only [putL, Act.put, List.setIfInBounds_toArray, List.set_cons_zero, List.set_cons_succ, e0, e1, e2, e3, e4, e5, e6, e7, e8, e9, e10, e11, e12, e13, e14] at hK ⊢
      refine Closed.mk ?_
      go_simp
      exact hK.out _ _ ⟨hA, hN, x_p⟩ trivial rfl
    intro u w2 hC hD
    have hA := hC.1; have hN := hC.2.1; have x_p := hC.2.2; clear hC
    have d0 := hD.1; have d1 := hD.2.1; have d2 := hD.2.2.1; have d3 := hD.2.2.2.1; have d4 := hD.2.2.2.2.1; have d5 := hD.2.2.2.2.2.1; have d6 := hD.2.2.2.2.2.2.1; have d7 := hD.2.2.2.2.2.2.2.1; have d8 := hD.2.2.2.2.2.2.2.2.1; have d9 := hD.2.2.2.2.2.2.2.2.2.1; have d10 := hD.2.2.2.2.2.2.2.2.2.2.1; have d11 := hD.2.2.2.2.2.2.2.2.2.2.2.1; have d12 := hD.2.2.2.2.2.2.2.2.2.2.2.2.1; have d13 := hD.2.2.2.2.2.2.2.2.2.2.2.2.2.1; have d14 := hD.2.2.2.2.2.2.2.2.2.2.2.2.2.2.1; have d15 := hD.2.2.2.2.2.2.2.2.2.2.2.2.2.2.2.1; clear hD
    have e0 : u 0 = .pointer (some ⟨w.heap.size, 0, none⟩) := d0; clear d0
    have e1 : u 1 = .slice a0 c.sems.length p0 := d1; clear d1
    have e2 : u 2 = .string s0 := d2; clear d2
    have e3 : u 3 = .pointer (some ⟨w.heap.size, 1, none⟩) := d3; clear d3
    have e4 : u 4 = .slice a1 c.groups.length p1 := d4; clear d4
    have e5 : u 5 = .string s1 := d5; clear d5
    have e6 : u 6 = .string (s0 ++ s1) := d6; clear d6
    have e7 : u 7 = .pointer (some ⟨w.heap.size, 2, none⟩) := d7; clear d7
    have e8 : u 8 = .slice a2 c.barriers.length p2 := d8; clear d8
    have e9 : u 9 = .string s2 := d9; clear d9
    have e10 : u 10 = .string (s0 ++ s1 ++ s2) := d10; clear d10
    have e11 : u 11 = .pointer (some ⟨w.heap.size, 3, none⟩) := d11; clear d11
    have e12 : u 12 = .slice a3 c.rooms.length p3 := d12; clear d12
    have e13 : u 13 = .string s3 := d13; clear d13
    have e14 : u 14 = .string (s0 ++ s1 ++ s2 ++ s3) := d14; clear d14
    have e15 : u 15 = .string (s0 ++ s1 ++ s2 ++ s3) := d15; clear d15
    have B2 := Lib.hid hA; have N2 := hN; have S2 := hA.size
    have Xp_2 := Lib.hid x_p; clear x_p
    obtain ⟨cp2_0, cp2_1, cp2_2, cp2_3, cp2_4, fp2_0, fp2_1, fp2_2, fp2_3, fp2_4⟩ := box5 Xp_2.out; have lp2 := heap_lt Xp_2.out
    clear hA hN
    simp only [putL, Act.put, List.setIfInBounds_toArray, List.set_cons_zero, List.set_cons_succ, e0, e1, e2, e3, e4, e5, e6, e7, e8, e9, e10, e11, e12, e13, e14, e15]
    refine Closed.mk (wpAnyH_done (by kernel_rfl) ?_ _)
    obtain ⟨out0, ho0⟩ : ∃ s, s0 ++ s1 ++ s2 ++ s3 = s := ⟨_, rfl⟩
    rw [ho0] at zz3 ⊢
    clear ho0 E1 E2 E3 zz1 zz2
    go_wp2_with (fail)
    go_loopw [3, 4] (fun sv i wr => ∃ (k : Nat) (s : ByteArray), k ≤ c.threads.length ∧ i = .int .i64 k ∧ sv = .string s ∧ s.size ≤ 400 + 1000 * k ∧ wr.heap[w.heap.size]? = some (.cells #[.slice a0 c.sems.length p0, .slice a1 c.groups.length p1, .slice a2 c.barriers.length p2, .slice a3 c.rooms.length p3, .slice a4 c.threads.length p4] 34 (0, 0)) ∧ Below w.heap.size w wr) (fun _ i _ => c.threads.length - (intOf i).toNat)
    case atStart => exact ⟨0, out0, Nat.zero_le _, rfl, rfl, by omega, Xp_2.out, B2.out⟩
    case round =>
      obtain ⟨w20, rfl⟩ : ∃ x : World, x = wr := ⟨_, rfl⟩
      obtain ⟨k, s, hk, rfl, rfl, hz, hx, hb⟩ := hrel
      have B20 := Lib.hid hb; have S20 := hb.size; have Xp_20 := Lib.hid hx; clear hb hx
      obtain ⟨cp20_0, cp20_1, cp20_2, cp20_3, cp20_4, fp20_0, fp20_1, fp20_2, fp20_3, fp20_4⟩ := box5 Xp_20.out; have lp20 := heap_lt Xp_20.out
      by_cases hlt : k < c.threads.length
      · have d0 : decide ((k : Int) < (c.threads.length : Int)) = true := decide_eq_true (by omega)
        obtain ⟨_, _, e1, _, _, r4⟩ := R4.out.look; injection e1 with e1 _ e2; subst e1 e2
        obtain ⟨b, o, rfl, hb1, hc1⟩ := r4 (by omega)
        obtain ⟨th, ht⟩ := get_ex hlt
        obtain ⟨zs, zd, g1, q1⟩ := hc1 k th ht
        have k1 := (B20.out.cell (p := ⟨b, o + k, none⟩) hb1).trans g1
        obtain ⟨_, _, e1, l5, m5, rq⟩ := q1.look; injection e1 with e1 _ e2; subst e1 e2
        have RQ := Lib.hid rq; have G1' := Lib.hid g1
        have hth := G6.out th (get_mem ht)
        have hth8 := hth.1; have HTH := Lib.hid hth.2
        clear ht hc1 q1 r4 rq g1 hth
        have hzs : s.size ≤ 5000 := by omega
        go_wp2_with (fail)
        obtain ⟨sh, hsh⟩ : ∃ t, s ++ ⟨#[116, 104, 114, 101, 97, 100]⟩ = t := ⟨_, rfl⟩
        have hshz : sh.size ≤ 406 + 1000 * k := (by rw [← hsh, ByteArray.size_append]; have e : (⟨#[116, 104, 114, 101, 97, 100]⟩ : ByteArray).size = 6 := rfl; omega)
        rw [hsh]
        clear hsh
        go_loopw [3, 5] (fun sv i wr => ∃ (m : Nat) (s : ByteArray), m ≤ th.length ∧ i = .int .i64 m ∧ sv = .string s ∧ s.size ≤ 406 + 1000 * k + 62 * m ∧ wr.heap[w.heap.size]? = some (.cells #[.slice a0 c.sems.length p0, .slice a1 c.groups.length p1, .slice a2 c.barriers.length p2, .slice a3 c.rooms.length p3, .slice (some ⟨b, o, none⟩) c.threads.length p4] 34 (0, 0)) ∧ Below w.heap.size w wr) (fun _ i _ => th.length - (intOf i).toNat)
        case atStart => exact ⟨0, sh, Nat.zero_le _, rfl, rfl, by omega, Xp_20.out, B20.out⟩
        case round =>
          obtain ⟨w30, rfl⟩ : ∃ x : World, x = wr := ⟨_, rfl⟩
          obtain ⟨m, s2, hmk, rfl, rfl, hz2, hx2, hb2⟩ := hrel
          have B30 := Lib.hid hb2; have S30 := hb2.size; have Xp_30 := Lib.hid hx2; clear hb2 hx2
          have hz5 : s2.size ≤ 6000 := by omega
          obtain ⟨cp30_0, cp30_1, cp30_2, cp30_3, cp30_4, fp30_0, fp30_1, fp30_2, fp30_3, fp30_4⟩ := box5 Xp_30.out; have lp30 := heap_lt Xp_30.out
          have k9 := (B30.out.cell (p := ⟨b, o + k, none⟩) hb1).trans G1'.out
          by_cases hm : m < th.length
          · have d1 : decide ((m : Int) < (th.length : Int)) = true := decide_eq_true (by omega)
            obtain ⟨sb, so, rfl, hb3, hc3⟩ := RQ.out (by omega)
            obtain ⟨x, hx⟩ := get_ex hm
            have j0 := (B30.out.cell (p := ⟨sb, so + m * 3, none⟩) hb3).trans (hc3 m x hx).1
            have j1 := (B30.out.cell (p := ⟨sb, so + m * 3 + 1, none⟩) hb3).trans (hc3 m x hx).2.1
            have j2 := (B30.out.cell (p := ⟨sb, so + m * 3 + 2, none⟩) hb3).trans (hc3 m x hx).2.2
            have HX := Lib.hid (opOk_inB (HTH.out x (get_mem hx)) G0.out G1.out G2.out G3.out); clear hx hc3
            obtain ⟨t, ht⟩ : ∃ t, opText x = t := ⟨_, rfl⟩
            have htz : t.size ≤ 60 := by rw [← ht]; exact opText_size HX.out.1 HX.out.2
            have HT := Lib.hid ht; clear ht
            have d7 : (0 : Int) ≤ (m : Int) := by omega
            have d8 : (m : Int) < (th.length : Int) := by omega
            have d9 : (0 : Int) ≤ (k : Int) := by omega
            have d10 : (k : Int) < (c.threads.length : Int) := by omega
            by_cases hm0 : m = 0
            · have d2 : decide (0 < (m : Int)) = false := decide_eq_false (by omega)
              have d2n : decide (0 < m) = false := decide_eq_false (by omega)
              have d2m : ¬ 0 < m := by omega
              clear hm0
              go_wp2_with (fail)
              refine (sFormatOp_calls x _ HX.out.1 HX.out.2).mono ?_
              rw [HT.out]
              rintro e w31 ⟨rfl, hb⟩
              have B31 := Lib.hid (Below.trans B30.out (hb.mono (by first | omega | (simp only [szA, szS, szD, World.heap_drewN] at * <;> omega))) : Below w.heap.size w w31)
              have Z31 := hb.size
              have N31 : w30.heap.size ≤ w31.heap.size := (by first | with_reducible exact Z31 | (simp only [szA, szS, szD] at Z31; omega))
              clear Z31
              have Xp_31 := Lib.hid (below_at hb Xp_30.out)
              clear hb
              obtain ⟨cp31_0, cp31_1, cp31_2, cp31_3, cp31_4, fp31_0, fp31_1, fp31_2, fp31_3, fp31_4⟩ := box5 Xp_31.out; have lp31 := heap_lt Xp_31.out
              have S31 : w.heap.size ≤ w31.heap.size := (by omega)
              have y2 : (s2 ++ ⟨#[32]⟩ : ByteArray).size = s2.size + 1 := (by rw [ByteArray.size_append]; rfl)
              go_wp2
              go_roundw
              case rel => exact ⟨m + 1, s2 ++ ⟨#[32]⟩ ++ t, by omega, by go_num, rfl, by rw [ByteArray.size_append, y2]; omega, Xp_31.out, B31.out⟩
              case measure => simp [intOf]; omega
            · have d2 : decide (0 < (m : Int)) = true := decide_eq_true (by omega)
              have d2n : decide (0 < m) = true := decide_eq_true (by omega)
              have d2m : 0 < m := by omega
              clear hm0
              go_wp2_with (fail)
              refine (sFormatOp_calls x _ HX.out.1 HX.out.2).mono ?_
              rw [HT.out]
              rintro e w31 ⟨rfl, hb⟩
              have B31 := Lib.hid (Below.trans B30.out (hb.mono (by first | omega | (simp only [szA, szS, szD, World.heap_drewN] at * <;> omega))) : Below w.heap.size w w31)
              have Z31 := hb.size
              have N31 : w30.heap.size ≤ w31.heap.size := (by first | with_reducible exact Z31 | (simp only [szA, szS, szD] at Z31; omega))
              clear Z31
              have Xp_31 := Lib.hid (below_at hb Xp_30.out)
              clear hb
              obtain ⟨cp31_0, cp31_1, cp31_2, cp31_3, cp31_4, fp31_0, fp31_1, fp31_2, fp31_3, fp31_4⟩ := box5 Xp_31.out; have lp31 := heap_lt Xp_31.out
              have S31 : w.heap.size ≤ w31.heap.size := (by omega)
              have y1 : (s2 ++ ⟨#[44]⟩ : ByteArray).size = s2.size + 1 := (by rw [ByteArray.size_append]; rfl)
              have y2 : (s2 ++ ⟨#[44]⟩ ++ ⟨#[32]⟩ : ByteArray).size = s2.size + 2 := (by rw [ByteArray.size_append, ByteArray.size_append]; rfl)
              go_wp2
              go_roundw
              case rel => exact ⟨m + 1, s2 ++ ⟨#[44]⟩ ++ ⟨#[32]⟩ ++ t, by omega, by go_num, rfl, by rw [ByteArray.size_append, y2]; omega, Xp_31.out, B31.out⟩
              case measure => simp [intOf]; omega
          · have d1 : decide ((m : Int) < (th.length : Int)) = false := decide_eq_false (by omega)
            go_wp2
            go_roundw
            case rel => exact ⟨k + 1, s2 ++ ⟨#[10]⟩, by omega, by go_num, rfl, by rw [ByteArray.size_append]; show s2.size + 1 ≤ _; omega, Xp_30.out, B30.out⟩
            case measure => simp [intOf]; omega
      · have d0 : decide ((k : Int) < (c.threads.length : Int)) = false := decide_eq_false (by omega)
        go_wp2
        go_ret
        exact ⟨_, rfl, B20.out⟩
end Go.Proofs.YthbnbofoefdneaaDoor
