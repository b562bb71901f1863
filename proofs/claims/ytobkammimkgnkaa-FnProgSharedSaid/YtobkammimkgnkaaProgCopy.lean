/- l6Copy: a program's copy (made by gen_progcopy.py). -/
import Derived.Test.YtobkammimkgnkaaDrProg
import Derived.Test.YtobkammimkgnkaaRgA
import Derived.Deep.RegionLaw
namespace Go.Proofs.Ytobkammimkgnkaa
open Go.RowKit
set_option linter.unusedSimpArgs false
set_option linter.unusedVariables false
/-- An owned program whose lists of numbers lie apart. -/
def ProgOwnA (lo : Nat) (w : World) (v : Value) (c : ProgD) : Prop := ∃ a0 p0 a1 p1 a2 p2 a3 p3 a4 p4, v = .agg #[.slice a0 c.sems.length p0, .slice a1 c.groups.length p1, .slice a2 c.barriers.length p2, .slice a3 c.rooms.length p3, .slice a4 c.threads.length p4] ∧ Own lo 3 1 encI w (.slice a0 c.sems.length p0) c.sems ∧ Own lo 3 1 encI w (.slice a1 c.groups.length p1) c.groups ∧ Own lo 3 1 encI w (.slice a2 c.barriers.length p2) c.barriers ∧ Own lo 3 1 encI w (.slice a3 c.rooms.length p3) c.rooms ∧ TTOwn lo w (.slice a4 c.threads.length p4) c.threads ∧
  Apart (.slice a0 c.sems.length p0) (.slice a1 c.groups.length p1) ∧ Apart (.slice a0 c.sems.length p0) (.slice a2 c.barriers.length p2) ∧ Apart (.slice a0 c.sems.length p0) (.slice a3 c.rooms.length p3) ∧ Apart (.slice a1 c.groups.length p1) (.slice a2 c.barriers.length p2) ∧ Apart (.slice a1 c.groups.length p1) (.slice a3 c.rooms.length p3) ∧ Apart (.slice a2 c.barriers.length p2) (.slice a3 c.rooms.length p3)
theorem lit_sv {w : World} {H E : Nat} {fr : Nat × Nat} {x : SV} (h : w.heap[H]? = some (.cells #[.slice x.1 x.2.1 x.2.2] E fr)) : Row 1 encS w (.slice (some ⟨H, 0, none⟩) 1 1) [x] := by
  refine ⟨_, _, rfl, Nat.le_refl _, by omega, (fun e => by cases e), fun _ => ⟨H, 0, rfl, heap_lt h, fun i y hy j u hu => ?_⟩⟩
  match i, hy with
  | 0, hy =>
    cases hy
    match j, hu with
    | 0, hu =>
      cases hu
      rw [cell_of_row w H (0 + 0 * 1 + 0) _ E fr h]; rfl
  | i + 1, hy => simp at hy
set_option maxRecDepth 100000 in
set_option maxHeartbeats 16000000 in
theorem l6Copy_calls (v : Value) (M : Nat) (c : ProgD) (w : World) (h : ProgRow w v c) (hf : ProgFew M c) (hM : M ≤ 1000) :
    Calls Try.prog 62 #[v] w fun e w' => ∃ v', e = .returned v' ∧ ProgOwnA w.heap.size w' v' c ∧ Below w.heap.size w w' := by
  obtain ⟨hf0, hf1, hf2, hf3, hf4, hf5⟩ := hf
  obtain ⟨a0, p0, a1, p1, a2, p2, a3, p3, a4, p4, rfl, r0, r1, r2, r3, r4⟩ := h
  have HI0 := Lib.hid r0; clear r0
  have HI1 := Lib.hid r1; clear r1
  have HI2 := Lib.hid r2; clear r2
  have HI3 := Lib.hid r3; clear r3
  have R4 := Lib.hid r4; have HF5 := Lib.hid hf5; clear r4 hf5
  go_enter Try.func62, Try.ntmps62
  go_wp2_with (fail)
  have hN0 : w.heap.size + 2 ≤ ((w.alloc (.cells #[.slice a0 c.sems.length p0, .slice a1 c.groups.length p1, .slice a2 c.barriers.length p2, .slice a3 c.rooms.length p3, .slice a4 c.threads.length p4] 30)).alloc (.cells #[.slice none 0 0, .slice none 0 0, .slice none 0 0, .slice none 0 0, .slice none 0 0] 30)).heap.size := (by first | omega | (simp only [szA, szS, szD, World.heap_drewN] at * <;> omega))
  refine wp_region_A [⟨0, false, [], fun _ v w' => ∃ g, v = .slice (some ⟨g, 0, none⟩) 0 0 ∧ w.heap.size ≤ g ∧ w'.heap[g]? = some (.cells #[] 3 (0, 0))⟩, ⟨1, false, [], fun _ v _ => v = .pointer (some ⟨w.heap.size, 0, none⟩)⟩, ⟨2, false, [1], fun _ v _ => v = .slice a0 c.sems.length p0⟩, ⟨3, false, [0, 1, 2], fun _ v w' => ∃ a p, v = .slice a c.sems.length p ∧ Own w.heap.size 3 1 encI w' (.slice a c.sems.length p) c.sems⟩, ⟨4, false, [], fun _ v w' => ∃ g, v = .slice (some ⟨g, 0, none⟩) 0 0 ∧ w.heap.size ≤ g ∧ w'.heap[g]? = some (.cells #[] 3 (0, 0))⟩, ⟨5, false, [], fun _ v _ => v = .pointer (some ⟨w.heap.size, 1, none⟩)⟩, ⟨6, false, [5], fun _ v _ => v = .slice a1 c.groups.length p1⟩, ⟨7, false, [4, 5, 6], fun _ v w' => ∃ a p, v = .slice a c.groups.length p ∧ Own w.heap.size 3 1 encI w' (.slice a c.groups.length p) c.groups⟩, ⟨8, false, [], fun _ v w' => ∃ g, v = .slice (some ⟨g, 0, none⟩) 0 0 ∧ w.heap.size ≤ g ∧ w'.heap[g]? = some (.cells #[] 3 (0, 0))⟩, ⟨9, false, [], fun _ v _ => v = .pointer (some ⟨w.heap.size, 2, none⟩)⟩, ⟨10, false, [9], fun _ v _ => v = .slice a2 c.barriers.length p2⟩, ⟨11, false, [8, 9, 10], fun _ v w' => ∃ a p, v = .slice a c.barriers.length p ∧ Own w.heap.size 3 1 encI w' (.slice a c.barriers.length p) c.barriers⟩, ⟨12, false, [], fun _ v w' => ∃ g, v = .slice (some ⟨g, 0, none⟩) 0 0 ∧ w.heap.size ≤ g ∧ w'.heap[g]? = some (.cells #[] 3 (0, 0))⟩, ⟨13, false, [], fun _ v _ => v = .pointer (some ⟨w.heap.size, 3, none⟩)⟩, ⟨14, false, [13], fun _ v _ => v = .slice a3 c.rooms.length p3⟩, ⟨15, false, [12, 13, 14], fun _ v w' => ∃ a p, v = .slice a c.rooms.length p ∧ Own w.heap.size 3 1 encI w' (.slice a c.rooms.length p) c.rooms⟩, ⟨16, false, [0, 1, 2, 3, 4, 5, 6, 7, 8, 9, 10, 11, 12, 13, 14, 15], fun u v _ => v = .agg #[(u 3), (u 7), (u 11), (u 15), .slice none 0 0]⟩, ⟨17, false, [], fun _ v w' => ∃ g, v = .pointer (some ⟨g, 0, none⟩) ∧ w.heap.size + 2 ≤ g ∧ ∃ cs : Array Value, w'.heap[g]? = some (.cells cs 30 (0, 0)) ∧ cs.size = 5⟩, ⟨18, true, [0, 1, 2, 3, 4, 5, 6, 7, 8, 9, 10, 11, 12, 13, 14, 15, 16, 17], fun u _ w' => ∃ g cs, u 17 = .pointer (some ⟨g, 0, none⟩) ∧ u 16 = .agg cs ∧ w'.heap[g]? = some (.cells cs 30 (0, 0))⟩] (fun i => [0, 3, 4, 7, 8, 11, 12, 15].contains i) (fun i => if i = 0 then 3 else if i = 3 then 3 else if i = 4 then 7 else if i = 7 then 7 else if i = 8 then 11 else if i = 11 then 11 else if i = 12 then 15 else if i = 15 then 15 else 0) (fun d hd => by simp only [List.contains_eq_mem, decide_eq_true_eq, List.mem_cons, List.not_mem_nil, or_false] at hd; simp only [List.map_cons, List.map_nil, List.mem_cons, List.not_mem_nil, or_false]; omega) [(0, some 5), (1, some 6), (2, some 7), (3, some 8), (4, some 9), (5, some 10), (6, some 11), (7, some 12), (8, some 13), (9, some 14), (10, some 15), (11, some 16), (12, some 17), (13, some 18), (14, some 19), (15, some 20), (16, some 21), (17, some 3), (18, none)] (fun f w' => Below w.heap.size w w' ∧ w.heap.size + 2 ≤ w'.heap.size ∧ w'.heap[w.heap.size]? = some (.cells #[.slice a0 c.sems.length p0, .slice a1 c.groups.length p1, .slice a2 c.barriers.length p2, .slice a3 c.rooms.length p3, .slice a4 c.threads.length p4] 30 (0, 0)) ∧ w'.heap[w.heap.size + 1]? = some (.cells #[.slice none 0 0, .slice none 0 0, .slice none 0 0, .slice none 0 0, .slice none 0 0] 30 (0, 0))) (fun x w1 w2 => if x = true then BoxW (w.heap.size + 2) 30 w1 w2 else Below w1.heap.size w1 w2) (by kernel_rfl) (by rfl) (by kernel_rfl) (by kernel_rfl) ⟨(Below.alloc (Below.alloc (Below.refl _ _) (by first | omega | (simp only [szA, szS, szD, World.heap_drewN] at * <;> omega)) _) (by first | omega | (simp only [szA, szS, szD, World.heap_drewN] at * <;> omega)) _).drew, hN0, heap_drew (heap_up (heap_at' (n := w.heap.size) (by first | omega | (simp only [szA, szS, szD, World.heap_drewN] at * <;> omega)))), heap_drew (heap_at' (n := w.heap.size + 1) (by first | omega | (simp only [szA, szS, szD, World.heap_drewN] at * <;> omega)))⟩ (GoalsA.cons ?_ (GoalsA.cons ?_ (GoalsA.cons ?_ (GoalsA.cons ?_ (GoalsA.cons ?_ (GoalsA.cons ?_ (GoalsA.cons ?_ (GoalsA.cons ?_ (GoalsA.cons ?_ (GoalsA.cons ?_ (GoalsA.cons ?_ (GoalsA.cons ?_ (GoalsA.cons ?_ (GoalsA.cons ?_ (GoalsA.cons ?_ (GoalsA.cons ?_ (GoalsA.cons ?_ (GoalsA.cons ?_ (GoalsA.cons ?_ (GoalsA.nil)))))))))))))))))))) ?_
  · refine GoalA.mk (by rfl) (⟨fun _ _ _ _ hR ⟨g, h1, h2, h3⟩ => ⟨g, h1, h2, below_at hR h3⟩, fun _ _ _ _ _ hR ⟨g, h1, h2, h3⟩ => ⟨g, h1, h2, boxW_off h3 hR (by decide)⟩⟩) (fun _ _ _ _ ⟨g, h1, _, h3⟩ g' e => by rw [h1] at e; cases e; exact heap_lt h3) ?_
    intro f u w1 hf hC hD K hK
    obtain ⟨hB, hN, hp, hk0⟩ := hC; clear hf
    clear hD
    simp only [putL, Act.put, List.setIfInBounds_toArray, List.set_cons_zero, List.set_cons_succ] at hK ⊢
    refine Closed.mk ?_
    go_simp
    exact hK.out _ _ ⟨Below.alloc hB (by omega) _, Nat.le_trans hN (alloc_le _ _), heap_up hp, (heap_up hk0)⟩ (Below.alloc (Below.refl _ _) (Nat.le_refl _) _) ⟨_, rfl, by omega, heap_at _ _⟩ (fun _ g' e => .inl (by cases e; exact Nat.le_refl _))
  · refine GoalA.mk (by rfl) (⟨fun _ _ _ _ _ h => h, fun _ _ _ _ _ _ h => h⟩) (fun h => absurd h (by decide)) ?_
    intro f u w1 hf hC hD K hK
    obtain ⟨hB, hN, hp, hk0⟩ := hC; clear hf
    clear hD
    simp only [putL, Act.put, List.setIfInBounds_toArray, List.set_cons_zero, List.set_cons_succ] at hK ⊢
    refine Closed.mk ?_
    go_simp
    exact hK.out _ _ ⟨hB, hN, hp, hk0⟩ (Below.refl _ _) rfl (fun h => absurd h (by decide))
  · refine GoalA.mk (by rfl) (⟨fun _ _ _ _ _ h => h, fun _ _ _ _ _ _ h => h⟩) (fun h => absurd h (by decide)) ?_
    intro f u w1 hf hC hD K hK
    obtain ⟨hB, hN, hp, hk0⟩ := hC; clear hf
    have d1 := hD.1; clear hD
    have q1 : u 1 = .pointer (some ⟨w.heap.size, 0, none⟩) := d1
    have e1 := q1; clear q1
    clear d1
    obtain ⟨c0_0, c0_1, c0_2, c0_3, c0_4, f0_0, f0_1, f0_2, f0_3, f0_4⟩ := box5 hp
    simp only [putL, Act.put, List.setIfInBounds_toArray, List.set_cons_zero, List.set_cons_succ, e1] at hK ⊢
    refine Closed.mk ?_
    go_simp
    exact hK.out _ _ ⟨hB, hN, hp, hk0⟩ (Below.refl _ _) rfl (fun h => absurd h (by decide))
  · refine GoalA.mk (by rfl) (⟨fun _ _ _ _ hR ⟨a, p, h1, h2⟩ => ⟨a, p, h1, h2.kept hR⟩, fun _ _ _ _ _ hR ⟨a, p, h1, h2⟩ => ⟨a, p, h1, h2.boxW hR (by decide)⟩⟩) (fun _ _ _ _ ⟨a, p, h1, h2⟩ g' e => by rw [h1] at e; exact h2.hi g' e) ?_
    intro f u w1 hf hC hD K hK
    obtain ⟨hB, hN, hp, hk0⟩ := hC; clear hf
    have d0 := hD.1; have d1 := hD.2.1; have d2 := hD.2.2.1; clear hD
    have q0 : ∃ g, u 0 = .slice (some ⟨g, 0, none⟩) 0 0 ∧ w.heap.size ≤ g ∧ w1.heap[g]? = some (.cells #[] 3 (0, 0)) := d0
    obtain ⟨g0, e0, q0a, q0b⟩ := q0
    clear d0
    have q1 : u 1 = .pointer (some ⟨w.heap.size, 0, none⟩) := d1
    have e1 := q1; clear q1
    clear d1
    have q2 : u 2 = .slice a0 c.sems.length p0 := d2
    have e2 := q2; clear q2
    clear d2
    simp only [putL, Act.put, List.setIfInBounds_toArray, List.set_cons_zero, List.set_cons_succ, e0, e1, e2] at hK ⊢
    refine Closed.mk ?_
    refine iteT (by simp [Region.wanted]) ?_
    refine wp_cloneE encI_len encI_one _ _ 22 (by rfl) 3 _ 8 Try.underlying22 info_int rfl (by decide) (w.heap.size) g0 (by first | rfl | simp [Act.eval, Act.put]) q0b q0a (.slice a0 c.sems.length p0) c.sems (by first | rfl | simp [Act.eval, Act.put]) (Row.below HI0.out hB) (by decide) (by omega) ?_
    intro ad cp w2 hown hb hblk
    exact hK.out _ _ ⟨Below.trans hB (hb.mono (by omega)), Nat.le_trans hN hb.size, below_at hb hp, (below_at hb hk0)⟩ hb ⟨ad, cp, rfl, hown⟩ (fun _ g' e => (hblk g' e).imp id (fun h => ⟨0, by simp, rfl, rfl, by rw [e0, h]; rfl⟩))
  · refine GoalA.mk (by rfl) (⟨fun _ _ _ _ hR ⟨g, h1, h2, h3⟩ => ⟨g, h1, h2, below_at hR h3⟩, fun _ _ _ _ _ hR ⟨g, h1, h2, h3⟩ => ⟨g, h1, h2, boxW_off h3 hR (by decide)⟩⟩) (fun _ _ _ _ ⟨g, h1, _, h3⟩ g' e => by rw [h1] at e; cases e; exact heap_lt h3) ?_
    intro f u w1 hf hC hD K hK
    obtain ⟨hB, hN, hp, hk0⟩ := hC; clear hf
    clear hD
    simp only [putL, Act.put, List.setIfInBounds_toArray, List.set_cons_zero, List.set_cons_succ] at hK ⊢
    refine Closed.mk ?_
    go_simp
    exact hK.out _ _ ⟨Below.alloc hB (by omega) _, Nat.le_trans hN (alloc_le _ _), heap_up hp, (heap_up hk0)⟩ (Below.alloc (Below.refl _ _) (Nat.le_refl _) _) ⟨_, rfl, by omega, heap_at _ _⟩ (fun _ g' e => .inl (by cases e; exact Nat.le_refl _))
  · refine GoalA.mk (by rfl) (⟨fun _ _ _ _ _ h => h, fun _ _ _ _ _ _ h => h⟩) (fun h => absurd h (by decide)) ?_
    intro f u w1 hf hC hD K hK
    obtain ⟨hB, hN, hp, hk0⟩ := hC; clear hf
    clear hD
    simp only [putL, Act.put, List.setIfInBounds_toArray, List.set_cons_zero, List.set_cons_succ] at hK ⊢
    refine Closed.mk ?_
    go_simp
    exact hK.out _ _ ⟨hB, hN, hp, hk0⟩ (Below.refl _ _) rfl (fun h => absurd h (by decide))
  · refine GoalA.mk (by rfl) (⟨fun _ _ _ _ _ h => h, fun _ _ _ _ _ _ h => h⟩) (fun h => absurd h (by decide)) ?_
    intro f u w1 hf hC hD K hK
    obtain ⟨hB, hN, hp, hk0⟩ := hC; clear hf
    have d5 := hD.1; clear hD
    have q5 : u 5 = .pointer (some ⟨w.heap.size, 1, none⟩) := d5
    have e5 := q5; clear q5
    clear d5
    obtain ⟨c0_0, c0_1, c0_2, c0_3, c0_4, f0_0, f0_1, f0_2, f0_3, f0_4⟩ := box5 hp
    simp only [putL, Act.put, List.setIfInBounds_toArray, List.set_cons_zero, List.set_cons_succ, e5] at hK ⊢
    refine Closed.mk ?_
    go_simp
    exact hK.out _ _ ⟨hB, hN, hp, hk0⟩ (Below.refl _ _) rfl (fun h => absurd h (by decide))
  · refine GoalA.mk (by rfl) (⟨fun _ _ _ _ hR ⟨a, p, h1, h2⟩ => ⟨a, p, h1, h2.kept hR⟩, fun _ _ _ _ _ hR ⟨a, p, h1, h2⟩ => ⟨a, p, h1, h2.boxW hR (by decide)⟩⟩) (fun _ _ _ _ ⟨a, p, h1, h2⟩ g' e => by rw [h1] at e; exact h2.hi g' e) ?_
    intro f u w1 hf hC hD K hK
    obtain ⟨hB, hN, hp, hk0⟩ := hC; clear hf
    have d4 := hD.1; have d5 := hD.2.1; have d6 := hD.2.2.1; clear hD
    have q4 : ∃ g, u 4 = .slice (some ⟨g, 0, none⟩) 0 0 ∧ w.heap.size ≤ g ∧ w1.heap[g]? = some (.cells #[] 3 (0, 0)) := d4
    obtain ⟨g4, e4, q4a, q4b⟩ := q4
    clear d4
    have q5 : u 5 = .pointer (some ⟨w.heap.size, 1, none⟩) := d5
    have e5 := q5; clear q5
    clear d5
    have q6 : u 6 = .slice a1 c.groups.length p1 := d6
    have e6 := q6; clear q6
    clear d6
    simp only [putL, Act.put, List.setIfInBounds_toArray, List.set_cons_zero, List.set_cons_succ, e4, e5, e6] at hK ⊢
    refine Closed.mk ?_
    refine iteT (by simp [Region.wanted]) ?_
    refine wp_cloneE encI_len encI_one _ _ 22 (by rfl) 3 _ 8 Try.underlying22 info_int rfl (by decide) (w.heap.size) g4 (by first | rfl | simp [Act.eval, Act.put]) q4b q4a (.slice a1 c.groups.length p1) c.groups (by first | rfl | simp [Act.eval, Act.put]) (Row.below HI1.out hB) (by decide) (by omega) ?_
    intro ad cp w2 hown hb hblk
    exact hK.out _ _ ⟨Below.trans hB (hb.mono (by omega)), Nat.le_trans hN hb.size, below_at hb hp, (below_at hb hk0)⟩ hb ⟨ad, cp, rfl, hown⟩ (fun _ g' e => (hblk g' e).imp id (fun h => ⟨4, by simp, rfl, rfl, by rw [e4, h]; rfl⟩))
  · refine GoalA.mk (by rfl) (⟨fun _ _ _ _ hR ⟨g, h1, h2, h3⟩ => ⟨g, h1, h2, below_at hR h3⟩, fun _ _ _ _ _ hR ⟨g, h1, h2, h3⟩ => ⟨g, h1, h2, boxW_off h3 hR (by decide)⟩⟩) (fun _ _ _ _ ⟨g, h1, _, h3⟩ g' e => by rw [h1] at e; cases e; exact heap_lt h3) ?_
    intro f u w1 hf hC hD K hK
    obtain ⟨hB, hN, hp, hk0⟩ := hC; clear hf
    clear hD
    simp only [putL, Act.put, List.setIfInBounds_toArray, List.set_cons_zero, List.set_cons_succ] at hK ⊢
    refine Closed.mk ?_
    go_simp
    exact hK.out _ _ ⟨Below.alloc hB (by omega) _, Nat.le_trans hN (alloc_le _ _), heap_up hp, (heap_up hk0)⟩ (Below.alloc (Below.refl _ _) (Nat.le_refl _) _) ⟨_, rfl, by omega, heap_at _ _⟩ (fun _ g' e => .inl (by cases e; exact Nat.le_refl _))
  · refine GoalA.mk (by rfl) (⟨fun _ _ _ _ _ h => h, fun _ _ _ _ _ _ h => h⟩) (fun h => absurd h (by decide)) ?_
    intro f u w1 hf hC hD K hK
    obtain ⟨hB, hN, hp, hk0⟩ := hC; clear hf
    clear hD
    simp only [putL, Act.put, List.setIfInBounds_toArray, List.set_cons_zero, List.set_cons_succ] at hK ⊢
    refine Closed.mk ?_
    go_simp
    exact hK.out _ _ ⟨hB, hN, hp, hk0⟩ (Below.refl _ _) rfl (fun h => absurd h (by decide))
  · refine GoalA.mk (by rfl) (⟨fun _ _ _ _ _ h => h, fun _ _ _ _ _ _ h => h⟩) (fun h => absurd h (by decide)) ?_
    intro f u w1 hf hC hD K hK
    obtain ⟨hB, hN, hp, hk0⟩ := hC; clear hf
    have d9 := hD.1; clear hD
    have q9 : u 9 = .pointer (some ⟨w.heap.size, 2, none⟩) := d9
    have e9 := q9; clear q9
    clear d9
    obtain ⟨c0_0, c0_1, c0_2, c0_3, c0_4, f0_0, f0_1, f0_2, f0_3, f0_4⟩ := box5 hp
    simp only [putL, Act.put, List.setIfInBounds_toArray, List.set_cons_zero, List.set_cons_succ, e9] at hK ⊢
    refine Closed.mk ?_
    go_simp
    exact hK.out _ _ ⟨hB, hN, hp, hk0⟩ (Below.refl _ _) rfl (fun h => absurd h (by decide))
  · refine GoalA.mk (by rfl) (⟨fun _ _ _ _ hR ⟨a, p, h1, h2⟩ => ⟨a, p, h1, h2.kept hR⟩, fun _ _ _ _ _ hR ⟨a, p, h1, h2⟩ => ⟨a, p, h1, h2.boxW hR (by decide)⟩⟩) (fun _ _ _ _ ⟨a, p, h1, h2⟩ g' e => by rw [h1] at e; exact h2.hi g' e) ?_
    intro f u w1 hf hC hD K hK
    obtain ⟨hB, hN, hp, hk0⟩ := hC; clear hf
    have d8 := hD.1; have d9 := hD.2.1; have d10 := hD.2.2.1; clear hD
    have q8 : ∃ g, u 8 = .slice (some ⟨g, 0, none⟩) 0 0 ∧ w.heap.size ≤ g ∧ w1.heap[g]? = some (.cells #[] 3 (0, 0)) := d8
    obtain ⟨g8, e8, q8a, q8b⟩ := q8
    clear d8
    have q9 : u 9 = .pointer (some ⟨w.heap.size, 2, none⟩) := d9
    have e9 := q9; clear q9
    clear d9
    have q10 : u 10 = .slice a2 c.barriers.length p2 := d10
    have e10 := q10; clear q10
    clear d10
    simp only [putL, Act.put, List.setIfInBounds_toArray, List.set_cons_zero, List.set_cons_succ, e8, e9, e10] at hK ⊢
    refine Closed.mk ?_
    refine iteT (by simp [Region.wanted]) ?_
    refine wp_cloneE encI_len encI_one _ _ 22 (by rfl) 3 _ 8 Try.underlying22 info_int rfl (by decide) (w.heap.size) g8 (by first | rfl | simp [Act.eval, Act.put]) q8b q8a (.slice a2 c.barriers.length p2) c.barriers (by first | rfl | simp [Act.eval, Act.put]) (Row.below HI2.out hB) (by decide) (by omega) ?_
    intro ad cp w2 hown hb hblk
    exact hK.out _ _ ⟨Below.trans hB (hb.mono (by omega)), Nat.le_trans hN hb.size, below_at hb hp, (below_at hb hk0)⟩ hb ⟨ad, cp, rfl, hown⟩ (fun _ g' e => (hblk g' e).imp id (fun h => ⟨8, by simp, rfl, rfl, by rw [e8, h]; rfl⟩))
  · refine GoalA.mk (by rfl) (⟨fun _ _ _ _ hR ⟨g, h1, h2, h3⟩ => ⟨g, h1, h2, below_at hR h3⟩, fun _ _ _ _ _ hR ⟨g, h1, h2, h3⟩ => ⟨g, h1, h2, boxW_off h3 hR (by decide)⟩⟩) (fun _ _ _ _ ⟨g, h1, _, h3⟩ g' e => by rw [h1] at e; cases e; exact heap_lt h3) ?_
    intro f u w1 hf hC hD K hK
    obtain ⟨hB, hN, hp, hk0⟩ := hC; clear hf
    clear hD
    simp only [putL, Act.put, List.setIfInBounds_toArray, List.set_cons_zero, List.set_cons_succ] at hK ⊢
    refine Closed.mk ?_
    go_simp
    exact hK.out _ _ ⟨Below.alloc hB (by omega) _, Nat.le_trans hN (alloc_le _ _), heap_up hp, (heap_up hk0)⟩ (Below.alloc (Below.refl _ _) (Nat.le_refl _) _) ⟨_, rfl, by omega, heap_at _ _⟩ (fun _ g' e => .inl (by cases e; exact Nat.le_refl _))
  · refine GoalA.mk (by rfl) (⟨fun _ _ _ _ _ h => h, fun _ _ _ _ _ _ h => h⟩) (fun h => absurd h (by decide)) ?_
    intro f u w1 hf hC hD K hK
    obtain ⟨hB, hN, hp, hk0⟩ := hC; clear hf
    clear hD
    simp only [putL, Act.put, List.setIfInBounds_toArray, List.set_cons_zero, List.set_cons_succ] at hK ⊢
    refine Closed.mk ?_
    go_simp
    exact hK.out _ _ ⟨hB, hN, hp, hk0⟩ (Below.refl _ _) rfl (fun h => absurd h (by decide))
  · refine GoalA.mk (by rfl) (⟨fun _ _ _ _ _ h => h, fun _ _ _ _ _ _ h => h⟩) (fun h => absurd h (by decide)) ?_
    intro f u w1 hf hC hD K hK
    obtain ⟨hB, hN, hp, hk0⟩ := hC; clear hf
    have d13 := hD.1; clear hD
    have q13 : u 13 = .pointer (some ⟨w.heap.size, 3, none⟩) := d13
    have e13 := q13; clear q13
    clear d13
    obtain ⟨c0_0, c0_1, c0_2, c0_3, c0_4, f0_0, f0_1, f0_2, f0_3, f0_4⟩ := box5 hp
    simp only [putL, Act.put, List.setIfInBounds_toArray, List.set_cons_zero, List.set_cons_succ, e13] at hK ⊢
    refine Closed.mk ?_
    go_simp
    exact hK.out _ _ ⟨hB, hN, hp, hk0⟩ (Below.refl _ _) rfl (fun h => absurd h (by decide))
  · refine GoalA.mk (by rfl) (⟨fun _ _ _ _ hR ⟨a, p, h1, h2⟩ => ⟨a, p, h1, h2.kept hR⟩, fun _ _ _ _ _ hR ⟨a, p, h1, h2⟩ => ⟨a, p, h1, h2.boxW hR (by decide)⟩⟩) (fun _ _ _ _ ⟨a, p, h1, h2⟩ g' e => by rw [h1] at e; exact h2.hi g' e) ?_
    intro f u w1 hf hC hD K hK
    obtain ⟨hB, hN, hp, hk0⟩ := hC; clear hf
    have d12 := hD.1; have d13 := hD.2.1; have d14 := hD.2.2.1; clear hD
    have q12 : ∃ g, u 12 = .slice (some ⟨g, 0, none⟩) 0 0 ∧ w.heap.size ≤ g ∧ w1.heap[g]? = some (.cells #[] 3 (0, 0)) := d12
    obtain ⟨g12, e12, q12a, q12b⟩ := q12
    clear d12
    have q13 : u 13 = .pointer (some ⟨w.heap.size, 3, none⟩) := d13
    have e13 := q13; clear q13
    clear d13
    have q14 : u 14 = .slice a3 c.rooms.length p3 := d14
    have e14 := q14; clear q14
    clear d14
    simp only [putL, Act.put, List.setIfInBounds_toArray, List.set_cons_zero, List.set_cons_succ, e12, e13, e14] at hK ⊢
    refine Closed.mk ?_
    refine iteT (by simp [Region.wanted]) ?_
    refine wp_cloneE encI_len encI_one _ _ 22 (by rfl) 3 _ 8 Try.underlying22 info_int rfl (by decide) (w.heap.size) g12 (by first | rfl | simp [Act.eval, Act.put]) q12b q12a (.slice a3 c.rooms.length p3) c.rooms (by first | rfl | simp [Act.eval, Act.put]) (Row.below HI3.out hB) (by decide) (by omega) ?_
    intro ad cp w2 hown hb hblk
    exact hK.out _ _ ⟨Below.trans hB (hb.mono (by omega)), Nat.le_trans hN hb.size, below_at hb hp, (below_at hb hk0)⟩ hb ⟨ad, cp, rfl, hown⟩ (fun _ g' e => (hblk g' e).imp id (fun h => ⟨12, by simp, rfl, rfl, by rw [e12, h]; rfl⟩))
  · refine GoalA.mk (by rfl) (⟨fun _ _ _ _ _ h => h, fun _ _ _ _ _ _ h => h⟩) (fun h => absurd h (by decide)) ?_
    intro f u w1 hf hC hD K hK
    obtain ⟨hB, hN, hp, hk0⟩ := hC; clear hf
    have d0 := hD.1; have d1 := hD.2.1; have d2 := hD.2.2.1; have d3 := hD.2.2.2.1; have d4 := hD.2.2.2.2.1; have d5 := hD.2.2.2.2.2.1; have d6 := hD.2.2.2.2.2.2.1; have d7 := hD.2.2.2.2.2.2.2.1; have d8 := hD.2.2.2.2.2.2.2.2.1; have d9 := hD.2.2.2.2.2.2.2.2.2.1; have d10 := hD.2.2.2.2.2.2.2.2.2.2.1; have d11 := hD.2.2.2.2.2.2.2.2.2.2.2.1; have d12 := hD.2.2.2.2.2.2.2.2.2.2.2.2.1; have d13 := hD.2.2.2.2.2.2.2.2.2.2.2.2.2.1; have d14 := hD.2.2.2.2.2.2.2.2.2.2.2.2.2.2.1; have d15 := hD.2.2.2.2.2.2.2.2.2.2.2.2.2.2.2.1; clear hD
    have q0 : ∃ g, u 0 = .slice (some ⟨g, 0, none⟩) 0 0 ∧ w.heap.size ≤ g ∧ w1.heap[g]? = some (.cells #[] 3 (0, 0)) := d0
    obtain ⟨g0, e0, q0a, q0b⟩ := q0
    clear d0
    have q1 : u 1 = .pointer (some ⟨w.heap.size, 0, none⟩) := d1
    have e1 := q1; clear q1
    clear d1
    have q2 : u 2 = .slice a0 c.sems.length p0 := d2
    have e2 := q2; clear q2
    clear d2
    have q3 : ∃ a p, u 3 = .slice a c.sems.length p ∧ Own w.heap.size 3 1 encI w1 (.slice a c.sems.length p) c.sems := d3
    obtain ⟨ka3, kp3, e3, q3a⟩ := q3
    clear d3
    have q4 : ∃ g, u 4 = .slice (some ⟨g, 0, none⟩) 0 0 ∧ w.heap.size ≤ g ∧ w1.heap[g]? = some (.cells #[] 3 (0, 0)) := d4
    obtain ⟨g4, e4, q4a, q4b⟩ := q4
    clear d4
    have q5 : u 5 = .pointer (some ⟨w.heap.size, 1, none⟩) := d5
    have e5 := q5; clear q5
    clear d5
    have q6 : u 6 = .slice a1 c.groups.length p1 := d6
    have e6 := q6; clear q6
    clear d6
    have q7 : ∃ a p, u 7 = .slice a c.groups.length p ∧ Own w.heap.size 3 1 encI w1 (.slice a c.groups.length p) c.groups := d7
    obtain ⟨ka7, kp7, e7, q7a⟩ := q7
    clear d7
    have q8 : ∃ g, u 8 = .slice (some ⟨g, 0, none⟩) 0 0 ∧ w.heap.size ≤ g ∧ w1.heap[g]? = some (.cells #[] 3 (0, 0)) := d8
    obtain ⟨g8, e8, q8a, q8b⟩ := q8
    clear d8
    have q9 : u 9 = .pointer (some ⟨w.heap.size, 2, none⟩) := d9
    have e9 := q9; clear q9
    clear d9
    have q10 : u 10 = .slice a2 c.barriers.length p2 := d10
    have e10 := q10; clear q10
    clear d10
    have q11 : ∃ a p, u 11 = .slice a c.barriers.length p ∧ Own w.heap.size 3 1 encI w1 (.slice a c.barriers.length p) c.barriers := d11
    obtain ⟨ka11, kp11, e11, q11a⟩ := q11
    clear d11
    have q12 : ∃ g, u 12 = .slice (some ⟨g, 0, none⟩) 0 0 ∧ w.heap.size ≤ g ∧ w1.heap[g]? = some (.cells #[] 3 (0, 0)) := d12
    obtain ⟨g12, e12, q12a, q12b⟩ := q12
    clear d12
    have q13 : u 13 = .pointer (some ⟨w.heap.size, 3, none⟩) := d13
    have e13 := q13; clear q13
    clear d13
    have q14 : u 14 = .slice a3 c.rooms.length p3 := d14
    have e14 := q14; clear q14
    clear d14
    have q15 : ∃ a p, u 15 = .slice a c.rooms.length p ∧ Own w.heap.size 3 1 encI w1 (.slice a c.rooms.length p) c.rooms := d15
    obtain ⟨ka15, kp15, e15, q15a⟩ := q15
    clear d15
    simp only [putL, Act.put, List.setIfInBounds_toArray, List.set_cons_zero, List.set_cons_succ, e0, e1, e2, e3, e4, e5, e6, e7, e8, e9, e10, e11, e12, e13, e14, e15] at hK ⊢
    refine Closed.mk ?_
    go_simp
    exact hK.out _ _ ⟨hB, hN, hp, hk0⟩ (Below.refl _ _) (by simp [mask, e3, e7, e11, e15]) (fun h => absurd h (by decide))
  · refine GoalA.mk (by rfl) (⟨fun _ _ _ _ hR ⟨g, h1, h2, cs, h3, h4⟩ => ⟨g, h1, h2, cs, below_at hR h3, h4⟩, fun _ _ _ _ _ hR ⟨g, h1, h2, cs, h3, h4⟩ => ⟨g, h1, h2, by obtain ⟨cs', q1, q2⟩ := boxW_shape h3 hR; exact ⟨cs', q1, q2.trans h4⟩⟩⟩) (fun h => absurd h (by decide)) ?_
    intro f u w1 hf hC hD K hK
    obtain ⟨hB, hN, hp, hk0⟩ := hC; clear hf
    clear hD
    simp only [putL, Act.put, List.setIfInBounds_toArray, List.set_cons_zero, List.set_cons_succ] at hK ⊢
    refine Closed.mk ?_
    go_simp
    exact hK.out _ _ ⟨Below.alloc hB (by omega) _, Nat.le_trans hN (alloc_le _ _), heap_up hp, (heap_up hk0)⟩ (Below.alloc (Below.refl _ _) (Nat.le_refl _) _) ⟨_, rfl, by omega, _, heap_at _ _, rfl⟩ (fun h => absurd h (by decide))
  · refine GoalA.mk (by rfl) (⟨fun u v w w' hR ⟨g, cs, h0, h1, h2⟩ => ⟨g, cs, h0, h1, below_at hR h2⟩, fun h => by cases h⟩) (fun h => absurd h (by decide)) ?_
    intro f u w1 hf hC hD K hK
    obtain ⟨hB, hN, hp, hk0⟩ := hC; clear hf
    have d0 := hD.1; have d1 := hD.2.1; have d2 := hD.2.2.1; have d3 := hD.2.2.2.1; have d4 := hD.2.2.2.2.1; have d5 := hD.2.2.2.2.2.1; have d6 := hD.2.2.2.2.2.2.1; have d7 := hD.2.2.2.2.2.2.2.1; have d8 := hD.2.2.2.2.2.2.2.2.1; have d9 := hD.2.2.2.2.2.2.2.2.2.1; have d10 := hD.2.2.2.2.2.2.2.2.2.2.1; have d11 := hD.2.2.2.2.2.2.2.2.2.2.2.1; have d12 := hD.2.2.2.2.2.2.2.2.2.2.2.2.1; have d13 := hD.2.2.2.2.2.2.2.2.2.2.2.2.2.1; have d14 := hD.2.2.2.2.2.2.2.2.2.2.2.2.2.2.1; have d15 := hD.2.2.2.2.2.2.2.2.2.2.2.2.2.2.2.1; have d16 := hD.2.2.2.2.2.2.2.2.2.2.2.2.2.2.2.2.1; have d17 := hD.2.2.2.2.2.2.2.2.2.2.2.2.2.2.2.2.2.1; clear hD
    have q0 : ∃ g, u 0 = .slice (some ⟨g, 0, none⟩) 0 0 ∧ w.heap.size ≤ g ∧ w1.heap[g]? = some (.cells #[] 3 (0, 0)) := d0
    obtain ⟨g0, e0, q0a, q0b⟩ := q0
    clear d0
    have q1 : u 1 = .pointer (some ⟨w.heap.size, 0, none⟩) := d1
    have e1 := q1; clear q1
    clear d1
    have q2 : u 2 = .slice a0 c.sems.length p0 := d2
    have e2 := q2; clear q2
    clear d2
    have q3 : ∃ a p, u 3 = .slice a c.sems.length p ∧ Own w.heap.size 3 1 encI w1 (.slice a c.sems.length p) c.sems := d3
    obtain ⟨ka3, kp3, e3, q3a⟩ := q3
    clear d3
    have q4 : ∃ g, u 4 = .slice (some ⟨g, 0, none⟩) 0 0 ∧ w.heap.size ≤ g ∧ w1.heap[g]? = some (.cells #[] 3 (0, 0)) := d4
    obtain ⟨g4, e4, q4a, q4b⟩ := q4
    clear d4
    have q5 : u 5 = .pointer (some ⟨w.heap.size, 1, none⟩) := d5
    have e5 := q5; clear q5
    clear d5
    have q6 : u 6 = .slice a1 c.groups.length p1 := d6
    have e6 := q6; clear q6
    clear d6
    have q7 : ∃ a p, u 7 = .slice a c.groups.length p ∧ Own w.heap.size 3 1 encI w1 (.slice a c.groups.length p) c.groups := d7
    obtain ⟨ka7, kp7, e7, q7a⟩ := q7
    clear d7
    have q8 : ∃ g, u 8 = .slice (some ⟨g, 0, none⟩) 0 0 ∧ w.heap.size ≤ g ∧ w1.heap[g]? = some (.cells #[] 3 (0, 0)) := d8
    obtain ⟨g8, e8, q8a, q8b⟩ := q8
    clear d8
    have q9 : u 9 = .pointer (some ⟨w.heap.size, 2, none⟩) := d9
    have e9 := q9; clear q9
    clear d9
    have q10 : u 10 = .slice a2 c.barriers.length p2 := d10
    have e10 := q10; clear q10
    clear d10
    have q11 : ∃ a p, u 11 = .slice a c.barriers.length p ∧ Own w.heap.size 3 1 encI w1 (.slice a c.barriers.length p) c.barriers := d11
    obtain ⟨ka11, kp11, e11, q11a⟩ := q11
    clear d11
    have q12 : ∃ g, u 12 = .slice (some ⟨g, 0, none⟩) 0 0 ∧ w.heap.size ≤ g ∧ w1.heap[g]? = some (.cells #[] 3 (0, 0)) := d12
    obtain ⟨g12, e12, q12a, q12b⟩ := q12
    clear d12
    have q13 : u 13 = .pointer (some ⟨w.heap.size, 3, none⟩) := d13
    have e13 := q13; clear q13
    clear d13
    have q14 : u 14 = .slice a3 c.rooms.length p3 := d14
    have e14 := q14; clear q14
    clear d14
    have q15 : ∃ a p, u 15 = .slice a c.rooms.length p ∧ Own w.heap.size 3 1 encI w1 (.slice a c.rooms.length p) c.rooms := d15
    obtain ⟨ka15, kp15, e15, q15a⟩ := q15
    clear d15
    have q16 : u 16 = .agg #[(u 3), (u 7), (u 11), (u 15), .slice none 0 0] := d16
    have e16 := q16; clear q16
    rw [e3, e7, e11, e15] at e16
    clear d16
    have q17 : ∃ g, u 17 = .pointer (some ⟨g, 0, none⟩) ∧ w.heap.size + 2 ≤ g ∧ ∃ cs : Array Value, w1.heap[g]? = some (.cells cs 30 (0, 0)) ∧ cs.size = 5 := d17
    obtain ⟨g17, e17, q17a, cs17, q17b, q17c⟩ := q17
    clear d17
    obtain ⟨z0, z1, z2, z3, z4, rfl⟩ := cells5 q17c
    obtain ⟨c9_0, c9_1, c9_2, c9_3, c9_4, f9_0, f9_1, f9_2, f9_3, f9_4⟩ := box5 q17b
    simp only [putL, Act.put, List.setIfInBounds_toArray, List.set_cons_zero, List.set_cons_succ, e0, e1, e2, e3, e4, e5, e6, e7, e8, e9, e10, e11, e12, e13, e14, e15, e16, e17] at hK ⊢
    refine Closed.mk ?_
    go_simp
    exact hK.out undef _ ⟨(below_setAt (below_setAt (below_setAt (below_setAt (below_setAt hB (g17) 0 (by omega) (.slice ka3 c.sems.length kp3)) (g17) 1 (by omega) (.slice ka7 c.groups.length kp7)) (g17) 2 (by omega) (.slice ka11 c.barriers.length kp11)) (g17) 3 (by omega) (.slice ka15 c.rooms.length kp15)) (g17) 4 (by omega) (.slice none 0 0)), by simp only [szS]; exact hN, (set_off (a := ⟨g17, 4, none⟩) (set_off (a := ⟨g17, 3, none⟩) (set_off (a := ⟨g17, 2, none⟩) (set_off (a := ⟨g17, 1, none⟩) (set_off (a := ⟨g17, 0, none⟩) hp (show g17 ≠ w.heap.size by omega) (.slice ka3 c.sems.length kp3)) (show g17 ≠ w.heap.size by omega) (.slice ka7 c.groups.length kp7)) (show g17 ≠ w.heap.size by omega) (.slice ka11 c.barriers.length kp11)) (show g17 ≠ w.heap.size by omega) (.slice ka15 c.rooms.length kp15)) (show g17 ≠ w.heap.size by omega) (.slice none 0 0)), (set_off (a := ⟨g17, 4, none⟩) (set_off (a := ⟨g17, 3, none⟩) (set_off (a := ⟨g17, 2, none⟩) (set_off (a := ⟨g17, 1, none⟩) (set_off (a := ⟨g17, 0, none⟩) hk0 (show g17 ≠ w.heap.size + 1 by omega) (.slice ka3 c.sems.length kp3)) (show g17 ≠ w.heap.size + 1 by omega) (.slice ka7 c.groups.length kp7)) (show g17 ≠ w.heap.size + 1 by omega) (.slice ka11 c.barriers.length kp11)) (show g17 ≠ w.heap.size + 1 by omega) (.slice ka15 c.rooms.length kp15)) (show g17 ≠ w.heap.size + 1 by omega) (.slice none 0 0))⟩ ⟨g17, _, _, q17a, q17b, (set_at (a := ⟨g17, 4, none⟩) (set_at (a := ⟨g17, 3, none⟩) (set_at (a := ⟨g17, 2, none⟩) (set_at (a := ⟨g17, 1, none⟩) (set_at (a := ⟨g17, 0, none⟩) q17b rfl rfl (.slice ka3 c.sems.length kp3)) rfl rfl (.slice ka7 c.groups.length kp7)) rfl rfl (.slice ka11 c.barriers.length kp11)) rfl rfl (.slice ka15 c.rooms.length kp15)) rfl rfl (.slice none 0 0)), rfl, (grown_set (a := ⟨g17, 4, none⟩) (grown_set (a := ⟨g17, 3, none⟩) (grown_set (a := ⟨g17, 2, none⟩) (grown_set (a := ⟨g17, 1, none⟩) (grown_set (a := ⟨g17, 0, none⟩) (World.grownBy.refl _ _) rfl (.slice ka3 c.sems.length kp3)) rfl (.slice ka7 c.groups.length kp7)) rfl (.slice ka11 c.barriers.length kp11)) rfl (.slice ka15 c.rooms.length kp15)) rfl (.slice none 0 0))⟩ ⟨_, _, e17, (by first | (simp [mask, e16]; done) | (simp [mask, e16]; rfl)), (set_at (a := ⟨g17, 4, none⟩) (set_at (a := ⟨g17, 3, none⟩) (set_at (a := ⟨g17, 2, none⟩) (set_at (a := ⟨g17, 1, none⟩) (set_at (a := ⟨g17, 0, none⟩) q17b rfl rfl (.slice ka3 c.sems.length kp3)) rfl rfl (.slice ka7 c.groups.length kp7)) rfl rfl (.slice ka11 c.barriers.length kp11)) rfl rfl (.slice ka15 c.rooms.length kp15)) rfl rfl (.slice none 0 0))⟩ (fun h => absurd h (by decide))
  intro u w1 hC hD hAp
  obtain ⟨hB, hN, hp, hk0⟩ := hC
  have d0 := hD.1; have d1 := hD.2.1; have d2 := hD.2.2.1; have d3 := hD.2.2.2.1; have d4 := hD.2.2.2.2.1; have d5 := hD.2.2.2.2.2.1; have d6 := hD.2.2.2.2.2.2.1; have d7 := hD.2.2.2.2.2.2.2.1; have d8 := hD.2.2.2.2.2.2.2.2.1; have d9 := hD.2.2.2.2.2.2.2.2.2.1; have d10 := hD.2.2.2.2.2.2.2.2.2.2.1; have d11 := hD.2.2.2.2.2.2.2.2.2.2.2.1; have d12 := hD.2.2.2.2.2.2.2.2.2.2.2.2.1; have d13 := hD.2.2.2.2.2.2.2.2.2.2.2.2.2.1; have d14 := hD.2.2.2.2.2.2.2.2.2.2.2.2.2.2.1; have d15 := hD.2.2.2.2.2.2.2.2.2.2.2.2.2.2.2.1; have d16 := hD.2.2.2.2.2.2.2.2.2.2.2.2.2.2.2.2.1; have d17 := hD.2.2.2.2.2.2.2.2.2.2.2.2.2.2.2.2.2.1; have d18 := hD.2.2.2.2.2.2.2.2.2.2.2.2.2.2.2.2.2.2.1; clear hD
  have q0 : ∃ g, u 0 = .slice (some ⟨g, 0, none⟩) 0 0 ∧ w.heap.size ≤ g ∧ w1.heap[g]? = some (.cells #[] 3 (0, 0)) := d0
  obtain ⟨g0, e0, q0a, q0b⟩ := q0
  clear d0
  have q1 : u 1 = .pointer (some ⟨w.heap.size, 0, none⟩) := d1
  have e1 := q1; clear q1
  clear d1
  have q2 : u 2 = .slice a0 c.sems.length p0 := d2
  have e2 := q2; clear q2
  clear d2
  have q3 : ∃ a p, u 3 = .slice a c.sems.length p ∧ Own w.heap.size 3 1 encI w1 (.slice a c.sems.length p) c.sems := d3
  obtain ⟨ka3, kp3, e3, q3a⟩ := q3
  clear d3
  have q4 : ∃ g, u 4 = .slice (some ⟨g, 0, none⟩) 0 0 ∧ w.heap.size ≤ g ∧ w1.heap[g]? = some (.cells #[] 3 (0, 0)) := d4
  obtain ⟨g4, e4, q4a, q4b⟩ := q4
  clear d4
  have q5 : u 5 = .pointer (some ⟨w.heap.size, 1, none⟩) := d5
  have e5 := q5; clear q5
  clear d5
  have q6 : u 6 = .slice a1 c.groups.length p1 := d6
  have e6 := q6; clear q6
  clear d6
  have q7 : ∃ a p, u 7 = .slice a c.groups.length p ∧ Own w.heap.size 3 1 encI w1 (.slice a c.groups.length p) c.groups := d7
  obtain ⟨ka7, kp7, e7, q7a⟩ := q7
  clear d7
  have q8 : ∃ g, u 8 = .slice (some ⟨g, 0, none⟩) 0 0 ∧ w.heap.size ≤ g ∧ w1.heap[g]? = some (.cells #[] 3 (0, 0)) := d8
  obtain ⟨g8, e8, q8a, q8b⟩ := q8
  clear d8
  have q9 : u 9 = .pointer (some ⟨w.heap.size, 2, none⟩) := d9
  have e9 := q9; clear q9
  clear d9
  have q10 : u 10 = .slice a2 c.barriers.length p2 := d10
  have e10 := q10; clear q10
  clear d10
  have q11 : ∃ a p, u 11 = .slice a c.barriers.length p ∧ Own w.heap.size 3 1 encI w1 (.slice a c.barriers.length p) c.barriers := d11
  obtain ⟨ka11, kp11, e11, q11a⟩ := q11
  clear d11
  have q12 : ∃ g, u 12 = .slice (some ⟨g, 0, none⟩) 0 0 ∧ w.heap.size ≤ g ∧ w1.heap[g]? = some (.cells #[] 3 (0, 0)) := d12
  obtain ⟨g12, e12, q12a, q12b⟩ := q12
  clear d12
  have q13 : u 13 = .pointer (some ⟨w.heap.size, 3, none⟩) := d13
  have e13 := q13; clear q13
  clear d13
  have q14 : u 14 = .slice a3 c.rooms.length p3 := d14
  have e14 := q14; clear q14
  clear d14
  have q15 : ∃ a p, u 15 = .slice a c.rooms.length p ∧ Own w.heap.size 3 1 encI w1 (.slice a c.rooms.length p) c.rooms := d15
  obtain ⟨ka15, kp15, e15, q15a⟩ := q15
  clear d15
  have q16 : u 16 = .agg #[(u 3), (u 7), (u 11), (u 15), .slice none 0 0] := d16
  have e16 := q16; clear q16
  rw [e3, e7, e11, e15] at e16
  clear d16
  have q17 : ∃ g, u 17 = .pointer (some ⟨g, 0, none⟩) ∧ w.heap.size + 2 ≤ g ∧ ∃ cs : Array Value, w1.heap[g]? = some (.cells cs 30 (0, 0)) ∧ cs.size = 5 := d17
  obtain ⟨g17, e17, q17a, cs17, q17b, q17c⟩ := q17
  clear d17
  have q18 : ∃ g cs, u 17 = .pointer (some ⟨g, 0, none⟩) ∧ u 16 = .agg cs ∧ w1.heap[g]? = some (.cells cs 30 (0, 0)) := d18
  clear d18
  have ap3_7 := hAp 3 7 rfl rfl (by decide)
  rw [e3, e7] at ap3_7
  have AP3_7 := Lib.hid ap3_7; clear ap3_7
  have ap3_11 := hAp 3 11 rfl rfl (by decide)
  rw [e3, e11] at ap3_11
  have AP3_11 := Lib.hid ap3_11; clear ap3_11
  have ap3_15 := hAp 3 15 rfl rfl (by decide)
  rw [e3, e15] at ap3_15
  have AP3_15 := Lib.hid ap3_15; clear ap3_15
  have ap7_11 := hAp 7 11 rfl rfl (by decide)
  rw [e7, e11] at ap7_11
  have AP7_11 := Lib.hid ap7_11; clear ap7_11
  have ap7_15 := hAp 7 15 rfl rfl (by decide)
  rw [e7, e15] at ap7_15
  have AP7_15 := Lib.hid ap7_15; clear ap7_15
  have ap11_15 := hAp 11 15 rfl rfl (by decide)
  rw [e11, e15] at ap11_15
  have AP11_15 := Lib.hid ap11_15; clear ap11_15
  clear hAp
  obtain ⟨gg, cc, hg0, hg1, hg2⟩ := q18
  have hg3 := same_agg e16 hg1
  have hg4 := same_tuple e17 hg0
  rw [hg3, hg4] at hg2
  clear hg0 hg1 hg3 hg4
  obtain ⟨gO, hgO⟩ : ∃ g, g = g17 := ⟨_, rfl⟩
  rw [← hgO] at hg2 q17a e17
  clear hgO
  clear q17b q17c
  have Xout_1 := Lib.hid hg2; clear hg2
  have B1 := Lib.hid hB; have Xp_1 := Lib.hid hp; have N1 := hN; have hgO1 := q17a; have S1 : w.heap.size ≤ w1.heap.size := (by omega); clear hB hp hN
  have Xret_1 := Lib.hid hk0; clear hk0
  have Oc3_1 := Lib.hid q3a; clear q3a
  have Oc7_1 := Lib.hid q7a; clear q7a
  have Oc11_1 := Lib.hid q11a; clear q11a
  have Oc15_1 := Lib.hid q15a; clear q15a
  clear q0a q0b
  clear q4a q4b
  clear q8a q8b
  clear q12a q12b
  obtain ⟨cp1_0, cp1_1, cp1_2, cp1_3, cp1_4, fp1_0, fp1_1, fp1_2, fp1_3, fp1_4⟩ := box5 Xp_1.out; have lp1 := heap_lt Xp_1.out
  obtain ⟨cret1_0, cret1_1, cret1_2, cret1_3, cret1_4, fret1_0, fret1_1, fret1_2, fret1_3, fret1_4⟩ := box5 Xret_1.out; have lret1 := heap_lt Xret_1.out
  obtain ⟨cout1_0, cout1_1, cout1_2, cout1_3, cout1_4, fout1_0, fout1_1, fout1_2, fout1_3, fout1_4⟩ := box5 Xout_1.out; have lout1 := heap_lt Xout_1.out
  simp only [putL, Act.put, List.setIfInBounds_toArray, List.set_cons_zero, List.set_cons_succ, e0, e1, e2, e3, e4, e5, e6, e7, e8, e9, e10, e11, e12, e13, e14, e15, e16, e17]
  refine Closed.mk ?_
  refine wpAnyH_done (by kernel_rfl) ?_ _
  go_wp2_with (fail)
  have GO := hgO1
  clear hgO1
  go_loopw [4] (fun iv wr => ∃ (k : Nat) (ts : List (List OpT)) (aq : Option Addr) (pq : Nat), iv = .int .i64 k ∧ k ≤ c.threads.length ∧ ts = c.threads.take k ∧ wr.heap[w.heap.size]? = some (.cells #[.slice a0 c.sems.length p0, .slice a1 c.groups.length p1, .slice a2 c.barriers.length p2, .slice a3 c.rooms.length p3, .slice a4 c.threads.length p4] 30 (0, 0)) ∧ wr.heap[w.heap.size + 1]? = some (.cells #[.slice none 0 0, .slice none 0 0, .slice none 0 0, .slice none 0 0, .slice none 0 0] 30 (0, 0)) ∧ wr.heap[gO]? = some (.cells #[.slice ka3 c.sems.length kp3, .slice ka7 c.groups.length kp7, .slice ka11 c.barriers.length kp11, .slice ka15 c.rooms.length kp15, .slice aq ts.length pq] 30 (0, 0)) ∧ Own w.heap.size 3 1 encI wr (.slice ka3 c.sems.length kp3) c.sems ∧ Own w.heap.size 3 1 encI wr (.slice ka7 c.groups.length kp7) c.groups ∧ Own w.heap.size 3 1 encI wr (.slice ka11 c.barriers.length kp11) c.barriers ∧ Own w.heap.size 3 1 encI wr (.slice ka15 c.rooms.length kp15) c.rooms ∧ TTOwn w.heap.size wr (.slice aq ts.length pq) ts ∧ Below w.heap.size w wr) (fun iv _ => c.threads.length - (intOf iv).toNat)
  case atStart => exact ⟨0, [], none, 0, rfl, Nat.zero_le _, rfl, Xp_1.out, Xret_1.out, Xout_1.out, Oc3_1.out, Oc7_1.out, Oc11_1.out, Oc15_1.out, TTOwn.empty (Own.nil _ _ _ _ _), B1.out⟩
  case round =>
    obtain ⟨w20, rfl⟩ : ∃ x : World, x = wr := ⟨_, rfl⟩
    obtain ⟨k, ts, aq, pq, rfl, hk, hts, hx, hy, hz, ho0, ho1, ho2, ho3, hq, hb⟩ := hrel
    have B20 := Lib.hid hb; have S20 := hb.size; have Xp_20 := Lib.hid hx; have Xret_20 := Lib.hid hy; have Xout_20 := Lib.hid hz; have Oq_20 := Lib.hid hq
    have Oc3_20 := Lib.hid ho0; clear ho0
    have Oc7_20 := Lib.hid ho1; clear ho1
    have Oc11_20 := Lib.hid ho2; clear ho2
    have Oc15_20 := Lib.hid ho3; clear ho3
    have htl : ts.length ≤ 1000 := by rw [hts, List.length_take]; omega
    have HTS := Lib.hid hts; clear hb hx hy hz hq hts
    obtain ⟨cp20_0, cp20_1, cp20_2, cp20_3, cp20_4, fp20_0, fp20_1, fp20_2, fp20_3, fp20_4⟩ := box5 Xp_20.out; have lp20 := heap_lt Xp_20.out
    obtain ⟨cret20_0, cret20_1, cret20_2, cret20_3, cret20_4, fret20_0, fret20_1, fret20_2, fret20_3, fret20_4⟩ := box5 Xret_20.out; have lret20 := heap_lt Xret_20.out
    obtain ⟨cout20_0, cout20_1, cout20_2, cout20_3, cout20_4, fout20_0, fout20_1, fout20_2, fout20_3, fout20_4⟩ := box5 Xout_20.out; have lout20 := heap_lt Xout_20.out
    by_cases hlt : k < c.threads.length
    · have d0 : decide ((k : Int) < (c.threads.length : Int)) = true := decide_eq_true (by omega)
      obtain ⟨_, _, e1, _, _, r4⟩ := R4.out.look; injection e1 with e1 _ e2; subst e1 e2
      obtain ⟨b, o, rfl, hb1, hc1⟩ := r4 (by omega)
      obtain ⟨th, ht⟩ := get_ex hlt
      obtain ⟨zs, zd, g1, q1⟩ := hc1 k th ht
      have k1 := (B20.out.cell (p := ⟨b, o + k, none⟩) hb1).trans g1
      have hthl : th.length ≤ 1000 := Nat.le_trans (HF5.out th (get_mem ht)) hM
      have Q1 := Lib.hid q1; have HT := Lib.hid ht; have G1 := Lib.hid g1
      clear ht hc1 q1 r4 g1
      have d7 : (0 : Int) ≤ (k : Int) := by omega
      have d8 : (k : Int) < (c.threads.length : Int) := by omega
      have ne_p_ret : w.heap.size ≠ w.heap.size + 1 := by omega
      have nf_p_ret := ne_p_ret.symm
      have ne_p_out : w.heap.size ≠ gO := by omega
      have nf_p_out := ne_p_out.symm
      have ne_ret_out : w.heap.size + 1 ≠ gO := by omega
      have nf_ret_out := ne_ret_out.symm
      have hb20 : b < w20.heap.size := by omega
      have nb1 : b ≠ gO := by omega
      have nb2 := nb1.symm
      have nz_p : w.heap.size ≠ w20.heap.size := (by omega)
      have nz_out : gO ≠ w20.heap.size := (by omega)
      have nz_b : b ≠ w20.heap.size := (by omega)
      go_wp2_with (fail)
      go_region_law (first
          | (refine step_clone _ encT_len one_trip (by rfl) _ _ 47 (by rfl) 36 _ 24 Try.underlying47 info_Op rfl (by decide) (w20.heap.size) _ (by rfl) (by exact heap_at' (n := w20.heap.size) (by first | omega | (simp only [szA, szS, szD, World.heap_drewN] at * <;> omega))) (by omega) (.slice zs th.length zd) th (by rfl) (by exact (Row.below Q1.out (Below.alloc B20.out (by first | omega | (simp only [szA, szS, szD, World.heap_drewN] at * <;> omega)) _).drew)) (by decide) (by omega) ?_; intro ah ph w21 ho_h hg; have hb := clone_below (W := w20) (by exact hg); clear hg; have hbs := hb.size; have B21 := Lib.hid (Below.trans B20.out (hb.mono (by first | omega | (simp only [szA, szS, szD, World.heap_drewN] at * <;> omega))) : Below w.heap.size w w21); have Z21 := hb.size; have N21 : w20.heap.size ≤ w21.heap.size := (by first | with_reducible exact Z21 | (simp only [szA, szS, szD] at Z21; omega)); clear Z21; have Xp_21 := Lib.hid (below_at hb Xp_20.out); have Xret_21 := Lib.hid (below_at hb Xret_20.out); have Xout_21 := Lib.hid (below_at hb Xout_20.out); have Oc3_21 := Lib.hid (Oc3_20.out.kept hb); have Oc7_21 := Lib.hid (Oc7_20.out.kept hb); have Oc11_21 := Lib.hid (Oc11_20.out.kept hb); have Oc15_21 := Lib.hid (Oc15_20.out.kept hb); have Oq_21 := Lib.hid (Oq_20.out.kept hb); have Oh_21 := Lib.hid (Own.mono (base' := w.heap.size) ho_h (by first | omega | (simp only [szA, szS, szD, World.heap_drewN] at * <;> omega))); clear ho_h; clear hb; obtain ⟨cp21_0, cp21_1, cp21_2, cp21_3, cp21_4, fp21_0, fp21_1, fp21_2, fp21_3, fp21_4⟩ := box5 Xp_21.out; have lp21 := heap_lt Xp_21.out; obtain ⟨cret21_0, cret21_1, cret21_2, cret21_3, cret21_4, fret21_0, fret21_1, fret21_2, fret21_3, fret21_4⟩ := box5 Xret_21.out; have lret21 := heap_lt Xret_21.out; obtain ⟨cout21_0, cout21_1, cout21_2, cout21_3, cout21_4, fout21_0, fout21_1, fout21_2, fout21_3, fout21_4⟩ := box5 Xout_21.out; have lout21 := heap_lt Xout_21.out; have S21 : w.heap.size ≤ w21.heap.size := (by omega); have nz2_p : w.heap.size ≠ w21.heap.size := (by omega); have nz2_out : gO ≠ w21.heap.size := (by omega); have nz2_b : b ≠ w21.heap.size := (by omega); have hb21 : b < w21.heap.size := (by omega); have k2 := (B21.out.cell (p := ⟨b, o + k, none⟩) hb1).trans G1.out)
          | (obtain ⟨us, hus, hin⟩ := Oq_21.out; have hul : us.length = ts.length := hin.1; have hus2 : Own w.heap.size 47 1 encS _ (.slice aq us.length pq) us := (by rw [hul]; exact hus); refine step_push _ encS_len one_sv (by rfl) _ _ 28 (by rfl) 47 _ 24 Try.underlying28 info_Ops rfl (by decide) w.heap.size (.slice aq ts.length pq) us (by first | rfl | simp [Act.eval, Act.put]) (hus.alloc _) (by first | omega | (simp only [szA, szD]; omega)) (.slice (some ⟨w21.heap.size, 0, none⟩) 1 1) [(ah, th.length, ph)] (by first | rfl | simp [Act.eval, Act.put]) (lit_sv (heap_at' (n := w21.heap.size) (by first | omega | (simp only [szA, szS, szD, World.heap_drewN] at * <;> omega)))) (by simp) (by decide) (by simp only [List.length_cons, List.length_nil]; omega) ?_; intro ad22 cp22 w22 hown hg hat; obtain ⟨qL22, hqL22⟩ : ∃ l, ts ++ [th] = l := ⟨_, rfl⟩; have lqL22' : us.length + [((ah, th.length, ph) : SV)].length = qL22.length := (by rw [← hqL22, List.length_append, List.length_singleton, List.length_singleton, hul]); have lqL22 : us.length + 1 = qL22.length := lqL22'; rw [lqL22'] at hown; rw [lqL22']; clear hat; clear lqL22'; have hua := hus.alloc (.cells #[.slice ah th.length ph] 47); have Xp_22 := Lib.hid (grown_at2 hg (heap_up Xp_21.out) (hua.ne (heap_up Xp_21.out) (by decide))); have Xret_22 := Lib.hid (grown_at2 hg (heap_up Xret_21.out) (hua.ne (heap_up Xret_21.out) (by decide))); have Xout_22 := Lib.hid (grown_at2 hg (heap_up Xout_21.out) (hua.ne (heap_up Xout_21.out) (by decide))); have Oc3_22 := Lib.hid ((Oc3_21.out.alloc _).apart hg (Own.apart_types hua (Oc3_21.out.alloc _) (by decide))); have Oc7_22 := Lib.hid ((Oc7_21.out.alloc _).apart hg (Own.apart_types hua (Oc7_21.out.alloc _) (by decide))); have Oc11_22 := Lib.hid ((Oc11_21.out.alloc _).apart hg (Own.apart_types hua (Oc11_21.out.alloc _) (by decide))); have Oc15_22 := Lib.hid ((Oc15_21.out.alloc _).apart hg (Own.apart_types hua (Oc15_21.out.alloc _) (by decide))); have Oh_22 := Lib.hid ((Oh_21.out.alloc _).apart hg (Own.apart_types hua (Oh_21.out.alloc _) (by decide))); have hbb : Below (w21).heap.size (w21) ((w21.alloc (.cells #[.slice ah th.length ph] 47))) := Below.alloc (Below.refl _ _) (Nat.le_refl _) _; have hg2 : World.grownBy ((w21.alloc (.cells #[.slice ah th.length ph] 47))) w22 (Value.slice aq us.length pq).ownBlock := (by rw [hul]; exact hg); have Oq_22 := Lib.hid (TTOwn.more hin hus2 Oh_22.out hbb hg2 hqL22 hown); have B22 := Lib.hid (Below.grown (Below.alloc B21.out (by first | omega | (simp only [szA, szS, szD, World.heap_drewN] at * <;> omega)) _) hg (by first | omega | (simp only [szA, szS, szD, World.heap_drewN]; omega)) (fun g e => hus.blk g e)); have N22 : w21.heap.size + 1 ≤ w22.heap.size := (by first | with_reducible exact hg.size | (have := hg.size; simp only [szA, szS, szD] at this; omega)); have KqL22 := Lib.hid (show ts.length + 1 = qL22.length from (by rw [← hul]; exact lqL22)); have HqL22 := Lib.hid hqL22; clear hqL22 lqL22 hbb hg2 hus2 hin hul hua hus hown hg; obtain ⟨cp22_0, cp22_1, cp22_2, cp22_3, cp22_4, fp22_0, fp22_1, fp22_2, fp22_3, fp22_4⟩ := box5 Xp_22.out; have lp22 := heap_lt Xp_22.out; obtain ⟨cret22_0, cret22_1, cret22_2, cret22_3, cret22_4, fret22_0, fret22_1, fret22_2, fret22_3, fret22_4⟩ := box5 Xret_22.out; have lret22 := heap_lt Xret_22.out; obtain ⟨cout22_0, cout22_1, cout22_2, cout22_3, cout22_4, fout22_0, fout22_1, fout22_2, fout22_3, fout22_4⟩ := box5 Xout_22.out; have lout22 := heap_lt Xout_22.out; have S22 : w.heap.size ≤ w22.heap.size := (by omega); have hb22 : b < w22.heap.size := (by omega); have k3 := (B22.out.cell (p := ⟨b, o + k, none⟩) hb1).trans G1.out))
      all_goals
        go_wp2
        go_roundw
        case rel => exact ⟨k + 1, qL22, _, _, by go_num, by omega, by rw [← HqL22.out, HTS.out]; exact (take_snoc HT.out).symm, (set_off (a := ⟨gO, 4, none⟩) Xp_22.out (by first | omega | (simp only [szA, szS, szD, World.heap_drewN] at * <;> omega)) (.slice ad22 qL22.length cp22)), (set_off (a := ⟨gO, 4, none⟩) Xret_22.out (by first | omega | (simp only [szA, szS, szD, World.heap_drewN] at * <;> omega)) (.slice ad22 qL22.length cp22)), (set_at (a := ⟨gO, 4, none⟩) Xout_22.out rfl rfl (.slice ad22 qL22.length cp22)), (Oc3_22.out.setB (gO) 4 Xout_22.out (by decide) (.slice ad22 qL22.length cp22)), (Oc7_22.out.setB (gO) 4 Xout_22.out (by decide) (.slice ad22 qL22.length cp22)), (Oc11_22.out.setB (gO) 4 Xout_22.out (by decide) (.slice ad22 qL22.length cp22)), (Oc15_22.out.setB (gO) 4 Xout_22.out (by decide) (.slice ad22 qL22.length cp22)), (Oq_22.out.setB (gO) 4 Xout_22.out (by decide) (.slice ad22 qL22.length cp22)), (below_setAt B22.out (gO) 4 (by first | omega | (simp only [szA, szS, szD, World.heap_drewN] at * <;> omega)) (.slice ad22 qL22.length cp22))⟩
        case measure => simp [intOf]; omega
    · have d0 : decide ((k : Int) < (c.threads.length : Int)) = false := decide_eq_false (by omega)
      obtain rfl : ts = c.threads := by rw [HTS.out]; exact take_all (by omega)
      have ne_p_ret : w.heap.size ≠ w.heap.size + 1 := by omega
      have nf_p_ret := ne_p_ret.symm
      have ne_p_out : w.heap.size ≠ gO := by omega
      have nf_p_out := ne_p_out.symm
      have ne_ret_out : w.heap.size + 1 ≠ gO := by omega
      have nf_ret_out := ne_ret_out.symm
      go_wp2_with (fail)
      refine bodyPost_ret (v := .agg #[.slice ka3 c.sems.length kp3, .slice ka7 c.groups.length kp7, .slice ka11 c.barriers.length kp11, .slice ka15 c.rooms.length kp15, .slice aq c.threads.length pq]) (by simp [results, Try.results62, go_sem, cret20_0, cret20_1, cret20_2, cret20_3, cret20_4, lret20, cout20_0, cout20_1, cout20_2, cout20_3, cout20_4, lout20, ne_p_ret, nf_p_ret, ne_p_out, nf_p_out, ne_ret_out, nf_ret_out]) rfl ⟨_, rfl, ⟨_, _, _, _, _, _, _, _, _, _, rfl, (((((Oc3_20.out.setB (w.heap.size + 1) 0 Xret_20.out (by decide) (.slice ka3 c.sems.length kp3)).setB (w.heap.size + 1) 1 (set_at (a := ⟨w.heap.size + 1, 0, none⟩) Xret_20.out rfl rfl (.slice ka3 c.sems.length kp3)) (by decide) (.slice ka7 c.groups.length kp7)).setB (w.heap.size + 1) 2 (set_at (a := ⟨w.heap.size + 1, 1, none⟩) (set_at (a := ⟨w.heap.size + 1, 0, none⟩) Xret_20.out rfl rfl (.slice ka3 c.sems.length kp3)) rfl rfl (.slice ka7 c.groups.length kp7)) (by decide) (.slice ka11 c.barriers.length kp11)).setB (w.heap.size + 1) 3 (set_at (a := ⟨w.heap.size + 1, 2, none⟩) (set_at (a := ⟨w.heap.size + 1, 1, none⟩) (set_at (a := ⟨w.heap.size + 1, 0, none⟩) Xret_20.out rfl rfl (.slice ka3 c.sems.length kp3)) rfl rfl (.slice ka7 c.groups.length kp7)) rfl rfl (.slice ka11 c.barriers.length kp11)) (by decide) (.slice ka15 c.rooms.length kp15)).setB (w.heap.size + 1) 4 (set_at (a := ⟨w.heap.size + 1, 3, none⟩) (set_at (a := ⟨w.heap.size + 1, 2, none⟩) (set_at (a := ⟨w.heap.size + 1, 1, none⟩) (set_at (a := ⟨w.heap.size + 1, 0, none⟩) Xret_20.out rfl rfl (.slice ka3 c.sems.length kp3)) rfl rfl (.slice ka7 c.groups.length kp7)) rfl rfl (.slice ka11 c.barriers.length kp11)) rfl rfl (.slice ka15 c.rooms.length kp15)) (by decide) (.slice aq c.threads.length pq)), (((((Oc7_20.out.setB (w.heap.size + 1) 0 Xret_20.out (by decide) (.slice ka3 c.sems.length kp3)).setB (w.heap.size + 1) 1 (set_at (a := ⟨w.heap.size + 1, 0, none⟩) Xret_20.out rfl rfl (.slice ka3 c.sems.length kp3)) (by decide) (.slice ka7 c.groups.length kp7)).setB (w.heap.size + 1) 2 (set_at (a := ⟨w.heap.size + 1, 1, none⟩) (set_at (a := ⟨w.heap.size + 1, 0, none⟩) Xret_20.out rfl rfl (.slice ka3 c.sems.length kp3)) rfl rfl (.slice ka7 c.groups.length kp7)) (by decide) (.slice ka11 c.barriers.length kp11)).setB (w.heap.size + 1) 3 (set_at (a := ⟨w.heap.size + 1, 2, none⟩) (set_at (a := ⟨w.heap.size + 1, 1, none⟩) (set_at (a := ⟨w.heap.size + 1, 0, none⟩) Xret_20.out rfl rfl (.slice ka3 c.sems.length kp3)) rfl rfl (.slice ka7 c.groups.length kp7)) rfl rfl (.slice ka11 c.barriers.length kp11)) (by decide) (.slice ka15 c.rooms.length kp15)).setB (w.heap.size + 1) 4 (set_at (a := ⟨w.heap.size + 1, 3, none⟩) (set_at (a := ⟨w.heap.size + 1, 2, none⟩) (set_at (a := ⟨w.heap.size + 1, 1, none⟩) (set_at (a := ⟨w.heap.size + 1, 0, none⟩) Xret_20.out rfl rfl (.slice ka3 c.sems.length kp3)) rfl rfl (.slice ka7 c.groups.length kp7)) rfl rfl (.slice ka11 c.barriers.length kp11)) rfl rfl (.slice ka15 c.rooms.length kp15)) (by decide) (.slice aq c.threads.length pq)), (((((Oc11_20.out.setB (w.heap.size + 1) 0 Xret_20.out (by decide) (.slice ka3 c.sems.length kp3)).setB (w.heap.size + 1) 1 (set_at (a := ⟨w.heap.size + 1, 0, none⟩) Xret_20.out rfl rfl (.slice ka3 c.sems.length kp3)) (by decide) (.slice ka7 c.groups.length kp7)).setB (w.heap.size + 1) 2 (set_at (a := ⟨w.heap.size + 1, 1, none⟩) (set_at (a := ⟨w.heap.size + 1, 0, none⟩) Xret_20.out rfl rfl (.slice ka3 c.sems.length kp3)) rfl rfl (.slice ka7 c.groups.length kp7)) (by decide) (.slice ka11 c.barriers.length kp11)).setB (w.heap.size + 1) 3 (set_at (a := ⟨w.heap.size + 1, 2, none⟩) (set_at (a := ⟨w.heap.size + 1, 1, none⟩) (set_at (a := ⟨w.heap.size + 1, 0, none⟩) Xret_20.out rfl rfl (.slice ka3 c.sems.length kp3)) rfl rfl (.slice ka7 c.groups.length kp7)) rfl rfl (.slice ka11 c.barriers.length kp11)) (by decide) (.slice ka15 c.rooms.length kp15)).setB (w.heap.size + 1) 4 (set_at (a := ⟨w.heap.size + 1, 3, none⟩) (set_at (a := ⟨w.heap.size + 1, 2, none⟩) (set_at (a := ⟨w.heap.size + 1, 1, none⟩) (set_at (a := ⟨w.heap.size + 1, 0, none⟩) Xret_20.out rfl rfl (.slice ka3 c.sems.length kp3)) rfl rfl (.slice ka7 c.groups.length kp7)) rfl rfl (.slice ka11 c.barriers.length kp11)) rfl rfl (.slice ka15 c.rooms.length kp15)) (by decide) (.slice aq c.threads.length pq)), (((((Oc15_20.out.setB (w.heap.size + 1) 0 Xret_20.out (by decide) (.slice ka3 c.sems.length kp3)).setB (w.heap.size + 1) 1 (set_at (a := ⟨w.heap.size + 1, 0, none⟩) Xret_20.out rfl rfl (.slice ka3 c.sems.length kp3)) (by decide) (.slice ka7 c.groups.length kp7)).setB (w.heap.size + 1) 2 (set_at (a := ⟨w.heap.size + 1, 1, none⟩) (set_at (a := ⟨w.heap.size + 1, 0, none⟩) Xret_20.out rfl rfl (.slice ka3 c.sems.length kp3)) rfl rfl (.slice ka7 c.groups.length kp7)) (by decide) (.slice ka11 c.barriers.length kp11)).setB (w.heap.size + 1) 3 (set_at (a := ⟨w.heap.size + 1, 2, none⟩) (set_at (a := ⟨w.heap.size + 1, 1, none⟩) (set_at (a := ⟨w.heap.size + 1, 0, none⟩) Xret_20.out rfl rfl (.slice ka3 c.sems.length kp3)) rfl rfl (.slice ka7 c.groups.length kp7)) rfl rfl (.slice ka11 c.barriers.length kp11)) (by decide) (.slice ka15 c.rooms.length kp15)).setB (w.heap.size + 1) 4 (set_at (a := ⟨w.heap.size + 1, 3, none⟩) (set_at (a := ⟨w.heap.size + 1, 2, none⟩) (set_at (a := ⟨w.heap.size + 1, 1, none⟩) (set_at (a := ⟨w.heap.size + 1, 0, none⟩) Xret_20.out rfl rfl (.slice ka3 c.sems.length kp3)) rfl rfl (.slice ka7 c.groups.length kp7)) rfl rfl (.slice ka11 c.barriers.length kp11)) rfl rfl (.slice ka15 c.rooms.length kp15)) (by decide) (.slice aq c.threads.length pq)), (((((Oq_20.out.setB (w.heap.size + 1) 0 Xret_20.out (by decide) (.slice ka3 c.sems.length kp3)).setB (w.heap.size + 1) 1 (set_at (a := ⟨w.heap.size + 1, 0, none⟩) Xret_20.out rfl rfl (.slice ka3 c.sems.length kp3)) (by decide) (.slice ka7 c.groups.length kp7)).setB (w.heap.size + 1) 2 (set_at (a := ⟨w.heap.size + 1, 1, none⟩) (set_at (a := ⟨w.heap.size + 1, 0, none⟩) Xret_20.out rfl rfl (.slice ka3 c.sems.length kp3)) rfl rfl (.slice ka7 c.groups.length kp7)) (by decide) (.slice ka11 c.barriers.length kp11)).setB (w.heap.size + 1) 3 (set_at (a := ⟨w.heap.size + 1, 2, none⟩) (set_at (a := ⟨w.heap.size + 1, 1, none⟩) (set_at (a := ⟨w.heap.size + 1, 0, none⟩) Xret_20.out rfl rfl (.slice ka3 c.sems.length kp3)) rfl rfl (.slice ka7 c.groups.length kp7)) rfl rfl (.slice ka11 c.barriers.length kp11)) (by decide) (.slice ka15 c.rooms.length kp15)).setB (w.heap.size + 1) 4 (set_at (a := ⟨w.heap.size + 1, 3, none⟩) (set_at (a := ⟨w.heap.size + 1, 2, none⟩) (set_at (a := ⟨w.heap.size + 1, 1, none⟩) (set_at (a := ⟨w.heap.size + 1, 0, none⟩) Xret_20.out rfl rfl (.slice ka3 c.sems.length kp3)) rfl rfl (.slice ka7 c.groups.length kp7)) rfl rfl (.slice ka11 c.barriers.length kp11)) rfl rfl (.slice ka15 c.rooms.length kp15)) (by decide) (.slice aq c.threads.length pq)), AP3_7.out, AP3_11.out, AP3_15.out, AP7_11.out, AP7_15.out, AP11_15.out⟩, (below_setAt (below_setAt (below_setAt (below_setAt (below_setAt B20.out (w.heap.size + 1) 0 (by first | omega | (simp only [szA, szS, szD, World.heap_drewN] at * <;> omega)) (.slice ka3 c.sems.length kp3)) (w.heap.size + 1) 1 (by first | omega | (simp only [szA, szS, szD, World.heap_drewN] at * <;> omega)) (.slice ka7 c.groups.length kp7)) (w.heap.size + 1) 2 (by first | omega | (simp only [szA, szS, szD, World.heap_drewN] at * <;> omega)) (.slice ka11 c.barriers.length kp11)) (w.heap.size + 1) 3 (by first | omega | (simp only [szA, szS, szD, World.heap_drewN] at * <;> omega)) (.slice ka15 c.rooms.length kp15)) (w.heap.size + 1) 4 (by first | omega | (simp only [szA, szS, szD, World.heap_drewN] at * <;> omega)) (.slice aq c.threads.length pq))⟩
end Go.Proofs.Ytobkammimkgnkaa
