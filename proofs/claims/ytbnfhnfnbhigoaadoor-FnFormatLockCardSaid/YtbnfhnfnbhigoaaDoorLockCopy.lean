/- A copy of a lock, a new lock (made by gen_lock.py). -/
import Derived.Test.YtbnfhnfnbhigoaaDoorDrLock
import Derived.Test.YtbnfhnfnbhigoaaDoorRgA
import Derived.Test.YtbnfhnfnbhigoaaDoorRgBox
import Derived.Test.YtbnfhnfnbhigoaaDoorSets
namespace Go.Proofs.YtbnfhnfnbhigoaaDoor
open Go.RowKit
set_option linter.unusedSimpArgs false
set_option linter.unusedVariables false
set_option maxHeartbeats 8000000 in
theorem l4Copy_calls (v : Value) (c : LockD) (w : World) (h : LockRow w v c) (hn : c.readers.length + c.q.length ≤ 1048576) :
    Calls Tryd.prog 50 #[v] w fun e w' => ∃ v', e = .returned v' ∧ LockOwn w.heap.size w'.heap.size w' v' c ∧ Below w.heap.size w w' := by
  have HP := Lib.hid h
  obtain ⟨aP0, pP0, aP2, pP2, rfl, hr0, hr2⟩ := h
  have HI0 := Lib.hid hr0; have HI2 := Lib.hid hr2; clear hr0 hr2
  go_enter Tryd.func50, Tryd.ntmps50
  go_wp2_with (fail)
  have hN0 : w.heap.size + 2 ≤ ((w.alloc (.cells #[.slice aP0 c.readers.length pP0, .int .i64 c.writer, .slice aP2 c.q.length pP2] 30)).alloc (.cells #[.slice none 0 0, .int .i64 0, .slice none 0 0] 30)).heap.size := (by first | omega | (simp only [szA, szS, szD, World.heap_drewN] at * <;> omega))
  refine wp_region_A [⟨0, false, [], fun _ v w' => ∃ g, v = .slice (some ⟨g, 0, none⟩) 0 0 ∧ w.heap.size ≤ g ∧ w'.heap[g]? = some (.cells #[] 3 (0, 0))⟩, ⟨1, false, [], fun _ v _ => v = .pointer (some ⟨w.heap.size, 0, none⟩)⟩, ⟨2, false, [1], fun _ v _ => v = .slice aP0 c.readers.length pP0⟩, ⟨3, false, [0, 1, 2], fun _ v w' => ∃ a p, v = .slice a c.readers.length p ∧ Own w.heap.size 3 1 encI w' (.slice a c.readers.length p) c.readers⟩, ⟨4, false, [], fun _ v _ => v = .pointer (some ⟨w.heap.size, 1, none⟩)⟩, ⟨5, false, [4], fun _ v _ => v = .int .i64 c.writer⟩, ⟨6, false, [], fun _ v w' => ∃ g, v = .slice (some ⟨g, 0, none⟩) 0 0 ∧ w.heap.size ≤ g ∧ w'.heap[g]? = some (.cells #[] 45 (0, 0))⟩, ⟨7, false, [], fun _ v _ => v = .pointer (some ⟨w.heap.size, 2, none⟩)⟩, ⟨8, false, [7], fun _ v _ => v = .slice aP2 c.q.length pP2⟩, ⟨9, false, [6, 7, 8], fun _ v w' => ∃ a p, v = .slice a c.q.length p ∧ Own w.heap.size 45 2 encW w' (.slice a c.q.length p) c.q⟩, ⟨10, false, [0, 1, 2, 3, 4, 5, 6, 7, 8, 9], fun u v _ => v = .agg #[(u 3), (u 5), (u 9)]⟩, ⟨11, true, [0, 1, 2, 3, 4, 5, 6, 7, 8, 9, 10], fun u _ w' => ∃ cs, u 10 = .agg cs ∧ w'.heap[w.heap.size + 1]? = some (.cells cs 30 (0, 0))⟩] (fun i => [0, 3, 6, 9].contains i) (fun i => if i = 0 then 3 else if i = 3 then 3 else if i = 6 then 9 else if i = 9 then 9 else 0) (fun d hd => by simp only [List.contains_eq_mem, decide_eq_true_eq, List.mem_cons, List.not_mem_nil, or_false] at hd; simp only [List.map_cons, List.map_nil, List.mem_cons, List.not_mem_nil, or_false]; omega) [(0, some 3), (1, some 4), (2, some 5), (3, some 6), (4, some 7), (5, some 8), (6, some 9), (7, some 10), (8, some 11), (9, some 12), (10, some 13), (11, none)] (fun f w' => Below w.heap.size w w' ∧ w.heap.size + 2 ≤ w'.heap.size ∧ w'.heap[w.heap.size]? = some (.cells #[.slice aP0 c.readers.length pP0, .int .i64 c.writer, .slice aP2 c.q.length pP2] 30 (0, 0)) ∧ (∃ cs : Array Value, w'.heap[w.heap.size + 1]? = some (.cells cs 30 (0, 0)) ∧ cs.size = 3)) (fun x w1 w2 => if x = true then BoxW (w.heap.size + 1) 30 w1 w2 else Below w1.heap.size w1 w2) (by kernel_rfl) (by rfl) (by kernel_rfl) (by kernel_rfl) ⟨(Below.alloc (Below.alloc (Below.refl _ _) (by first | omega | (simp only [szA, szS, szD, World.heap_drewN] at * <;> omega)) _) (by first | omega | (simp only [szA, szS, szD, World.heap_drewN] at * <;> omega)) _).drew, hN0, heap_drew (heap_up (heap_at' (n := w.heap.size) (by first | omega | (simp only [szA, szS, szD, World.heap_drewN] at * <;> omega)))), _, heap_drew (heap_at' (n := w.heap.size + 1) (by first | omega | (simp only [szA, szS, szD, World.heap_drewN] at * <;> omega))), rfl⟩ (GoalsA.cons ?_ (GoalsA.cons ?_ (GoalsA.cons ?_ (GoalsA.cons ?_ (GoalsA.cons ?_ (GoalsA.cons ?_ (GoalsA.cons ?_ (GoalsA.cons ?_ (GoalsA.cons ?_ (GoalsA.cons ?_ (GoalsA.cons ?_ (GoalsA.cons ?_ (GoalsA.nil))))))))))))) ?_
  · refine GoalA.mk (by rfl) (⟨fun _ _ _ _ hR ⟨g, h1, h2, h3⟩ => ⟨g, h1, h2, below_at hR h3⟩, fun _ _ _ _ _ hR ⟨g, h1, h2, h3⟩ => ⟨g, h1, h2, boxW_off h3 hR (by decide)⟩⟩) (fun _ _ _ _ ⟨g, h1, _, h3⟩ g' e => by rw [h1] at e; cases e; exact heap_lt h3) ?_
    intro f u w1 hf hC hD K hK
    obtain ⟨hB, hN, hp, cs0, hs1, hs2⟩ := hC; clear hf
    clear hD
    simp only [putL, Act.put, List.setIfInBounds_toArray, List.set_cons_zero, List.set_cons_succ] at hK ⊢
    refine Closed.mk ?_
    go_simp
    exact hK.out _ _ ⟨Below.alloc hB (by omega) _, Nat.le_trans hN (alloc_le _ _), heap_up hp, _, heap_up hs1, hs2⟩ (Below.alloc (Below.refl _ _) (Nat.le_refl _) _) ⟨_, rfl, by omega, heap_at _ _⟩ (fun _ g' e => .inl (by cases e; exact Nat.le_refl _))
  · refine GoalA.mk (by rfl) (⟨fun _ _ _ _ _ h => h, fun _ _ _ _ _ _ h => h⟩) (fun h => absurd h (by decide)) ?_
    intro f u w1 hf hC hD K hK
    obtain ⟨hB, hN, hp, cs0, hs1, hs2⟩ := hC; clear hf
    clear hD
    simp only [putL, Act.put, List.setIfInBounds_toArray, List.set_cons_zero, List.set_cons_succ] at hK ⊢
    refine Closed.mk ?_
    go_simp
    exact hK.out _ _ ⟨hB, hN, hp, _, hs1, hs2⟩ (Below.refl _ _) rfl (fun h => absurd h (by decide))
  · refine GoalA.mk (by rfl) (⟨fun _ _ _ _ _ h => h, fun _ _ _ _ _ _ h => h⟩) (fun h => absurd h (by decide)) ?_
    intro f u w1 hf hC hD K hK
    obtain ⟨hB, hN, hp, cs0, hs1, hs2⟩ := hC; clear hf
    have d1 := hD.1; clear hD
    have q1 : u 1 = .pointer (some ⟨w.heap.size, 0, none⟩) := d1
    have e1 := q1; clear q1
    clear d1
    obtain ⟨c0_0, c0_1, c0_2, f0_0, f0_1, f0_2⟩ := box3 hp
    simp only [putL, Act.put, List.setIfInBounds_toArray, List.set_cons_zero, List.set_cons_succ, e1] at hK ⊢
    refine Closed.mk ?_
    go_simp
    exact hK.out _ _ ⟨hB, hN, hp, _, hs1, hs2⟩ (Below.refl _ _) rfl (fun h => absurd h (by decide))
  · refine GoalA.mk (by rfl) (⟨fun _ _ _ _ hR ⟨a, p, h1, h2⟩ => ⟨a, p, h1, h2.kept hR⟩, fun _ _ _ _ _ hR ⟨a, p, h1, h2⟩ => ⟨a, p, h1, h2.boxW hR (by decide)⟩⟩) (fun _ _ _ _ ⟨a, p, h1, h2⟩ g' e => by rw [h1] at e; exact h2.hi g' e) ?_
    intro f u w1 hf hC hD K hK
    obtain ⟨hB, hN, hp, cs0, hs1, hs2⟩ := hC; clear hf
    have d0 := hD.1; have d1 := hD.2.1; have d2 := hD.2.2.1; clear hD
    have q0 : ∃ g, u 0 = .slice (some ⟨g, 0, none⟩) 0 0 ∧ w.heap.size ≤ g ∧ w1.heap[g]? = some (.cells #[] 3 (0, 0)) := d0
    obtain ⟨g0, e0, q0a, q0b⟩ := q0
    clear d0
    have q1 : u 1 = .pointer (some ⟨w.heap.size, 0, none⟩) := d1
    have e1 := q1; clear q1
    clear d1
    have q2 : u 2 = .slice aP0 c.readers.length pP0 := d2
    have e2 := q2; clear q2
    clear d2
    simp only [putL, Act.put, List.setIfInBounds_toArray, List.set_cons_zero, List.set_cons_succ, e0, e1, e2] at hK ⊢
    refine Closed.mk ?_
    refine iteT (by simp [Region.wanted]) ?_
    refine wp_cloneE encI_len encI_one _ _ 22 (by rfl) 3 _ 8 Tryd.underlying22 info_int rfl (by decide) (w.heap.size) g0 (by first | rfl | simp [Act.eval, Act.put]) q0b q0a (.slice aP0 c.readers.length pP0) c.readers (by first | rfl | simp [Act.eval, Act.put]) (Row.below HI0.out hB) (by decide) (by omega) ?_
    intro ad cp w2 hown hb hblk
    exact hK.out _ _ ⟨Below.trans hB (hb.mono (by omega)), Nat.le_trans hN hb.size, below_at hb hp, _, below_at hb hs1, hs2⟩ hb ⟨ad, cp, rfl, hown⟩ (fun _ g' e => (hblk g' e).imp id (fun h => ⟨0, by simp, rfl, rfl, by rw [e0, h]; rfl⟩))
  · refine GoalA.mk (by rfl) (⟨fun _ _ _ _ _ h => h, fun _ _ _ _ _ _ h => h⟩) (fun h => absurd h (by decide)) ?_
    intro f u w1 hf hC hD K hK
    obtain ⟨hB, hN, hp, cs0, hs1, hs2⟩ := hC; clear hf
    clear hD
    simp only [putL, Act.put, List.setIfInBounds_toArray, List.set_cons_zero, List.set_cons_succ] at hK ⊢
    refine Closed.mk ?_
    go_simp
    exact hK.out _ _ ⟨hB, hN, hp, _, hs1, hs2⟩ (Below.refl _ _) rfl (fun h => absurd h (by decide))
  · refine GoalA.mk (by rfl) (⟨fun _ _ _ _ _ h => h, fun _ _ _ _ _ _ h => h⟩) (fun h => absurd h (by decide)) ?_
    intro f u w1 hf hC hD K hK
    obtain ⟨hB, hN, hp, cs0, hs1, hs2⟩ := hC; clear hf
    have d4 := hD.1; clear hD
    have q4 : u 4 = .pointer (some ⟨w.heap.size, 1, none⟩) := d4
    have e4 := q4; clear q4
    clear d4
    obtain ⟨c0_0, c0_1, c0_2, f0_0, f0_1, f0_2⟩ := box3 hp
    simp only [putL, Act.put, List.setIfInBounds_toArray, List.set_cons_zero, List.set_cons_succ, e4] at hK ⊢
    refine Closed.mk ?_
    go_simp
    exact hK.out _ _ ⟨hB, hN, hp, _, hs1, hs2⟩ (Below.refl _ _) rfl (fun h => absurd h (by decide))
  · refine GoalA.mk (by rfl) (⟨fun _ _ _ _ hR ⟨g, h1, h2, h3⟩ => ⟨g, h1, h2, below_at hR h3⟩, fun _ _ _ _ _ hR ⟨g, h1, h2, h3⟩ => ⟨g, h1, h2, boxW_off h3 hR (by decide)⟩⟩) (fun _ _ _ _ ⟨g, h1, _, h3⟩ g' e => by rw [h1] at e; cases e; exact heap_lt h3) ?_
    intro f u w1 hf hC hD K hK
    obtain ⟨hB, hN, hp, cs0, hs1, hs2⟩ := hC; clear hf
    clear hD
    simp only [putL, Act.put, List.setIfInBounds_toArray, List.set_cons_zero, List.set_cons_succ] at hK ⊢
    refine Closed.mk ?_
    go_simp
    exact hK.out _ _ ⟨Below.alloc hB (by omega) _, Nat.le_trans hN (alloc_le _ _), heap_up hp, _, heap_up hs1, hs2⟩ (Below.alloc (Below.refl _ _) (Nat.le_refl _) _) ⟨_, rfl, by omega, heap_at _ _⟩ (fun _ g' e => .inl (by cases e; exact Nat.le_refl _))
  · refine GoalA.mk (by rfl) (⟨fun _ _ _ _ _ h => h, fun _ _ _ _ _ _ h => h⟩) (fun h => absurd h (by decide)) ?_
    intro f u w1 hf hC hD K hK
    obtain ⟨hB, hN, hp, cs0, hs1, hs2⟩ := hC; clear hf
    clear hD
    simp only [putL, Act.put, List.setIfInBounds_toArray, List.set_cons_zero, List.set_cons_succ] at hK ⊢
    refine Closed.mk ?_
    go_simp
    exact hK.out _ _ ⟨hB, hN, hp, _, hs1, hs2⟩ (Below.refl _ _) rfl (fun h => absurd h (by decide))
  · refine GoalA.mk (by rfl) (⟨fun _ _ _ _ _ h => h, fun _ _ _ _ _ _ h => h⟩) (fun h => absurd h (by decide)) ?_
    intro f u w1 hf hC hD K hK
    obtain ⟨hB, hN, hp, cs0, hs1, hs2⟩ := hC; clear hf
    have d7 := hD.1; clear hD
    have q7 : u 7 = .pointer (some ⟨w.heap.size, 2, none⟩) := d7
    have e7 := q7; clear q7
    clear d7
    obtain ⟨c0_0, c0_1, c0_2, f0_0, f0_1, f0_2⟩ := box3 hp
    simp only [putL, Act.put, List.setIfInBounds_toArray, List.set_cons_zero, List.set_cons_succ, e7] at hK ⊢
    refine Closed.mk ?_
    go_simp
    exact hK.out _ _ ⟨hB, hN, hp, _, hs1, hs2⟩ (Below.refl _ _) rfl (fun h => absurd h (by decide))
  · refine GoalA.mk (by rfl) (⟨fun _ _ _ _ hR ⟨a, p, h1, h2⟩ => ⟨a, p, h1, h2.kept hR⟩, fun _ _ _ _ _ hR ⟨a, p, h1, h2⟩ => ⟨a, p, h1, h2.boxW hR (by decide)⟩⟩) (fun _ _ _ _ ⟨a, p, h1, h2⟩ g' e => by rw [h1] at e; exact h2.hi g' e) ?_
    intro f u w1 hf hC hD K hK
    obtain ⟨hB, hN, hp, cs0, hs1, hs2⟩ := hC; clear hf
    have d6 := hD.1; have d7 := hD.2.1; have d8 := hD.2.2.1; clear hD
    have q6 : ∃ g, u 6 = .slice (some ⟨g, 0, none⟩) 0 0 ∧ w.heap.size ≤ g ∧ w1.heap[g]? = some (.cells #[] 45 (0, 0)) := d6
    obtain ⟨g6, e6, q6a, q6b⟩ := q6
    clear d6
    have q7 : u 7 = .pointer (some ⟨w.heap.size, 2, none⟩) := d7
    have e7 := q7; clear q7
    clear d7
    have q8 : u 8 = .slice aP2 c.q.length pP2 := d8
    have e8 := q8; clear q8
    clear d8
    simp only [putL, Act.put, List.setIfInBounds_toArray, List.set_cons_zero, List.set_cons_succ, e6, e7, e8] at hK ⊢
    refine Closed.mk ?_
    refine iteT (by simp [Region.wanted]) ?_
    refine wp_cloneE encW_len one_want _ _ 28 (by rfl) 45 _ 16 Tryd.underlying28 info_Want rfl (by decide) (w.heap.size) g6 (by first | rfl | simp [Act.eval, Act.put]) q6b q6a (.slice aP2 c.q.length pP2) c.q (by first | rfl | simp [Act.eval, Act.put]) (Row.below HI2.out hB) (by decide) (by omega) ?_
    intro ad cp w2 hown hb hblk
    exact hK.out _ _ ⟨Below.trans hB (hb.mono (by omega)), Nat.le_trans hN hb.size, below_at hb hp, _, below_at hb hs1, hs2⟩ hb ⟨ad, cp, rfl, hown⟩ (fun _ g' e => (hblk g' e).imp id (fun h => ⟨6, by simp, rfl, rfl, by rw [e6, h]; rfl⟩))
  · refine GoalA.mk (by rfl) (⟨fun _ _ _ _ _ h => h, fun _ _ _ _ _ _ h => h⟩) (fun h => absurd h (by decide)) ?_
    intro f u w1 hf hC hD K hK
    obtain ⟨hB, hN, hp, cs0, hs1, hs2⟩ := hC; clear hf
    have d0 := hD.1; have d1 := hD.2.1; have d2 := hD.2.2.1; have d3 := hD.2.2.2.1; have d4 := hD.2.2.2.2.1; have d5 := hD.2.2.2.2.2.1; have d6 := hD.2.2.2.2.2.2.1; have d7 := hD.2.2.2.2.2.2.2.1; have d8 := hD.2.2.2.2.2.2.2.2.1; have d9 := hD.2.2.2.2.2.2.2.2.2.1; clear hD
    have q0 : ∃ g, u 0 = .slice (some ⟨g, 0, none⟩) 0 0 ∧ w.heap.size ≤ g ∧ w1.heap[g]? = some (.cells #[] 3 (0, 0)) := d0
    obtain ⟨g0, e0, q0a, q0b⟩ := q0
    clear d0
    have q1 : u 1 = .pointer (some ⟨w.heap.size, 0, none⟩) := d1
    have e1 := q1; clear q1
    clear d1
    have q2 : u 2 = .slice aP0 c.readers.length pP0 := d2
    have e2 := q2; clear q2
    clear d2
    have q3 : ∃ a p, u 3 = .slice a c.readers.length p ∧ Own w.heap.size 3 1 encI w1 (.slice a c.readers.length p) c.readers := d3
    obtain ⟨a3, p3, e3, q3a⟩ := q3
    clear d3
    have q4 : u 4 = .pointer (some ⟨w.heap.size, 1, none⟩) := d4
    have e4 := q4; clear q4
    clear d4
    have q5 : u 5 = .int .i64 c.writer := d5
    have e5 := q5; clear q5
    clear d5
    have q6 : ∃ g, u 6 = .slice (some ⟨g, 0, none⟩) 0 0 ∧ w.heap.size ≤ g ∧ w1.heap[g]? = some (.cells #[] 45 (0, 0)) := d6
    obtain ⟨g6, e6, q6a, q6b⟩ := q6
    clear d6
    have q7 : u 7 = .pointer (some ⟨w.heap.size, 2, none⟩) := d7
    have e7 := q7; clear q7
    clear d7
    have q8 : u 8 = .slice aP2 c.q.length pP2 := d8
    have e8 := q8; clear q8
    clear d8
    have q9 : ∃ a p, u 9 = .slice a c.q.length p ∧ Own w.heap.size 45 2 encW w1 (.slice a c.q.length p) c.q := d9
    obtain ⟨a9, p9, e9, q9a⟩ := q9
    clear d9
    simp only [putL, Act.put, List.setIfInBounds_toArray, List.set_cons_zero, List.set_cons_succ, e0, e1, e2, e3, e4, e5, e6, e7, e8, e9] at hK ⊢
    refine Closed.mk ?_
    go_simp
    exact hK.out _ _ ⟨hB, hN, hp, _, hs1, hs2⟩ (Below.refl _ _) (by simp [mask, e3, e5, e9]) (fun h => absurd h (by decide))
  · refine GoalA.mk (by rfl) (⟨fun u v w w' hR ⟨cs, h1, h2⟩ => ⟨cs, h1, below_at hR h2⟩, fun h => by cases h⟩) (fun h => absurd h (by decide)) ?_
    intro f u w1 hf hC hD K hK
    obtain ⟨hB, hN, hp, cs0, hs1, hs2⟩ := hC; clear hf
    have d0 := hD.1; have d1 := hD.2.1; have d2 := hD.2.2.1; have d3 := hD.2.2.2.1; have d4 := hD.2.2.2.2.1; have d5 := hD.2.2.2.2.2.1; have d6 := hD.2.2.2.2.2.2.1; have d7 := hD.2.2.2.2.2.2.2.1; have d8 := hD.2.2.2.2.2.2.2.2.1; have d9 := hD.2.2.2.2.2.2.2.2.2.1; have d10 := hD.2.2.2.2.2.2.2.2.2.2.1; clear hD
    have q0 : ∃ g, u 0 = .slice (some ⟨g, 0, none⟩) 0 0 ∧ w.heap.size ≤ g ∧ w1.heap[g]? = some (.cells #[] 3 (0, 0)) := d0
    obtain ⟨g0, e0, q0a, q0b⟩ := q0
    clear d0
    have q1 : u 1 = .pointer (some ⟨w.heap.size, 0, none⟩) := d1
    have e1 := q1; clear q1
    clear d1
    have q2 : u 2 = .slice aP0 c.readers.length pP0 := d2
    have e2 := q2; clear q2
    clear d2
    have q3 : ∃ a p, u 3 = .slice a c.readers.length p ∧ Own w.heap.size 3 1 encI w1 (.slice a c.readers.length p) c.readers := d3
    obtain ⟨a3, p3, e3, q3a⟩ := q3
    clear d3
    have q4 : u 4 = .pointer (some ⟨w.heap.size, 1, none⟩) := d4
    have e4 := q4; clear q4
    clear d4
    have q5 : u 5 = .int .i64 c.writer := d5
    have e5 := q5; clear q5
    clear d5
    have q6 : ∃ g, u 6 = .slice (some ⟨g, 0, none⟩) 0 0 ∧ w.heap.size ≤ g ∧ w1.heap[g]? = some (.cells #[] 45 (0, 0)) := d6
    obtain ⟨g6, e6, q6a, q6b⟩ := q6
    clear d6
    have q7 : u 7 = .pointer (some ⟨w.heap.size, 2, none⟩) := d7
    have e7 := q7; clear q7
    clear d7
    have q8 : u 8 = .slice aP2 c.q.length pP2 := d8
    have e8 := q8; clear q8
    clear d8
    have q9 : ∃ a p, u 9 = .slice a c.q.length p ∧ Own w.heap.size 45 2 encW w1 (.slice a c.q.length p) c.q := d9
    obtain ⟨a9, p9, e9, q9a⟩ := q9
    clear d9
    have q10 : u 10 = .agg #[(u 3), (u 5), (u 9)] := d10
    have e10 := q10; clear q10
    rw [e3, e5, e9] at e10
    clear d10
    obtain ⟨z0, z1, z2, rfl⟩ := cells3 hs2
    obtain ⟨c9_0, c9_1, c9_2, f9_0, f9_1, f9_2⟩ := box3 hs1
    simp only [putL, Act.put, List.setIfInBounds_toArray, List.set_cons_zero, List.set_cons_succ, e0, e1, e2, e3, e4, e5, e6, e7, e8, e9, e10] at hK ⊢
    refine Closed.mk ?_
    go_simp
    exact hK.out undef _ ⟨(below_setAt (below_setAt (below_setAt hB (w.heap.size + 1) 0 (by omega) (.slice a3 c.readers.length p3)) (w.heap.size + 1) 1 (by omega) (.int .i64 c.writer)) (w.heap.size + 1) 2 (by omega) (.slice a9 c.q.length p9)), by simp only [szS]; exact hN, (set_off (a := ⟨w.heap.size + 1, 2, none⟩) (set_off (a := ⟨w.heap.size + 1, 1, none⟩) (set_off (a := ⟨w.heap.size + 1, 0, none⟩) hp (show w.heap.size + 1 ≠ w.heap.size by omega) (.slice a3 c.readers.length p3)) (show w.heap.size + 1 ≠ w.heap.size by omega) (.int .i64 c.writer)) (show w.heap.size + 1 ≠ w.heap.size by omega) (.slice a9 c.q.length p9)), _, (set_at (a := ⟨w.heap.size + 1, 2, none⟩) (set_at (a := ⟨w.heap.size + 1, 1, none⟩) (set_at (a := ⟨w.heap.size + 1, 0, none⟩) hs1 rfl rfl (.slice a3 c.readers.length p3)) rfl rfl (.int .i64 c.writer)) rfl rfl (.slice a9 c.q.length p9)), rfl⟩ ⟨w.heap.size + 1, _, _, Nat.le_refl _, hs1, (set_at (a := ⟨w.heap.size + 1, 2, none⟩) (set_at (a := ⟨w.heap.size + 1, 1, none⟩) (set_at (a := ⟨w.heap.size + 1, 0, none⟩) hs1 rfl rfl (.slice a3 c.readers.length p3)) rfl rfl (.int .i64 c.writer)) rfl rfl (.slice a9 c.q.length p9)), rfl, (grown_set (a := ⟨w.heap.size + 1, 2, none⟩) (grown_set (a := ⟨w.heap.size + 1, 1, none⟩) (grown_set (a := ⟨w.heap.size + 1, 0, none⟩) (World.grownBy.refl _ _) rfl (.slice a3 c.readers.length p3)) rfl (.int .i64 c.writer)) rfl (.slice a9 c.q.length p9))⟩ ⟨_, (by first | (simp [mask, e10]; done) | (simp [mask, e10]; rfl)), (set_at (a := ⟨w.heap.size + 1, 2, none⟩) (set_at (a := ⟨w.heap.size + 1, 1, none⟩) (set_at (a := ⟨w.heap.size + 1, 0, none⟩) hs1 rfl rfl (.slice a3 c.readers.length p3)) rfl rfl (.int .i64 c.writer)) rfl rfl (.slice a9 c.q.length p9))⟩ (fun h => absurd h (by decide))
  intro u w1 hC hD hAp
  obtain ⟨hB, hN, hp, hs⟩ := hC; clear hs
  have d0 := hD.1; have d1 := hD.2.1; have d2 := hD.2.2.1; have d3 := hD.2.2.2.1; have d4 := hD.2.2.2.2.1; have d5 := hD.2.2.2.2.2.1; have d6 := hD.2.2.2.2.2.2.1; have d7 := hD.2.2.2.2.2.2.2.1; have d8 := hD.2.2.2.2.2.2.2.2.1; have d9 := hD.2.2.2.2.2.2.2.2.2.1; have d10 := hD.2.2.2.2.2.2.2.2.2.2.1; have d11 := hD.2.2.2.2.2.2.2.2.2.2.2.1; clear hD
  have q0 : ∃ g, u 0 = .slice (some ⟨g, 0, none⟩) 0 0 ∧ w.heap.size ≤ g ∧ w1.heap[g]? = some (.cells #[] 3 (0, 0)) := d0
  obtain ⟨g0, e0, q0a, q0b⟩ := q0
  clear d0
  have q1 : u 1 = .pointer (some ⟨w.heap.size, 0, none⟩) := d1
  have e1 := q1; clear q1
  clear d1
  have q2 : u 2 = .slice aP0 c.readers.length pP0 := d2
  have e2 := q2; clear q2
  clear d2
  have q3 : ∃ a p, u 3 = .slice a c.readers.length p ∧ Own w.heap.size 3 1 encI w1 (.slice a c.readers.length p) c.readers := d3
  obtain ⟨a3, p3, e3, q3a⟩ := q3
  clear d3
  have q4 : u 4 = .pointer (some ⟨w.heap.size, 1, none⟩) := d4
  have e4 := q4; clear q4
  clear d4
  have q5 : u 5 = .int .i64 c.writer := d5
  have e5 := q5; clear q5
  clear d5
  have q6 : ∃ g, u 6 = .slice (some ⟨g, 0, none⟩) 0 0 ∧ w.heap.size ≤ g ∧ w1.heap[g]? = some (.cells #[] 45 (0, 0)) := d6
  obtain ⟨g6, e6, q6a, q6b⟩ := q6
  clear d6
  have q7 : u 7 = .pointer (some ⟨w.heap.size, 2, none⟩) := d7
  have e7 := q7; clear q7
  clear d7
  have q8 : u 8 = .slice aP2 c.q.length pP2 := d8
  have e8 := q8; clear q8
  clear d8
  have q9 : ∃ a p, u 9 = .slice a c.q.length p ∧ Own w.heap.size 45 2 encW w1 (.slice a c.q.length p) c.q := d9
  obtain ⟨a9, p9, e9, q9a⟩ := q9
  clear d9
  have q10 : u 10 = .agg #[(u 3), (u 5), (u 9)] := d10
  have e10 := q10; clear q10
  rw [e3, e5, e9] at e10
  clear d10
  have q11 : ∃ cs, u 10 = .agg cs ∧ w1.heap[w.heap.size + 1]? = some (.cells cs 30 (0, 0)) := d11
  clear d11
  clear hAp
  obtain ⟨cc, hg1, hg2⟩ := q11
  have hg3 := same_agg e10 hg1
  rw [hg3] at hg2
  clear hg1 hg3
  have Xres_1 := Lib.hid hg2; clear hg2
  have B1 := Lib.hid hB; have Xp_1 := Lib.hid hp; have N1 := hN; have S1 : w.heap.size ≤ w1.heap.size := (by omega); clear hB hp hN
  have Oc3_1 := Lib.hid q3a; clear q3a
  have Oc9_1 := Lib.hid q9a; clear q9a
  clear q0a q0b
  clear q6a q6b
  obtain ⟨cp1_0, cp1_1, cp1_2, fp1_0, fp1_1, fp1_2⟩ := box3 Xp_1.out; have lp1 := heap_lt Xp_1.out
  obtain ⟨cres1_0, cres1_1, cres1_2, fres1_0, fres1_1, fres1_2⟩ := box3 Xres_1.out; have lres1 := heap_lt Xres_1.out
  simp only [putL, Act.put, List.setIfInBounds_toArray, List.set_cons_zero, List.set_cons_succ, e0, e1, e2, e3, e4, e5, e6, e7, e8, e9, e10]
  refine Closed.mk ?_
  refine wpAnyH_done (by kernel_rfl) ?_ _
  go_wp2_with (fail)
  refine bodyPost_ret (v := .agg #[.slice a3 c.readers.length p3, .int .i64 c.writer, .slice a9 c.q.length p9]) (by simp [results, Tryd.results50, go_sem, cres1_0, cres1_1, cres1_2, lres1]) rfl ⟨_, rfl, LockOwn.make Oc3_1.out Oc9_1.out (Nat.le_refl _), B1.out⟩
theorem sNewLock_calls (w : World) :
    Calls Tryd.prog 18 #[] w fun e w' => ∃ v', e = .returned v' ∧ LockOwn w.heap.size w'.heap.size w' v' ⟨[], -1, []⟩ ∧ Below w.heap.size w w' := by
  go_enter Tryd.func18, Tryd.ntmps18
  go_wp2
  refine bodyPost_ret (v := .agg #[.slice (some ⟨w.heap.size + 1, 0, none⟩) 0 0, .int .i64 (-1), .slice (some ⟨w.heap.size + 2, 0, none⟩) 0 0]) (by simp [results, Tryd.results18, go_sem]) rfl ⟨_, rfl, LockOwn.make (x0 := []) (x2 := []) (Own.empty (heap_up (heap_at' (n := w.heap.size + 1) (by first | omega | (simp only [szA, szS, szD, World.heap_drewN] at * <;> omega)))) (by omega)) (Own.empty (heap_at' (n := w.heap.size + 2) (by first | omega | (simp only [szA, szS, szD, World.heap_drewN] at * <;> omega))) (by omega)) (Nat.le_refl _), (Below.alloc (Below.alloc (Below.alloc (Below.refl _ _) (by first | omega | (simp only [szA, szS, szD, World.heap_drewN] at * <;> omega)) _) (by first | omega | (simp only [szA, szS, szD, World.heap_drewN] at * <;> omega)) _) (by first | omega | (simp only [szA, szS, szD, World.heap_drewN] at * <;> omega)) _)⟩
end Go.Proofs.YtbnfhnfnbhigoaaDoor
