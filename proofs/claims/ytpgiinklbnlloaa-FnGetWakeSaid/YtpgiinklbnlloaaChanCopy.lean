/- A deep copy of a channel (made by gen_chan.py). -/
import Derived.Test.YtpgiinklbnlloaaDrChan
import Derived.Test.YtpgiinklbnlloaaChanNew
import Derived.Test.YtpgiinklbnlloaaChanValid
import Derived.Test.YtpgiinklbnlloaaRgA
import Derived.Test.YtpgiinklbnlloaaRgBox
import Derived.Test.YtpgiinklbnlloaaSets
namespace Go.Proofs.Ytpgiinklbnlloaa
open Go.RowKit
set_option linter.unusedSimpArgs false
set_option linter.unusedVariables false
set_option maxHeartbeats 8000000 in
theorem l5Copy_calls (v : Value) (c : ChanD)  (w : World) (h : ChanRow w v c) (hn : c.items.length + c.senders.length + c.getters.length ≤ 1048576) :
    Calls Try.prog 71 #[v] w fun e w' => ∃ v', e = .returned v' ∧ ChanOwn w.heap.size w'.heap.size w' v' c ∧ Below w.heap.size w w' := by
  have HP := Lib.hid h
  obtain ⟨aP1, pP1, aP2, pP2, aP3, pP3, rfl, hr1, hr2, hr3⟩ := h
  have HI1 := Lib.hid hr1; have HI2 := Lib.hid hr2; have HI3 := Lib.hid hr3; clear hr1 hr2 hr3
  go_enter Try.func71, Try.ntmps71
  go_wp2_with (fail)
  have hN0 : w.heap.size + 2 ≤ ((w.alloc (.cells #[.int .i64 c.room, .slice aP1 c.items.length pP1, .slice aP2 c.senders.length pP2, .slice aP3 c.getters.length pP3, .bool c.closed] 25)).alloc (.cells #[.int .i64 0, .slice none 0 0, .slice none 0 0, .slice none 0 0, .bool false] 25)).heap.size := (by first | omega | (simp only [szA, szS, szD, World.heap_drewN] at * <;> omega))
  refine wp_region_A [⟨0, false, [], fun _ v _ => v = .pointer (some ⟨w.heap.size, 0, none⟩)⟩, ⟨1, false, [0], fun _ v _ => v = .int .i64 c.room⟩, ⟨2, false, [], fun _ v w' => ∃ g, v = .slice (some ⟨g, 0, none⟩) 0 0 ∧ w.heap.size ≤ g ∧ w'.heap[g]? = some (.cells #[] 3 (0, 0))⟩, ⟨3, false, [], fun _ v _ => v = .pointer (some ⟨w.heap.size, 1, none⟩)⟩, ⟨4, false, [3], fun _ v _ => v = .slice aP1 c.items.length pP1⟩, ⟨5, false, [2, 3, 4], fun _ v w' => ∃ a p, v = .slice a c.items.length p ∧ Own w.heap.size 3 1 encI w' (.slice a c.items.length p) c.items⟩, ⟨6, false, [], fun _ v w' => ∃ g, v = .slice (some ⟨g, 0, none⟩) 0 0 ∧ w.heap.size ≤ g ∧ w'.heap[g]? = some (.cells #[] 58 (0, 0))⟩, ⟨7, false, [], fun _ v _ => v = .pointer (some ⟨w.heap.size, 2, none⟩)⟩, ⟨8, false, [7], fun _ v _ => v = .slice aP2 c.senders.length pP2⟩, ⟨9, false, [6, 7, 8], fun _ v w' => ∃ a p, v = .slice a c.senders.length p ∧ Own w.heap.size 58 2 encP w' (.slice a c.senders.length p) c.senders⟩, ⟨10, false, [], fun _ v w' => ∃ g, v = .slice (some ⟨g, 0, none⟩) 0 0 ∧ w.heap.size ≤ g ∧ w'.heap[g]? = some (.cells #[] 3 (0, 0))⟩, ⟨11, false, [], fun _ v _ => v = .pointer (some ⟨w.heap.size, 3, none⟩)⟩, ⟨12, false, [11], fun _ v _ => v = .slice aP3 c.getters.length pP3⟩, ⟨13, false, [10, 11, 12], fun _ v w' => ∃ a p, v = .slice a c.getters.length p ∧ Own w.heap.size 3 1 encI w' (.slice a c.getters.length p) c.getters⟩, ⟨14, false, [], fun _ v _ => v = .pointer (some ⟨w.heap.size, 4, none⟩)⟩, ⟨15, false, [14], fun _ v _ => v = .bool c.closed⟩, ⟨16, false, [0, 1, 2, 3, 4, 5, 6, 7, 8, 9, 10, 11, 12, 13, 14, 15], fun u v _ => v = .agg #[(u 1), (u 5), (u 9), (u 13), (u 15)]⟩, ⟨17, true, [0, 1, 2, 3, 4, 5, 6, 7, 8, 9, 10, 11, 12, 13, 14, 15, 16], fun u _ w' => ∃ cs, u 16 = .agg cs ∧ w'.heap[w.heap.size + 1]? = some (.cells cs 25 (0, 0))⟩] (fun i => [2, 5, 6, 9, 10, 13].contains i) (fun i => if i = 2 then 5 else if i = 5 then 5 else if i = 6 then 9 else if i = 9 then 9 else if i = 10 then 13 else if i = 13 then 13 else 0) (fun d hd => by simp only [List.contains_eq_mem, decide_eq_true_eq, List.mem_cons, List.not_mem_nil, or_false] at hd; simp only [List.map_cons, List.map_nil, List.mem_cons, List.not_mem_nil, or_false]; omega) [(0, some 3), (1, some 4), (2, some 5), (3, some 6), (4, some 7), (5, some 8), (6, some 9), (7, some 10), (8, some 11), (9, some 12), (10, some 13), (11, some 14), (12, some 15), (13, some 16), (14, some 17), (15, some 18), (16, some 19), (17, none)] (fun f w' => Below w.heap.size w w' ∧ w.heap.size + 2 ≤ w'.heap.size ∧ w'.heap[w.heap.size]? = some (.cells #[.int .i64 c.room, .slice aP1 c.items.length pP1, .slice aP2 c.senders.length pP2, .slice aP3 c.getters.length pP3, .bool c.closed] 25 (0, 0)) ∧ (∃ cs : Array Value, w'.heap[w.heap.size + 1]? = some (.cells cs 25 (0, 0)) ∧ cs.size = 5)) (fun x w1 w2 => if x = true then BoxW (w.heap.size + 1) 25 w1 w2 else Below w1.heap.size w1 w2) (by kernel_rfl) (by rfl) (by kernel_rfl) (by kernel_rfl) ⟨(Below.alloc (Below.alloc (Below.refl _ _) (by first | omega | (simp only [szA, szS, szD, World.heap_drewN] at * <;> omega)) _) (by first | omega | (simp only [szA, szS, szD, World.heap_drewN] at * <;> omega)) _).drew, hN0, heap_drew (heap_up (heap_at' (n := w.heap.size) (by first | omega | (simp only [szA, szS, szD, World.heap_drewN] at * <;> omega)))), _, heap_drew (heap_at' (n := w.heap.size + 1) (by first | omega | (simp only [szA, szS, szD, World.heap_drewN] at * <;> omega))), rfl⟩ (GoalsA.cons ?_ (GoalsA.cons ?_ (GoalsA.cons ?_ (GoalsA.cons ?_ (GoalsA.cons ?_ (GoalsA.cons ?_ (GoalsA.cons ?_ (GoalsA.cons ?_ (GoalsA.cons ?_ (GoalsA.cons ?_ (GoalsA.cons ?_ (GoalsA.cons ?_ (GoalsA.cons ?_ (GoalsA.cons ?_ (GoalsA.cons ?_ (GoalsA.cons ?_ (GoalsA.cons ?_ (GoalsA.cons ?_ (GoalsA.nil))))))))))))))))))) ?_
  · refine GoalA.mk (by rfl) (⟨fun _ _ _ _ _ h => h, fun _ _ _ _ _ _ h => h⟩) (fun h => absurd h (by decide)) ?_
    intro f u w1 hf hC hD K hK
    obtain ⟨hB, hN, hp, cs0, hs1, hs2⟩ := hC; clear hf
    clear hD
    simp only [putL, Act.put, List.setIfInBounds_toArray, List.set_cons_zero, List.set_cons_succ] at hK ⊢
    refine Closed.mk ?_
    go_simp
    exact hK.out _ _ ⟨hB, hN, hp, _, hs1, hs2⟩ (Below.refl _ _) rfl (fun h => absurd h (by decide))
  · refine GoalA.mk (by rfl) (⟨fun _ _ _ _ _ h => h, fun _ _ _ _ _ _ h => h⟩) (fun h => absurd h (by decide)) ?_
    intro f u w1 hf hC hD K hK
    obtain ⟨hB, hN, hp, cs0, hs1, hs2⟩ := hC; clear hf
    have d0 := hD.1; clear hD
    have q0 : u 0 = .pointer (some ⟨w.heap.size, 0, none⟩) := d0
    have e0 := q0; clear q0
    clear d0
    obtain ⟨c0_0, c0_1, c0_2, c0_3, c0_4, f0_0, f0_1, f0_2, f0_3, f0_4⟩ := box5 hp
    simp only [putL, Act.put, List.setIfInBounds_toArray, List.set_cons_zero, List.set_cons_succ, e0] at hK ⊢
    refine Closed.mk ?_
    go_simp
    exact hK.out _ _ ⟨hB, hN, hp, _, hs1, hs2⟩ (Below.refl _ _) rfl (fun h => absurd h (by decide))
  · refine GoalA.mk (by rfl) (⟨fun _ _ _ _ hR ⟨g, h1, h2, h3⟩ => ⟨g, h1, h2, below_at hR h3⟩, fun _ _ _ _ _ hR ⟨g, h1, h2, h3⟩ => ⟨g, h1, h2, boxW_off h3 hR (by decide)⟩⟩) (fun _ _ _ _ ⟨g, h1, _, h3⟩ g' e => by rw [h1] at e; cases e; exact heap_lt h3) ?_
    intro f u w1 hf hC hD K hK
    obtain ⟨hB, hN, hp, cs0, hs1, hs2⟩ := hC; clear hf
    clear hD
    simp only [putL, Act.put, List.setIfInBounds_toArray, List.set_cons_zero, List.set_cons_succ] at hK ⊢
    refine Closed.mk ?_
    go_simp
    exact hK.out _ _ ⟨Below.alloc hB (by omega) _, Nat.le_trans hN (alloc_le _ _), heap_up hp, _, heap_up hs1, hs2⟩ (Below.alloc (Below.refl _ _) (Nat.le_refl _) _) ⟨_, rfl, by omega, heap_at _ _⟩ (fun _ g' e => .inl (by cases e; exact Nat.le_refl _))
  · refine GoalA.mk (by rfl) (⟨fun _ _ _ _ _ h => h, fun _ _ _ _ _ _ h => h⟩) (fun h => absurd h (by decide)) ?_
    intro f u w1 hf hC hD K hK
    obtain ⟨hB, hN, hp, cs0, hs1, hs2⟩ := hC; clear hf
    clear hD
    simp only [putL, Act.put, List.setIfInBounds_toArray, List.set_cons_zero, List.set_cons_succ] at hK ⊢
    refine Closed.mk ?_
    go_simp
    exact hK.out _ _ ⟨hB, hN, hp, _, hs1, hs2⟩ (Below.refl _ _) rfl (fun h => absurd h (by decide))
  · refine GoalA.mk (by rfl) (⟨fun _ _ _ _ _ h => h, fun _ _ _ _ _ _ h => h⟩) (fun h => absurd h (by decide)) ?_
    intro f u w1 hf hC hD K hK
    obtain ⟨hB, hN, hp, cs0, hs1, hs2⟩ := hC; clear hf
    have d3 := hD.1; clear hD
    have q3 : u 3 = .pointer (some ⟨w.heap.size, 1, none⟩) := d3
    have e3 := q3; clear q3
    clear d3
    obtain ⟨c0_0, c0_1, c0_2, c0_3, c0_4, f0_0, f0_1, f0_2, f0_3, f0_4⟩ := box5 hp
    simp only [putL, Act.put, List.setIfInBounds_toArray, List.set_cons_zero, List.set_cons_succ, e3] at hK ⊢
    refine Closed.mk ?_
    go_simp
    exact hK.out _ _ ⟨hB, hN, hp, _, hs1, hs2⟩ (Below.refl _ _) rfl (fun h => absurd h (by decide))
  · refine GoalA.mk (by rfl) (⟨fun _ _ _ _ hR ⟨a, p, h1, h2⟩ => ⟨a, p, h1, h2.kept hR⟩, fun _ _ _ _ _ hR ⟨a, p, h1, h2⟩ => ⟨a, p, h1, h2.boxW hR (by decide)⟩⟩) (fun _ _ _ _ ⟨a, p, h1, h2⟩ g' e => by rw [h1] at e; exact h2.hi g' e) ?_
    intro f u w1 hf hC hD K hK
    obtain ⟨hB, hN, hp, cs0, hs1, hs2⟩ := hC; clear hf
    have d2 := hD.1; have d3 := hD.2.1; have d4 := hD.2.2.1; clear hD
    have q2 : ∃ g, u 2 = .slice (some ⟨g, 0, none⟩) 0 0 ∧ w.heap.size ≤ g ∧ w1.heap[g]? = some (.cells #[] 3 (0, 0)) := d2
    obtain ⟨g2, e2, q2a, q2b⟩ := q2
    clear d2
    have q3 : u 3 = .pointer (some ⟨w.heap.size, 1, none⟩) := d3
    have e3 := q3; clear q3
    clear d3
    have q4 : u 4 = .slice aP1 c.items.length pP1 := d4
    have e4 := q4; clear q4
    clear d4
    simp only [putL, Act.put, List.setIfInBounds_toArray, List.set_cons_zero, List.set_cons_succ, e2, e3, e4] at hK ⊢
    refine Closed.mk ?_
    refine iteT (by simp [Region.wanted]) ?_
    refine wp_cloneE encI_len encI_one _ _ 22 (by rfl) 3 _ 8 Try.underlying22 info_int rfl (by decide) (w.heap.size) g2 (by first | rfl | simp [Act.eval, Act.put]) q2b q2a (.slice aP1 c.items.length pP1) c.items (by first | rfl | simp [Act.eval, Act.put]) (Row.below HI1.out hB) (by decide) (by omega) ?_
    intro ad cp w2 hown hb hblk
    exact hK.out _ _ ⟨Below.trans hB (hb.mono (by omega)), Nat.le_trans hN hb.size, below_at hb hp, _, below_at hb hs1, hs2⟩ hb ⟨ad, cp, rfl, hown⟩ (fun _ g' e => (hblk g' e).imp id (fun h => ⟨2, by simp, rfl, rfl, by rw [e2, h]; rfl⟩))
  · refine GoalA.mk (by rfl) (⟨fun _ _ _ _ hR ⟨g, h1, h2, h3⟩ => ⟨g, h1, h2, below_at hR h3⟩, fun _ _ _ _ _ hR ⟨g, h1, h2, h3⟩ => ⟨g, h1, h2, boxW_off h3 hR (by decide)⟩⟩) (fun _ _ _ _ ⟨g, h1, _, h3⟩ g' e => by rw [h1] at e; cases e; exact heap_lt h3) ?_
    intro f u w1 hf hC hD K hK
    obtain ⟨hB, hN, hp, cs0, hs1, hs2⟩ := hC; clear hf
    clear hD
    simp only [putL, Act.put, List.setIfInBounds_toArray, List.set_cons_zero, List.set_cons_succ] at hK ⊢
    refine Closed.mk ?_
    go_simp
    exact hK.out _ _ ⟨Below.alloc hB (by omega) _, Nat.le_trans hN (alloc_le _ _), heap_up hp, _, heap_up hs1, hs2⟩ (Below.alloc (Below.refl _ _) (Nat.le_refl _) _) ⟨_, rfl, by omega, heap_at _ _⟩ (fun _ g' e => .inl (by cases e; exact Nat.le_refl _))
  · refine GoalA.mk (by rfl) (⟨fun _ _ _ _ _ h => h, fun _ _ _ _ _ _ h => h⟩) (fun h => absurd h (by decide)) ?_
    intro f u w1 hf hC hD K hK
    obtain ⟨hB, hN, hp, cs0, hs1, hs2⟩ := hC; clear hf
    clear hD
    simp only [putL, Act.put, List.setIfInBounds_toArray, List.set_cons_zero, List.set_cons_succ] at hK ⊢
    refine Closed.mk ?_
    go_simp
    exact hK.out _ _ ⟨hB, hN, hp, _, hs1, hs2⟩ (Below.refl _ _) rfl (fun h => absurd h (by decide))
  · refine GoalA.mk (by rfl) (⟨fun _ _ _ _ _ h => h, fun _ _ _ _ _ _ h => h⟩) (fun h => absurd h (by decide)) ?_
    intro f u w1 hf hC hD K hK
    obtain ⟨hB, hN, hp, cs0, hs1, hs2⟩ := hC; clear hf
    have d7 := hD.1; clear hD
    have q7 : u 7 = .pointer (some ⟨w.heap.size, 2, none⟩) := d7
    have e7 := q7; clear q7
    clear d7
    obtain ⟨c0_0, c0_1, c0_2, c0_3, c0_4, f0_0, f0_1, f0_2, f0_3, f0_4⟩ := box5 hp
    simp only [putL, Act.put, List.setIfInBounds_toArray, List.set_cons_zero, List.set_cons_succ, e7] at hK ⊢
    refine Closed.mk ?_
    go_simp
    exact hK.out _ _ ⟨hB, hN, hp, _, hs1, hs2⟩ (Below.refl _ _) rfl (fun h => absurd h (by decide))
  · refine GoalA.mk (by rfl) (⟨fun _ _ _ _ hR ⟨a, p, h1, h2⟩ => ⟨a, p, h1, h2.kept hR⟩, fun _ _ _ _ _ hR ⟨a, p, h1, h2⟩ => ⟨a, p, h1, h2.boxW hR (by decide)⟩⟩) (fun _ _ _ _ ⟨a, p, h1, h2⟩ g' e => by rw [h1] at e; exact h2.hi g' e) ?_
    intro f u w1 hf hC hD K hK
    obtain ⟨hB, hN, hp, cs0, hs1, hs2⟩ := hC; clear hf
    have d6 := hD.1; have d7 := hD.2.1; have d8 := hD.2.2.1; clear hD
    have q6 : ∃ g, u 6 = .slice (some ⟨g, 0, none⟩) 0 0 ∧ w.heap.size ≤ g ∧ w1.heap[g]? = some (.cells #[] 58 (0, 0)) := d6
    obtain ⟨g6, e6, q6a, q6b⟩ := q6
    clear d6
    have q7 : u 7 = .pointer (some ⟨w.heap.size, 2, none⟩) := d7
    have e7 := q7; clear q7
    clear d7
    have q8 : u 8 = .slice aP2 c.senders.length pP2 := d8
    have e8 := q8; clear q8
    clear d8
    simp only [putL, Act.put, List.setIfInBounds_toArray, List.set_cons_zero, List.set_cons_succ, e6, e7, e8] at hK ⊢
    refine Closed.mk ?_
    refine iteT (by simp [Region.wanted]) ?_
    refine wp_cloneE encP_len one_pair _ _ 23 (by rfl) 58 _ 16 Try.underlying23 info_Letter rfl (by decide) (w.heap.size) g6 (by first | rfl | simp [Act.eval, Act.put]) q6b q6a (.slice aP2 c.senders.length pP2) c.senders (by first | rfl | simp [Act.eval, Act.put]) (Row.below HI2.out hB) (by decide) (by omega) ?_
    intro ad cp w2 hown hb hblk
    exact hK.out _ _ ⟨Below.trans hB (hb.mono (by omega)), Nat.le_trans hN hb.size, below_at hb hp, _, below_at hb hs1, hs2⟩ hb ⟨ad, cp, rfl, hown⟩ (fun _ g' e => (hblk g' e).imp id (fun h => ⟨6, by simp, rfl, rfl, by rw [e6, h]; rfl⟩))
  · refine GoalA.mk (by rfl) (⟨fun _ _ _ _ hR ⟨g, h1, h2, h3⟩ => ⟨g, h1, h2, below_at hR h3⟩, fun _ _ _ _ _ hR ⟨g, h1, h2, h3⟩ => ⟨g, h1, h2, boxW_off h3 hR (by decide)⟩⟩) (fun _ _ _ _ ⟨g, h1, _, h3⟩ g' e => by rw [h1] at e; cases e; exact heap_lt h3) ?_
    intro f u w1 hf hC hD K hK
    obtain ⟨hB, hN, hp, cs0, hs1, hs2⟩ := hC; clear hf
    clear hD
    simp only [putL, Act.put, List.setIfInBounds_toArray, List.set_cons_zero, List.set_cons_succ] at hK ⊢
    refine Closed.mk ?_
    go_simp
    exact hK.out _ _ ⟨Below.alloc hB (by omega) _, Nat.le_trans hN (alloc_le _ _), heap_up hp, _, heap_up hs1, hs2⟩ (Below.alloc (Below.refl _ _) (Nat.le_refl _) _) ⟨_, rfl, by omega, heap_at _ _⟩ (fun _ g' e => .inl (by cases e; exact Nat.le_refl _))
  · refine GoalA.mk (by rfl) (⟨fun _ _ _ _ _ h => h, fun _ _ _ _ _ _ h => h⟩) (fun h => absurd h (by decide)) ?_
    intro f u w1 hf hC hD K hK
    obtain ⟨hB, hN, hp, cs0, hs1, hs2⟩ := hC; clear hf
    clear hD
    simp only [putL, Act.put, List.setIfInBounds_toArray, List.set_cons_zero, List.set_cons_succ] at hK ⊢
    refine Closed.mk ?_
    go_simp
    exact hK.out _ _ ⟨hB, hN, hp, _, hs1, hs2⟩ (Below.refl _ _) rfl (fun h => absurd h (by decide))
  · refine GoalA.mk (by rfl) (⟨fun _ _ _ _ _ h => h, fun _ _ _ _ _ _ h => h⟩) (fun h => absurd h (by decide)) ?_
    intro f u w1 hf hC hD K hK
    obtain ⟨hB, hN, hp, cs0, hs1, hs2⟩ := hC; clear hf
    have d11 := hD.1; clear hD
    have q11 : u 11 = .pointer (some ⟨w.heap.size, 3, none⟩) := d11
    have e11 := q11; clear q11
    clear d11
    obtain ⟨c0_0, c0_1, c0_2, c0_3, c0_4, f0_0, f0_1, f0_2, f0_3, f0_4⟩ := box5 hp
    simp only [putL, Act.put, List.setIfInBounds_toArray, List.set_cons_zero, List.set_cons_succ, e11] at hK ⊢
    refine Closed.mk ?_
    go_simp
    exact hK.out _ _ ⟨hB, hN, hp, _, hs1, hs2⟩ (Below.refl _ _) rfl (fun h => absurd h (by decide))
  · refine GoalA.mk (by rfl) (⟨fun _ _ _ _ hR ⟨a, p, h1, h2⟩ => ⟨a, p, h1, h2.kept hR⟩, fun _ _ _ _ _ hR ⟨a, p, h1, h2⟩ => ⟨a, p, h1, h2.boxW hR (by decide)⟩⟩) (fun _ _ _ _ ⟨a, p, h1, h2⟩ g' e => by rw [h1] at e; exact h2.hi g' e) ?_
    intro f u w1 hf hC hD K hK
    obtain ⟨hB, hN, hp, cs0, hs1, hs2⟩ := hC; clear hf
    have d10 := hD.1; have d11 := hD.2.1; have d12 := hD.2.2.1; clear hD
    have q10 : ∃ g, u 10 = .slice (some ⟨g, 0, none⟩) 0 0 ∧ w.heap.size ≤ g ∧ w1.heap[g]? = some (.cells #[] 3 (0, 0)) := d10
    obtain ⟨g10, e10, q10a, q10b⟩ := q10
    clear d10
    have q11 : u 11 = .pointer (some ⟨w.heap.size, 3, none⟩) := d11
    have e11 := q11; clear q11
    clear d11
    have q12 : u 12 = .slice aP3 c.getters.length pP3 := d12
    have e12 := q12; clear q12
    clear d12
    simp only [putL, Act.put, List.setIfInBounds_toArray, List.set_cons_zero, List.set_cons_succ, e10, e11, e12] at hK ⊢
    refine Closed.mk ?_
    refine iteT (by simp [Region.wanted]) ?_
    refine wp_cloneE encI_len encI_one _ _ 22 (by rfl) 3 _ 8 Try.underlying22 info_int rfl (by decide) (w.heap.size) g10 (by first | rfl | simp [Act.eval, Act.put]) q10b q10a (.slice aP3 c.getters.length pP3) c.getters (by first | rfl | simp [Act.eval, Act.put]) (Row.below HI3.out hB) (by decide) (by omega) ?_
    intro ad cp w2 hown hb hblk
    exact hK.out _ _ ⟨Below.trans hB (hb.mono (by omega)), Nat.le_trans hN hb.size, below_at hb hp, _, below_at hb hs1, hs2⟩ hb ⟨ad, cp, rfl, hown⟩ (fun _ g' e => (hblk g' e).imp id (fun h => ⟨10, by simp, rfl, rfl, by rw [e10, h]; rfl⟩))
  · refine GoalA.mk (by rfl) (⟨fun _ _ _ _ _ h => h, fun _ _ _ _ _ _ h => h⟩) (fun h => absurd h (by decide)) ?_
    intro f u w1 hf hC hD K hK
    obtain ⟨hB, hN, hp, cs0, hs1, hs2⟩ := hC; clear hf
    clear hD
    simp only [putL, Act.put, List.setIfInBounds_toArray, List.set_cons_zero, List.set_cons_succ] at hK ⊢
    refine Closed.mk ?_
    go_simp
    exact hK.out _ _ ⟨hB, hN, hp, _, hs1, hs2⟩ (Below.refl _ _) rfl (fun h => absurd h (by decide))
  · refine GoalA.mk (by rfl) (⟨fun _ _ _ _ _ h => h, fun _ _ _ _ _ _ h => h⟩) (fun h => absurd h (by decide)) ?_
    intro f u w1 hf hC hD K hK
    obtain ⟨hB, hN, hp, cs0, hs1, hs2⟩ := hC; clear hf
    have d14 := hD.1; clear hD
    have q14 : u 14 = .pointer (some ⟨w.heap.size, 4, none⟩) := d14
    have e14 := q14; clear q14
    clear d14
    obtain ⟨c0_0, c0_1, c0_2, c0_3, c0_4, f0_0, f0_1, f0_2, f0_3, f0_4⟩ := box5 hp
    simp only [putL, Act.put, List.setIfInBounds_toArray, List.set_cons_zero, List.set_cons_succ, e14] at hK ⊢
    refine Closed.mk ?_
    go_simp
    exact hK.out _ _ ⟨hB, hN, hp, _, hs1, hs2⟩ (Below.refl _ _) rfl (fun h => absurd h (by decide))
  · refine GoalA.mk (by rfl) (⟨fun _ _ _ _ _ h => h, fun _ _ _ _ _ _ h => h⟩) (fun h => absurd h (by decide)) ?_
    intro f u w1 hf hC hD K hK
    obtain ⟨hB, hN, hp, cs0, hs1, hs2⟩ := hC; clear hf
    have d0 := hD.1; have d1 := hD.2.1; have d2 := hD.2.2.1; have d3 := hD.2.2.2.1; have d4 := hD.2.2.2.2.1; have d5 := hD.2.2.2.2.2.1; have d6 := hD.2.2.2.2.2.2.1; have d7 := hD.2.2.2.2.2.2.2.1; have d8 := hD.2.2.2.2.2.2.2.2.1; have d9 := hD.2.2.2.2.2.2.2.2.2.1; have d10 := hD.2.2.2.2.2.2.2.2.2.2.1; have d11 := hD.2.2.2.2.2.2.2.2.2.2.2.1; have d12 := hD.2.2.2.2.2.2.2.2.2.2.2.2.1; have d13 := hD.2.2.2.2.2.2.2.2.2.2.2.2.2.1; have d14 := hD.2.2.2.2.2.2.2.2.2.2.2.2.2.2.1; have d15 := hD.2.2.2.2.2.2.2.2.2.2.2.2.2.2.2.1; clear hD
    have q0 : u 0 = .pointer (some ⟨w.heap.size, 0, none⟩) := d0
    have e0 := q0; clear q0
    clear d0
    have q1 : u 1 = .int .i64 c.room := d1
    have e1 := q1; clear q1
    clear d1
    have q2 : ∃ g, u 2 = .slice (some ⟨g, 0, none⟩) 0 0 ∧ w.heap.size ≤ g ∧ w1.heap[g]? = some (.cells #[] 3 (0, 0)) := d2
    obtain ⟨g2, e2, q2a, q2b⟩ := q2
    clear d2
    have q3 : u 3 = .pointer (some ⟨w.heap.size, 1, none⟩) := d3
    have e3 := q3; clear q3
    clear d3
    have q4 : u 4 = .slice aP1 c.items.length pP1 := d4
    have e4 := q4; clear q4
    clear d4
    have q5 : ∃ a p, u 5 = .slice a c.items.length p ∧ Own w.heap.size 3 1 encI w1 (.slice a c.items.length p) c.items := d5
    obtain ⟨a5, p5, e5, q5a⟩ := q5
    clear d5
    have q6 : ∃ g, u 6 = .slice (some ⟨g, 0, none⟩) 0 0 ∧ w.heap.size ≤ g ∧ w1.heap[g]? = some (.cells #[] 58 (0, 0)) := d6
    obtain ⟨g6, e6, q6a, q6b⟩ := q6
    clear d6
    have q7 : u 7 = .pointer (some ⟨w.heap.size, 2, none⟩) := d7
    have e7 := q7; clear q7
    clear d7
    have q8 : u 8 = .slice aP2 c.senders.length pP2 := d8
    have e8 := q8; clear q8
    clear d8
    have q9 : ∃ a p, u 9 = .slice a c.senders.length p ∧ Own w.heap.size 58 2 encP w1 (.slice a c.senders.length p) c.senders := d9
    obtain ⟨a9, p9, e9, q9a⟩ := q9
    clear d9
    have q10 : ∃ g, u 10 = .slice (some ⟨g, 0, none⟩) 0 0 ∧ w.heap.size ≤ g ∧ w1.heap[g]? = some (.cells #[] 3 (0, 0)) := d10
    obtain ⟨g10, e10, q10a, q10b⟩ := q10
    clear d10
    have q11 : u 11 = .pointer (some ⟨w.heap.size, 3, none⟩) := d11
    have e11 := q11; clear q11
    clear d11
    have q12 : u 12 = .slice aP3 c.getters.length pP3 := d12
    have e12 := q12; clear q12
    clear d12
    have q13 : ∃ a p, u 13 = .slice a c.getters.length p ∧ Own w.heap.size 3 1 encI w1 (.slice a c.getters.length p) c.getters := d13
    obtain ⟨a13, p13, e13, q13a⟩ := q13
    clear d13
    have q14 : u 14 = .pointer (some ⟨w.heap.size, 4, none⟩) := d14
    have e14 := q14; clear q14
    clear d14
    have q15 : u 15 = .bool c.closed := d15
    have e15 := q15; clear q15
    clear d15
    simp only [putL, Act.put, List.setIfInBounds_toArray, List.set_cons_zero, List.set_cons_succ, e0, e1, e2, e3, e4, e5, e6, e7, e8, e9, e10, e11, e12, e13, e14, e15] at hK ⊢
    refine Closed.mk ?_
    go_simp
    exact hK.out _ _ ⟨hB, hN, hp, _, hs1, hs2⟩ (Below.refl _ _) (by simp [mask, e1, e5, e9, e13, e15]) (fun h => absurd h (by decide))
  · refine GoalA.mk (by rfl) (⟨fun u v w w' hR ⟨cs, h1, h2⟩ => ⟨cs, h1, below_at hR h2⟩, fun h => by cases h⟩) (fun h => absurd h (by decide)) ?_
    intro f u w1 hf hC hD K hK
    obtain ⟨hB, hN, hp, cs0, hs1, hs2⟩ := hC; clear hf
    have d0 := hD.1; have d1 := hD.2.1; have d2 := hD.2.2.1; have d3 := hD.2.2.2.1; have d4 := hD.2.2.2.2.1; have d5 := hD.2.2.2.2.2.1; have d6 := hD.2.2.2.2.2.2.1; have d7 := hD.2.2.2.2.2.2.2.1; have d8 := hD.2.2.2.2.2.2.2.2.1; have d9 := hD.2.2.2.2.2.2.2.2.2.1; have d10 := hD.2.2.2.2.2.2.2.2.2.2.1; have d11 := hD.2.2.2.2.2.2.2.2.2.2.2.1; have d12 := hD.2.2.2.2.2.2.2.2.2.2.2.2.1; have d13 := hD.2.2.2.2.2.2.2.2.2.2.2.2.2.1; have d14 := hD.2.2.2.2.2.2.2.2.2.2.2.2.2.2.1; have d15 := hD.2.2.2.2.2.2.2.2.2.2.2.2.2.2.2.1; have d16 := hD.2.2.2.2.2.2.2.2.2.2.2.2.2.2.2.2.1; clear hD
    have q0 : u 0 = .pointer (some ⟨w.heap.size, 0, none⟩) := d0
    have e0 := q0; clear q0
    clear d0
    have q1 : u 1 = .int .i64 c.room := d1
    have e1 := q1; clear q1
    clear d1
    have q2 : ∃ g, u 2 = .slice (some ⟨g, 0, none⟩) 0 0 ∧ w.heap.size ≤ g ∧ w1.heap[g]? = some (.cells #[] 3 (0, 0)) := d2
    obtain ⟨g2, e2, q2a, q2b⟩ := q2
    clear d2
    have q3 : u 3 = .pointer (some ⟨w.heap.size, 1, none⟩) := d3
    have e3 := q3; clear q3
    clear d3
    have q4 : u 4 = .slice aP1 c.items.length pP1 := d4
    have e4 := q4; clear q4
    clear d4
    have q5 : ∃ a p, u 5 = .slice a c.items.length p ∧ Own w.heap.size 3 1 encI w1 (.slice a c.items.length p) c.items := d5
    obtain ⟨a5, p5, e5, q5a⟩ := q5
    clear d5
    have q6 : ∃ g, u 6 = .slice (some ⟨g, 0, none⟩) 0 0 ∧ w.heap.size ≤ g ∧ w1.heap[g]? = some (.cells #[] 58 (0, 0)) := d6
    obtain ⟨g6, e6, q6a, q6b⟩ := q6
    clear d6
    have q7 : u 7 = .pointer (some ⟨w.heap.size, 2, none⟩) := d7
    have e7 := q7; clear q7
    clear d7
    have q8 : u 8 = .slice aP2 c.senders.length pP2 := d8
    have e8 := q8; clear q8
    clear d8
    have q9 : ∃ a p, u 9 = .slice a c.senders.length p ∧ Own w.heap.size 58 2 encP w1 (.slice a c.senders.length p) c.senders := d9
    obtain ⟨a9, p9, e9, q9a⟩ := q9
    clear d9
    have q10 : ∃ g, u 10 = .slice (some ⟨g, 0, none⟩) 0 0 ∧ w.heap.size ≤ g ∧ w1.heap[g]? = some (.cells #[] 3 (0, 0)) := d10
    obtain ⟨g10, e10, q10a, q10b⟩ := q10
    clear d10
    have q11 : u 11 = .pointer (some ⟨w.heap.size, 3, none⟩) := d11
    have e11 := q11; clear q11
    clear d11
    have q12 : u 12 = .slice aP3 c.getters.length pP3 := d12
    have e12 := q12; clear q12
    clear d12
    have q13 : ∃ a p, u 13 = .slice a c.getters.length p ∧ Own w.heap.size 3 1 encI w1 (.slice a c.getters.length p) c.getters := d13
    obtain ⟨a13, p13, e13, q13a⟩ := q13
    clear d13
    have q14 : u 14 = .pointer (some ⟨w.heap.size, 4, none⟩) := d14
    have e14 := q14; clear q14
    clear d14
    have q15 : u 15 = .bool c.closed := d15
    have e15 := q15; clear q15
    clear d15
    have q16 : u 16 = .agg #[(u 1), (u 5), (u 9), (u 13), (u 15)] := d16
    have e16 := q16; clear q16
    rw [e1, e5, e9, e13, e15] at e16
    clear d16
    obtain ⟨z0, z1, z2, z3, z4, rfl⟩ := cells5 hs2
    obtain ⟨c9_0, c9_1, c9_2, c9_3, c9_4, f9_0, f9_1, f9_2, f9_3, f9_4⟩ := box5 hs1
    simp only [putL, Act.put, List.setIfInBounds_toArray, List.set_cons_zero, List.set_cons_succ, e0, e1, e2, e3, e4, e5, e6, e7, e8, e9, e10, e11, e12, e13, e14, e15, e16] at hK ⊢
    refine Closed.mk ?_
    go_simp
    exact hK.out undef _ ⟨(below_setAt (below_setAt (below_setAt (below_setAt (below_setAt hB (w.heap.size + 1) 0 (by omega) (.int .i64 c.room)) (w.heap.size + 1) 1 (by omega) (.slice a5 c.items.length p5)) (w.heap.size + 1) 2 (by omega) (.slice a9 c.senders.length p9)) (w.heap.size + 1) 3 (by omega) (.slice a13 c.getters.length p13)) (w.heap.size + 1) 4 (by omega) (.bool c.closed)), by simp only [szS]; exact hN, (set_off (a := ⟨w.heap.size + 1, 4, none⟩) (set_off (a := ⟨w.heap.size + 1, 3, none⟩) (set_off (a := ⟨w.heap.size + 1, 2, none⟩) (set_off (a := ⟨w.heap.size + 1, 1, none⟩) (set_off (a := ⟨w.heap.size + 1, 0, none⟩) hp (show w.heap.size + 1 ≠ w.heap.size by omega) (.int .i64 c.room)) (show w.heap.size + 1 ≠ w.heap.size by omega) (.slice a5 c.items.length p5)) (show w.heap.size + 1 ≠ w.heap.size by omega) (.slice a9 c.senders.length p9)) (show w.heap.size + 1 ≠ w.heap.size by omega) (.slice a13 c.getters.length p13)) (show w.heap.size + 1 ≠ w.heap.size by omega) (.bool c.closed)), _, (set_at (a := ⟨w.heap.size + 1, 4, none⟩) (set_at (a := ⟨w.heap.size + 1, 3, none⟩) (set_at (a := ⟨w.heap.size + 1, 2, none⟩) (set_at (a := ⟨w.heap.size + 1, 1, none⟩) (set_at (a := ⟨w.heap.size + 1, 0, none⟩) hs1 rfl rfl (.int .i64 c.room)) rfl rfl (.slice a5 c.items.length p5)) rfl rfl (.slice a9 c.senders.length p9)) rfl rfl (.slice a13 c.getters.length p13)) rfl rfl (.bool c.closed)), rfl⟩ ⟨w.heap.size + 1, _, _, Nat.le_refl _, hs1, (set_at (a := ⟨w.heap.size + 1, 4, none⟩) (set_at (a := ⟨w.heap.size + 1, 3, none⟩) (set_at (a := ⟨w.heap.size + 1, 2, none⟩) (set_at (a := ⟨w.heap.size + 1, 1, none⟩) (set_at (a := ⟨w.heap.size + 1, 0, none⟩) hs1 rfl rfl (.int .i64 c.room)) rfl rfl (.slice a5 c.items.length p5)) rfl rfl (.slice a9 c.senders.length p9)) rfl rfl (.slice a13 c.getters.length p13)) rfl rfl (.bool c.closed)), rfl, (grown_set (a := ⟨w.heap.size + 1, 4, none⟩) (grown_set (a := ⟨w.heap.size + 1, 3, none⟩) (grown_set (a := ⟨w.heap.size + 1, 2, none⟩) (grown_set (a := ⟨w.heap.size + 1, 1, none⟩) (grown_set (a := ⟨w.heap.size + 1, 0, none⟩) (World.grownBy.refl _ _) rfl (.int .i64 c.room)) rfl (.slice a5 c.items.length p5)) rfl (.slice a9 c.senders.length p9)) rfl (.slice a13 c.getters.length p13)) rfl (.bool c.closed))⟩ ⟨_, (by first | (simp [mask, e16]; done) | (simp [mask, e16]; rfl)), (set_at (a := ⟨w.heap.size + 1, 4, none⟩) (set_at (a := ⟨w.heap.size + 1, 3, none⟩) (set_at (a := ⟨w.heap.size + 1, 2, none⟩) (set_at (a := ⟨w.heap.size + 1, 1, none⟩) (set_at (a := ⟨w.heap.size + 1, 0, none⟩) hs1 rfl rfl (.int .i64 c.room)) rfl rfl (.slice a5 c.items.length p5)) rfl rfl (.slice a9 c.senders.length p9)) rfl rfl (.slice a13 c.getters.length p13)) rfl rfl (.bool c.closed))⟩ (fun h => absurd h (by decide))
  intro u w1 hC hD hAp
  obtain ⟨hB, hN, hp, hs⟩ := hC; clear hs
  have d0 := hD.1; have d1 := hD.2.1; have d2 := hD.2.2.1; have d3 := hD.2.2.2.1; have d4 := hD.2.2.2.2.1; have d5 := hD.2.2.2.2.2.1; have d6 := hD.2.2.2.2.2.2.1; have d7 := hD.2.2.2.2.2.2.2.1; have d8 := hD.2.2.2.2.2.2.2.2.1; have d9 := hD.2.2.2.2.2.2.2.2.2.1; have d10 := hD.2.2.2.2.2.2.2.2.2.2.1; have d11 := hD.2.2.2.2.2.2.2.2.2.2.2.1; have d12 := hD.2.2.2.2.2.2.2.2.2.2.2.2.1; have d13 := hD.2.2.2.2.2.2.2.2.2.2.2.2.2.1; have d14 := hD.2.2.2.2.2.2.2.2.2.2.2.2.2.2.1; have d15 := hD.2.2.2.2.2.2.2.2.2.2.2.2.2.2.2.1; have d16 := hD.2.2.2.2.2.2.2.2.2.2.2.2.2.2.2.2.1; have d17 := hD.2.2.2.2.2.2.2.2.2.2.2.2.2.2.2.2.2.1; clear hD
  have q0 : u 0 = .pointer (some ⟨w.heap.size, 0, none⟩) := d0
  have e0 := q0; clear q0
  clear d0
  have q1 : u 1 = .int .i64 c.room := d1
  have e1 := q1; clear q1
  clear d1
  have q2 : ∃ g, u 2 = .slice (some ⟨g, 0, none⟩) 0 0 ∧ w.heap.size ≤ g ∧ w1.heap[g]? = some (.cells #[] 3 (0, 0)) := d2
  obtain ⟨g2, e2, q2a, q2b⟩ := q2
  clear d2
  have q3 : u 3 = .pointer (some ⟨w.heap.size, 1, none⟩) := d3
  have e3 := q3; clear q3
  clear d3
  have q4 : u 4 = .slice aP1 c.items.length pP1 := d4
  have e4 := q4; clear q4
  clear d4
  have q5 : ∃ a p, u 5 = .slice a c.items.length p ∧ Own w.heap.size 3 1 encI w1 (.slice a c.items.length p) c.items := d5
  obtain ⟨a5, p5, e5, q5a⟩ := q5
  clear d5
  have q6 : ∃ g, u 6 = .slice (some ⟨g, 0, none⟩) 0 0 ∧ w.heap.size ≤ g ∧ w1.heap[g]? = some (.cells #[] 58 (0, 0)) := d6
  obtain ⟨g6, e6, q6a, q6b⟩ := q6
  clear d6
  have q7 : u 7 = .pointer (some ⟨w.heap.size, 2, none⟩) := d7
  have e7 := q7; clear q7
  clear d7
  have q8 : u 8 = .slice aP2 c.senders.length pP2 := d8
  have e8 := q8; clear q8
  clear d8
  have q9 : ∃ a p, u 9 = .slice a c.senders.length p ∧ Own w.heap.size 58 2 encP w1 (.slice a c.senders.length p) c.senders := d9
  obtain ⟨a9, p9, e9, q9a⟩ := q9
  clear d9
  have q10 : ∃ g, u 10 = .slice (some ⟨g, 0, none⟩) 0 0 ∧ w.heap.size ≤ g ∧ w1.heap[g]? = some (.cells #[] 3 (0, 0)) := d10
  obtain ⟨g10, e10, q10a, q10b⟩ := q10
  clear d10
  have q11 : u 11 = .pointer (some ⟨w.heap.size, 3, none⟩) := d11
  have e11 := q11; clear q11
  clear d11
  have q12 : u 12 = .slice aP3 c.getters.length pP3 := d12
  have e12 := q12; clear q12
  clear d12
  have q13 : ∃ a p, u 13 = .slice a c.getters.length p ∧ Own w.heap.size 3 1 encI w1 (.slice a c.getters.length p) c.getters := d13
  obtain ⟨a13, p13, e13, q13a⟩ := q13
  clear d13
  have q14 : u 14 = .pointer (some ⟨w.heap.size, 4, none⟩) := d14
  have e14 := q14; clear q14
  clear d14
  have q15 : u 15 = .bool c.closed := d15
  have e15 := q15; clear q15
  clear d15
  have q16 : u 16 = .agg #[(u 1), (u 5), (u 9), (u 13), (u 15)] := d16
  have e16 := q16; clear q16
  rw [e1, e5, e9, e13, e15] at e16
  clear d16
  have q17 : ∃ cs, u 16 = .agg cs ∧ w1.heap[w.heap.size + 1]? = some (.cells cs 25 (0, 0)) := d17
  clear d17
  have ap5_13 := hAp 5 13 rfl rfl (by decide)
  rw [e5, e13] at ap5_13
  have AP5_13 := Lib.hid ap5_13; clear ap5_13
  clear hAp
  obtain ⟨cc, hg1, hg2⟩ := q17
  have hg3 := same_agg e16 hg1
  rw [hg3] at hg2
  clear hg1 hg3
  have Xres_1 := Lib.hid hg2; clear hg2
  have B1 := Lib.hid hB; have Xp_1 := Lib.hid hp; have N1 := hN; have S1 : w.heap.size ≤ w1.heap.size := (by omega); clear hB hp hN
  have Oc5_1 := Lib.hid q5a; clear q5a
  have Oc9_1 := Lib.hid q9a; clear q9a
  have Oc13_1 := Lib.hid q13a; clear q13a
  clear q2a q2b
  clear q6a q6b
  clear q10a q10b
  obtain ⟨cp1_0, cp1_1, cp1_2, cp1_3, cp1_4, fp1_0, fp1_1, fp1_2, fp1_3, fp1_4⟩ := box5 Xp_1.out; have lp1 := heap_lt Xp_1.out
  obtain ⟨cres1_0, cres1_1, cres1_2, cres1_3, cres1_4, fres1_0, fres1_1, fres1_2, fres1_3, fres1_4⟩ := box5 Xres_1.out; have lres1 := heap_lt Xres_1.out
  simp only [putL, Act.put, List.setIfInBounds_toArray, List.set_cons_zero, List.set_cons_succ, e0, e1, e2, e3, e4, e5, e6, e7, e8, e9, e10, e11, e12, e13, e14, e15, e16]
  refine Closed.mk ?_
  refine wpAnyH_done (by kernel_rfl) ?_ _
  go_wp2_with (fail)
  refine bodyPost_ret (v := .agg #[.int .i64 c.room, .slice a5 c.items.length p5, .slice a9 c.senders.length p9, .slice a13 c.getters.length p13, .bool c.closed]) (by simp [results, Try.results71, go_sem, cres1_0, cres1_1, cres1_2, cres1_3, cres1_4, lres1]) rfl ⟨_, rfl, ChanOwn.make Oc5_1.out Oc9_1.out Oc13_1.out (Nat.le_refl _) AP5_13.out, B1.out⟩
end Go.Proofs.Ytpgiinklbnlloaa
