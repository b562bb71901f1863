/- NewChan of both: what they return. -/
import Derived.Test.YtpgiinklbnlloaaStChan
import Derived.Test.YtpgiinklbnlloaaSpanI
namespace Go.Proofs.Ytpgiinklbnlloaa
open Go.RowKit
set_option linter.unusedSimpArgs false
set_option linter.unusedVariables false
def newChan (l : Int) : ChanD × Bool := if 0 ≤ l ∧ l ≤ 4 then (⟨l, [], [], [], false⟩, true) else (ChanD.zero, false)
theorem newChan_small {l : Int} {r : ChanD} {b : Bool} (h : newChan l = (r, b)) : r.items.length + r.senders.length + r.getters.length ≤ 0 := by
  unfold newChan at h
  split at h <;> (injection h with h _; subst h; simp [ChanD.zero])
theorem ChanOwn.nils {lo hi : Nat} {w : World} {l : Int} {b : Bool} : ChanOwn lo hi w (.agg #[.int .i64 l, .slice none 0 0, .slice none 0 0, .slice none 0 0, .bool b]) ⟨l, [], [], [], b⟩ :=
  ⟨none, 0, none, 0, none, 0, rfl, Own.nil _ _ _ _ _, (fun g e => by cases e), Own.nil _ _ _ _ _, (fun g e => by cases e), Own.nil _ _ _ _ _, (fun g e => by cases e), Apart.nil _⟩
theorem NewChanO (l : Int) (r : ChanD) (b1 : Bool) (w : World) (hr : newChan l = (r, b1)) :
    Calls Try.prog 15 #[.int .i64 l] w fun e w' => ∃ v', e = .returned (.tuple #[v', .bool b1]) ∧ ChanOwn w.heap.size w'.heap.size w' v' r ∧ Below w.heap.size w w' := by
  by_cases h1 : 0 ≤ l
  · by_cases h9 : l ≤ 4
    · rw [newChan, if_pos ⟨h1, h9⟩] at hr
      injection hr with e1 e2
      subst e1 e2
      go_enter Try.func15, Try.ntmps15
      go_wp2
      refine bodyPost_ret (v := .tuple #[.agg #[.int .i64 l, .slice none 0 0, .slice none 0 0, .slice none 0 0, .bool false], .bool true]) (by simp [results, Try.results15, go_sem]) rfl ⟨_, rfl, ChanOwn.nils, (by repeat (first | (with_reducible assumption) | (with_reducible exact Below.refl _ _) | (refine Below.setCell ?_ (by first | omega | (simp only [szA, szS, szD, World.heap_drewN] at * <;> omega)) _) | (refine Below.alloc ?_ (by first | omega | (simp only [szA, szS, szD, World.heap_drewN] at * <;> omega)) _) | refine Below.drew ?_))⟩
    · rw [newChan, if_neg (fun e => h9 e.2)] at hr
      injection hr with e1 e2
      subst e1 e2
      go_enter Try.func15, Try.ntmps15
      go_wp2
      refine bodyPost_ret (v := .tuple #[.agg #[.int .i64 0, .slice none 0 0, .slice none 0 0, .slice none 0 0, .bool false], .bool false]) (by simp [results, Try.results15, go_sem]) rfl ⟨_, rfl, ChanOwn.nils, (by repeat (first | (with_reducible assumption) | (with_reducible exact Below.refl _ _) | (refine Below.setCell ?_ (by first | omega | (simp only [szA, szS, szD, World.heap_drewN] at * <;> omega)) _) | (refine Below.alloc ?_ (by first | omega | (simp only [szA, szS, szD, World.heap_drewN] at * <;> omega)) _) | refine Below.drew ?_))⟩
  · rw [newChan, if_neg (fun e => h1 e.1)] at hr
    injection hr with e1 e2
    subst e1 e2
    go_enter Try.func15, Try.ntmps15
    go_wp2
    refine bodyPost_ret (v := .tuple #[.agg #[.int .i64 0, .slice none 0 0, .slice none 0 0, .slice none 0 0, .bool false], .bool false]) (by simp [results, Try.results15, go_sem]) rfl ⟨_, rfl, ChanOwn.nils, (by repeat (first | (with_reducible assumption) | (with_reducible exact Below.refl _ _) | (refine Below.setCell ?_ (by first | omega | (simp only [szA, szS, szD, World.heap_drewN] at * <;> omega)) _) | (refine Below.alloc ?_ (by first | omega | (simp only [szA, szS, szD, World.heap_drewN] at * <;> omega)) _) | refine Below.drew ?_))⟩
theorem ChanOwn.empties {lo hi : Nat} {w : World} {l : Int} {b : Bool} {i j k : Nat} (h1 : w.heap[i]? = some (.cells #[] 3 (0, 0))) (h2 : w.heap[j]? = some (.cells #[] 58 (0, 0))) (h3 : w.heap[k]? = some (.cells #[] 3 (0, 0)))
    (l1 : lo ≤ i ∧ i < hi) (l2 : lo ≤ j ∧ j < hi) (l3 : lo ≤ k ∧ k < hi) (hne : i ≠ k) : ChanOwn lo hi w (.agg #[.int .i64 l, .slice (some ⟨i, 0, none⟩) 0 0, .slice (some ⟨j, 0, none⟩) 0 0, .slice (some ⟨k, 0, none⟩) 0 0, .bool b]) ⟨l, [], [], [], b⟩ :=
  ⟨_, _, _, _, _, _, rfl, Own.empty h1 l1.1, (fun g e => by cases e; exact l1.2), Own.empty h2 l2.1, (fun g e => by cases e; exact l2.2), Own.empty h3 l3.1, (fun g e => by cases e; exact l3.2), (fun g e1 e2 => by cases e1; cases e2; exact hne rfl)⟩
theorem sNewChanO (l : Int) (r : ChanD) (b1 : Bool) (w : World) (hr : newChan l = (r, b1)) :
    Calls Try.prog 14 #[.int .i64 l] w fun e w' => ∃ v', e = .returned (.tuple #[v', .bool b1]) ∧ ChanOwn w.heap.size w'.heap.size w' v' r ∧ Below w.heap.size w w' := by
  by_cases h1 : 0 ≤ l
  · by_cases h9 : l ≤ 4
    · rw [newChan, if_pos ⟨h1, h9⟩] at hr
      injection hr with e1 e2
      subst e1 e2
      go_enter Try.func14, Try.ntmps14
      go_wp2
      refine bodyPost_ret (v := .tuple #[.agg #[.int .i64 l, .slice (some ⟨w.heap.size + 1, 0, none⟩) 0 0, .slice (some ⟨w.heap.size + 1 + 1, 0, none⟩) 0 0, .slice (some ⟨w.heap.size + 1 + 1 + 1, 0, none⟩) 0 0, .bool false], .bool true]) (by simp [results, Try.results14, go_sem]) rfl ⟨_, rfl, ChanOwn.empties ?_ ?_ ?_ ?_ ?_ ?_ (by omega), (by repeat (first | (with_reducible assumption) | (with_reducible exact Below.refl _ _) | (refine Below.setCell ?_ (by first | omega | (simp only [szA, szS, szD, World.heap_drewN] at * <;> omega)) _) | (refine Below.alloc ?_ (by first | omega | (simp only [szA, szS, szD, World.heap_drewN] at * <;> omega)) _) | refine Below.drew ?_))⟩
      · exact heap_up (heap_up (heap_at' (by first | omega | (simp only [szA, szS, szD, World.heap_drewN] at * <;> omega))))
      · exact heap_up (heap_at' (by first | omega | (simp only [szA, szS, szD, World.heap_drewN] at * <;> omega)))
      · exact heap_at' (by first | omega | (simp only [szA, szS, szD, World.heap_drewN] at * <;> omega))
      · simp only [szA]; omega
      · simp only [szA]; omega
      · simp only [szA]; omega
    · rw [newChan, if_neg (fun e => h9 e.2)] at hr
      injection hr with e1 e2
      subst e1 e2
      go_enter Try.func14, Try.ntmps14
      go_wp2
      refine bodyPost_ret (v := .tuple #[.agg #[.int .i64 0, .slice none 0 0, .slice none 0 0, .slice none 0 0, .bool false], .bool false]) (by simp [results, Try.results14, go_sem]) rfl ⟨_, rfl, ChanOwn.nils, (by repeat (first | (with_reducible assumption) | (with_reducible exact Below.refl _ _) | (refine Below.setCell ?_ (by first | omega | (simp only [szA, szS, szD, World.heap_drewN] at * <;> omega)) _) | (refine Below.alloc ?_ (by first | omega | (simp only [szA, szS, szD, World.heap_drewN] at * <;> omega)) _) | refine Below.drew ?_))⟩
  · rw [newChan, if_neg (fun e => h1 e.1)] at hr
    injection hr with e1 e2
    subst e1 e2
    go_enter Try.func14, Try.ntmps14
    go_wp2
    refine bodyPost_ret (v := .tuple #[.agg #[.int .i64 0, .slice none 0 0, .slice none 0 0, .slice none 0 0, .bool false], .bool false]) (by simp [results, Try.results14, go_sem]) rfl ⟨_, rfl, ChanOwn.nils, (by repeat (first | (with_reducible assumption) | (with_reducible exact Below.refl _ _) | (refine Below.setCell ?_ (by first | omega | (simp only [szA, szS, szD, World.heap_drewN] at * <;> omega)) _) | (refine Below.alloc ?_ (by first | omega | (simp only [szA, szS, szD, World.heap_drewN] at * <;> omega)) _) | refine Below.drew ?_))⟩
end Go.Proofs.Ytpgiinklbnlloaa
