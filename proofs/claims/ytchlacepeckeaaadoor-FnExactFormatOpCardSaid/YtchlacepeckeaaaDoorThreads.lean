/- impl.isThread, impl.distinctThreads, spec.l1Thread: what they return. -/
import Derived.Test.YtchlacepeckeaaaDoorSeen
namespace Go.Proofs.YtchlacepeckeaaaDoor
open Go.RowKit
set_option linter.unusedSimpArgs false
set_option linter.unusedVariables false

def Thr (t : Int) : Prop := 0 ≤ t ∧ t < 6
instance (t : Int) : Decidable (Thr t) := by unfold Thr; infer_instance
def thrB (t : Int) : Bool := decide (0 ≤ t) && decide (t < 6)
theorem thrB_true {t : Int} : thrB t = true ↔ Thr t := by simp [thrB, Thr]
theorem thrB_false {t : Int} : thrB t = false ↔ ¬ Thr t := by rw [← thrB_true]; simp
def Distinct (xs : List Int) : Prop := (∀ x ∈ xs, Thr x) ∧ xs.Nodup
instance (xs : List Int) : Decidable (Distinct xs) := by unfold Distinct; infer_instance
def distB (xs : List Int) : Bool := decide (Distinct xs)

theorem Distinct.snoc {xs : List Int} {x : Int} (h : Distinct xs) (ht : thrB x = true) (hn : x ∉ xs) : Distinct (xs ++ [x]) := by
  rw [thrB_true] at ht
  refine ⟨fun y hy => ?_, ?_⟩
  · rcases List.mem_append.1 hy with hy | hy
    · exact h.1 y hy
    · simp only [List.mem_singleton] at hy; subst hy; exact ht
  · rw [List.nodup_append]
    exact ⟨h.2, by simp, fun a ha b hb => by simp only [List.mem_singleton] at hb; subst hb; intro e; exact hn (e ▸ ha)⟩
theorem Distinct.bad_thr {xs : List Int} {k : Nat} {x : Int} (hk : xs[k]? = some x) (ht : thrB x = false) : distB xs = false := by
  rw [thrB_false] at ht
  simp only [distB, decide_eq_false_iff_not]
  exact fun h => ht (h.1 _ (get_mem hk))
theorem Distinct.bad_in {xs : List Int} {k : Nat} {x : Int} (hk : xs[k]? = some x) (hi : x ∈ xs.take k) : distB xs = false := by
  simp only [distB, decide_eq_false_iff_not]
  intro h
  have h2 := h.2
  rw [← List.take_append_drop (k + 1) xs, take_snoc hk, List.append_assoc, List.nodup_append] at h2
  exact h2.2.2 _ hi _ (by simp) rfl

end Go.Proofs.YtchlacepeckeaaaDoor
