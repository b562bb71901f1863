/- A store to a struct variable that the region itself made. -/
import Derived.Test.YtbnfhnfnbhigoaaDoorRg
import Derived.Test.YtbnfhnfnbhigoaaDoorDr
import Derived.Test.YtbnfhnfnbhigoaaDoorStepFn
namespace Go.Proofs.YtbnfhnfnbhigoaaDoor
open Go.RowKit
set_option linter.unusedSimpArgs false
set_option linter.unusedVariables false
/-- A block of type T, number B or later, gets other cells, as many as before; nothing else turns. -/
def BoxW (B : Nat) (T : TypeId) (w w' : World) : Prop := ∃ g cs cs', B ≤ g ∧ w.heap[g]? = some (.cells cs T (0, 0)) ∧ w'.heap[g]? = some (.cells cs' T (0, 0)) ∧ cs'.size = cs.size ∧ w.grownBy w' (some g)
theorem BoxW.size {B : Nat} {T : TypeId} {w w' : World} (h : BoxW B T w w') : w.heap.size ≤ w'.heap.size := by obtain ⟨_, _, _, _, _, _, _, h⟩ := h; exact h.size
theorem Own.boxW {α : Type} {base E k B : Nat} {T : TypeId} {enc : α → List Value} {w w' : World} {v : Value} {xs : List α} (h : Own base E k enc w v xs) (hb : BoxW B T w w') (hT : T ≠ E) : Own base E k enc w' v xs := by
  obtain ⟨g, cs, cs', _, h1, _, _, hg⟩ := hb
  exact h.growns hg (.inr (h.ne h1 hT))
theorem boxW_off {B k : Nat} {T E : TypeId} {cs : Array Value} {fr : Nat × Nat} {w w' : World} (h : w.heap[k]? = some (.cells cs E fr)) (hb : BoxW B T w w') (hT : T ≠ E) : w'.heap[k]? = some (.cells cs E fr) := by
  obtain ⟨g, c1, c2, _, h1, _, _, hg⟩ := hb
  refine (hg.block k (heap_lt h) (fun e => ?_)).trans h
  injection e with e
  subst e
  rw [h1] at h
  injection h with h; injection h with _ h _
  exact hT h
theorem boxW_shape {B k : Nat} {T : TypeId} {cs : Array Value} {w w' : World} (h : w.heap[k]? = some (.cells cs T (0, 0))) (hb : BoxW B T w w') : ∃ cs', w'.heap[k]? = some (.cells cs' T (0, 0)) ∧ cs'.size = cs.size := by
  obtain ⟨g, c1, c2, _, h1, h2, h3, hg⟩ := hb
  by_cases e : k = g
  · subst e
    rw [h1] at h
    injection h with h; injection h with h _ _
    exact ⟨c2, h2, by rw [h3, h]⟩
  · exact ⟨cs, (hg.block k (heap_lt h) (fun e' => e (by injection e'))).trans h, rfl⟩
theorem cells3 {cs : Array Value} (h : cs.size = 3) : ∃ x y z, cs = #[x, y, z] := by
  obtain ⟨l⟩ := cs
  match l, h with
  | [x, y, z], _ => exact ⟨x, y, z, rfl⟩
theorem cells4 {cs : Array Value} (h : cs.size = 4) : ∃ x y z u, cs = #[x, y, z, u] := by
  obtain ⟨l⟩ := cs
  match l, h with
  | [x, y, z, u], _ => exact ⟨x, y, z, u, rfl⟩
theorem cells5 {cs : Array Value} (h : cs.size = 5) : ∃ x y z u v, cs = #[x, y, z, u, v] := by
  obtain ⟨l⟩ := cs
  match l, h with
  | [x, y, z, u, v], _ => exact ⟨x, y, z, u, v, rfl⟩
theorem same_tuple {v : Value} {g g' : Nat} (h : v = .pointer (some ⟨g, 0, none⟩)) (h' : v = .pointer (some ⟨g', 0, none⟩)) : g' = g := by
  rw [h] at h'; injection h' with h'; injection h' with h'; injection h' with h'; exact h'.symm
theorem same_agg {v : Value} {a b : Array Value} (h : v = .agg a) (h' : v = .agg b) : b = a := by
  rw [h] at h'; injection h' with h'; exact h'.symm
end Go.Proofs.YtbnfhnfnbhigoaaDoor
