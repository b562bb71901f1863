/- DrawNewSem. -/
import Derived.Test.YtbnfhnfnbhigoaaDoorRd
namespace Go.Proofs.YtbnfhnfnbhigoaaDoor
open Go.RowKit
set_option linter.unusedSimpArgs false
set_option linter.unusedVariables false

theorem lit_row {w : World} {E : Nat} (xs : List Int) (hn : xs.length ≤ 1000) {cs : Array Value} (hcs : cs = (xs.map (Value.int .i64)).toArray) {n : Nat} (hl : n = xs.length) {H : Nat} (hH : w.heap.size = H) : IRow (w.alloc (.cells cs E)) (.slice (some ⟨H, 0, none⟩) n n) xs := by
  subst hcs hl hH
  refine ⟨_, _, rfl, Nat.le_refl _, by omega, (fun e => by cases e), fun _ => ⟨w.heap.size, 0, rfl, by simp, fun i x hx j u hu => ?_⟩⟩
  match j, hu with
  | 0, hu =>
    simp only [encI, List.getElem?_cons_zero, Option.some.injEq] at hu
    subst hu
    rw [cell_of_row _ w.heap.size (0 + i * 1 + 0) _ E (0, 0) (heap_alloc_new w _)]
    simp [hx]
  | j + 1, hu => simp [encI] at hu

end Go.Proofs.YtbnfhnfnbhigoaaDoor
