/- An owned slice behind a store to a block of another type. -/
import Derived.Test.YtchlacepeckeaaaDoorOwn2
import Derived.Test.YtchlacepeckeaaaDoorSpan
namespace Go.Proofs.YtchlacepeckeaaaDoor
open Go.RowKit
set_option linter.unusedSimpArgs false
set_option linter.unusedVariables false
/-- A box of another type is written. -/
theorem Own.setB {α : Type} {base E k : Nat} {enc : α → List Value} {w : World} {v : Value} {xs : List α} (h : Own base E k enc w v xs) (b j : Nat) {cs : Array Value} {T : TypeId} {fr : Nat × Nat} (hx : w.heap[b]? = some (.cells cs T fr)) (hT : T ≠ E) (u : Value) : Own base E k enc (w.setCell ⟨b, j, none⟩ u) v xs :=
  h.set_off (a := ⟨b, j, none⟩) (h.ne hx hT) u
end Go.Proofs.YtchlacepeckeaaaDoor
