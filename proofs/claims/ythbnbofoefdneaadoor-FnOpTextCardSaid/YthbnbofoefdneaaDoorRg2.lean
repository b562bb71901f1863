/- Short forms for the regions that draw their order. -/
import Derived.Test.YthbnbofoefdneaaDoorG1
namespace Go.Proofs.YthbnbofoefdneaaDoor
open Go.RowKit
set_option linter.unusedSimpArgs false
set_option linter.unusedVariables false
theorem put9 : (∀ (a : Act) (u : Nat → Value), putL a u [] = a) ∧ (∀ (a : Act) (u : Nat → Value) (i : Nat) (d : Option Tmp) (r : List (Nat × Option Tmp)), putL a u ((i, d) :: r) = (putL a u r).put d (u i)) ∧
    (∀ (a : Act) (t : Tmp) (v : Value), a.put (some t) v = { a with tmps := a.tmps.setIfInBounds t v }) ∧ (∀ (a : Act) (v : Value), a.put none v = a) ∧ (∀ (l : List Value) (i : Nat) (v : Value), l.toArray.setIfInBounds i v = (l.set i v).toArray) ∧
    (∀ (l : List Value) (x v : Value), (x :: l).set 0 v = v :: l) ∧ (∀ (l : List Value) (x v : Value) (n : Nat), (x :: l).set (n + 1) v = x :: l.set n v) :=
  ⟨fun _ _ => rfl, fun _ _ _ _ _ => rfl, fun _ _ _ => rfl, fun _ _ => rfl, fun _ _ _ => List.setIfInBounds_toArray .., fun _ _ _ => rfl, fun _ _ _ _ => rfl⟩
section
variable {P : Program} {Q : Exit → Act → World → Prop} {C : Nat → World → Prop} {R : Bool → World → World → Prop} {a : Act} {F0 : Nat} {rs : List RgOp}
/-- One operation's goal, where what holds of its value does not speak of the world. -/
theorem GoalL.mk0 {l : List Oper} {ds : List (Nat × Option Tmp)} {k : Nat} {wr : Bool} {D : List Nat} {F : (Nat → Value) → Value → Prop} {o : Oper} (ho : nth l k = some o)
    (h : ∀ f u w, f < F0 → C (f + 1) w → FAll rs u w D → ∀ K : Act → World → Prop,
      Shut (∀ v w', C f w' → R wr w w' → F (mask D u) v → K ((putL a u ds).put o.dst v) w') →
      Closed (if Region.wanted o (yielded l.toArray (putL a u ds).tmps) = true then Oper.wp P o (putL a u ds) w K Q else K ((putL a u ds).put o.dst undef) w)) : GoalL P l.toArray Q C R a F0 rs ds ⟨k, wr, D, fun u v _ => F u v⟩ :=
  GoalL.mk ho ⟨fun _ _ _ _ _ h => h, fun _ _ _ _ _ _ h => h⟩ h
end
end Go.Proofs.YthbnbofoefdneaaDoor
