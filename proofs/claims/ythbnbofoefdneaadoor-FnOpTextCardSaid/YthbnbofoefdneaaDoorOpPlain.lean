/- Operations: what it is for one to be valid. No program in sight. -/
import Derived.Test.YthbnbofoefdneaaDoorStProg
import Derived.Test.YthbnbofoefdneaaDoorG1
namespace Go.Proofs.YthbnbofoefdneaaDoor
def OpOk (c : ProgD) (x : OpT) : Prop :=
  (x.1 = 1 ∧ x.2.1 = 0 ∧ Val x.2.2) ∨ ((x.1 = 2 ∨ x.1 = 3) ∧ 0 ≤ x.2.1 ∧ x.2.1 < c.sems.length ∧ 1 ≤ x.2.2 ∧ x.2.2 ≤ c.sems.getD x.2.1.toNat 0) ∨ (x.1 = 4 ∧ 0 ≤ x.2.1 ∧ x.2.1 ≤ 2 ∧ Val x.2.2) ∨
  (x.1 = 5 ∧ 0 ≤ x.2.1 ∧ x.2.1 < c.groups.length ∧ -9 ≤ x.2.2 ∧ x.2.2 ≤ 9) ∨ (x.1 = 6 ∧ 0 ≤ x.2.1 ∧ x.2.1 < c.groups.length ∧ x.2.2 = 0) ∨ (x.1 = 7 ∧ 0 ≤ x.2.1 ∧ x.2.1 < c.barriers.length ∧ x.2.2 = 0) ∨
  (x.1 = 8 ∧ 0 ≤ x.2.1 ∧ x.2.1 < c.rooms.length ∧ Val x.2.2) ∨ ((x.1 = 9 ∨ x.1 = 10) ∧ 0 ≤ x.2.1 ∧ x.2.1 < c.rooms.length ∧ x.2.2 = 0)
instance (c : ProgD) (x : OpT) : Decidable (OpOk c x) := by unfold OpOk Val; infer_instance
def opB (c : ProgD) (x : OpT) : Bool := decide (OpOk c x)
theorem opB_yes {c : ProgD} {x : OpT} (h : OpOk c x) : opB c x = true := decide_eq_true h
theorem opB_no {c : ProgD} {x : OpT} (h : ¬ OpOk c x) : opB c x = false := decide_eq_false h
def onB (on : Int) (n : Nat) : Bool := decide (0 ≤ on ∧ on < n)
theorem onB_yes {on : Int} {n : Nat} (h : 0 ≤ on ∧ on < n) : onB on n = true := decide_eq_true h
theorem onB_no {on : Int} {n : Nat} (h : ¬ (0 ≤ on ∧ on < n)) : onB on n = false := decide_eq_false h
end Go.Proofs.YthbnbofoefdneaaDoor
