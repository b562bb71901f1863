/- Programs: what it is for one to be valid. No program in sight. -/
import Derived.Test.YthbnbofoefdneaaDoorOpPlain
namespace Go.Proofs.YthbnbofoefdneaaDoor
def InOk (lo hi : Int) (xs : List Int) : Prop := xs.length ≤ 3 ∧ ∀ x ∈ xs, lo ≤ x ∧ x ≤ hi
instance (lo hi : Int) (xs : List Int) : Decidable (InOk lo hi xs) := by unfold InOk; infer_instance
def inB (lo hi : Int) (xs : List Int) : Bool := decide (InOk lo hi xs)
def ThrOk (c : ProgD) (t : List OpT) : Prop := t.length ≤ 8 ∧ ∀ x ∈ t, OpOk c x
instance (c : ProgD) (t : List OpT) : Decidable (ThrOk c t) := by unfold ThrOk; infer_instance
def ProgOk (c : ProgD) : Prop := InOk 1 9 c.sems ∧ InOk 0 9 c.groups ∧ InOk 1 6 c.barriers ∧ InOk 0 4 c.rooms ∧ 1 ≤ c.threads.length ∧ c.threads.length ≤ 4 ∧ ∀ t ∈ c.threads, ThrOk c t
instance (c : ProgD) : Decidable (ProgOk c) := by unfold ProgOk; infer_instance
def progB (c : ProgD) : Bool := decide (ProgOk c)
theorem progB_yes {c : ProgD} (h : ProgOk c) : progB c = true := decide_eq_true h
theorem progB_no {c : ProgD} (h : ¬ ProgOk c) : progB c = false := decide_eq_false h
theorem progB_true {c : ProgD} : progB c = true ↔ ProgOk c := by simp [progB]
theorem inB_yes {lo hi : Int} {xs : List Int} (h : inB lo hi xs = true) : InOk lo hi xs := of_decide_eq_true h
theorem inB_no {lo hi : Int} {xs : List Int} (h : inB lo hi xs = false) : ¬ InOk lo hi xs := of_decide_eq_false h
theorem all_take {α : Type} {p : α → Prop} {xs : List α} {k : Nat} {x : α} (h : xs[k]? = some x) (hp : ∀ y ∈ xs.take k, p y) (hx : p x) : ∀ y ∈ xs.take (k + 1), p y := by
  rw [take_snoc h]
  intro y hy
  rcases List.mem_append.1 hy with hy | hy
  · exact hp y hy
  · rw [List.mem_singleton.1 hy]; exact hx
end Go.Proofs.YthbnbofoefdneaaDoor
