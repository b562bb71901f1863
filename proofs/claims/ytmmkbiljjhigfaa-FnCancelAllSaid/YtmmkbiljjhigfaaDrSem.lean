/- Owned structs Sem behind a draw and behind a store to a box (made by gen_drst.py). -/
import Derived.Test.YtmmkbiljjhigfaaStSem
import Derived.Test.YtmmkbiljjhigfaaDr
import Derived.Test.YtmmkbiljjhigfaaAcquireS
import Derived.Test.YtmmkbiljjhigfaaStepFn
import Derived.Test.YtmmkbiljjhigfaaRgBox
namespace Go.Proofs.Ytmmkbiljjhigfaa
open Go.RowKit
set_option linter.unusedSimpArgs false
set_option linter.unusedVariables false
theorem SemOwn.past {lo hi b : Nat} {w w' : World} {v : Value} {c : SemD} (h : SemOwn lo hi w v c) (hg : w.grownBy w' (some b)) (hb : b < lo) : SemOwn lo hi w' v c := by
  obtain ⟨a2, p2, rfl, h2, b2⟩ := h
  exact ⟨_, _, rfl, h2.past hg hb, b2⟩
theorem SemOwn.pastHi {lo hi b : Nat} {w w' : World} {v : Value} {c : SemD} (h : SemOwn lo hi w v c) (hg : w.grownBy w' (some b)) (hb : hi ≤ b) : SemOwn lo hi w' v c := by
  obtain ⟨a2, p2, rfl, h2, b2⟩ := h
  exact ⟨_, _, rfl, h2.growns hg (.inr fun e => by have := b2 b e; omega), b2⟩
theorem SemOwn.setC {lo hi : Nat} {w : World} {v : Value} {c : SemD} (h : SemOwn lo hi w v c) (b j : Nat) {cs : Array Value} {T : TypeId} {fr : Nat × Nat} (hx : w.heap[b]? = some (.cells cs T fr)) (hT0 : T ≠ 62) (u : Value) : SemOwn lo hi (w.setCell ⟨b, j, none⟩ u) v c := by
  obtain ⟨a2, p2, rfl, h2, b2⟩ := h
  exact ⟨_, _, rfl, h2.setB b j hx hT0 u, b2⟩
theorem SemOwn.setB {lo hi : Nat} {w : World} {v : Value} {c : SemD} (h : SemOwn lo hi w v c) (b j : Nat) {cs : Array Value} {T : TypeId} {fr : Nat × Nat} (hx : w.heap[b]? = some (.cells cs T fr)) (hT : T ≠ 62) (u : Value) : SemOwn lo hi (w.setCell ⟨b, j, none⟩ u) v c := h.setC b j hx hT u
theorem SemOwn.grownT {α : Type} {base E k lo hi : Nat} {enc : α → List Value} {ys : List α} {w w' : World} {v u : Value} {c : SemD} (h : SemOwn lo hi w v c) (hu : Own base E k enc w u ys) (hg : w.grownBy w' u.ownBlock) (hT : E ≠ 62) : SemOwn lo hi w' v c := by
  obtain ⟨a2, p2, rfl, h2, b2⟩ := h
  have hT0 := hT
  exact ⟨_, _, rfl, h2.apart hg (Own.apart_types hu h2 hT0), b2⟩
theorem SemOwn.boxW {lo hi B : Nat} {T : TypeId} {w w' : World} {v : Value} {c : SemD} (h : SemOwn lo hi w v c) (hb : BoxW B T w w') (hT : T ≠ 62) : SemOwn lo hi w' v c := by
  obtain ⟨a2, p2, rfl, h2, b2⟩ := h
  have hT0 := hT
  exact ⟨_, _, rfl, h2.boxW hb hT0, b2⟩
theorem SemOwn.tight {lo hi : Nat} {w : World} {v : Value} {c : SemD} (h : SemOwn lo hi w v c) : SemOwn lo w.heap.size w v c := by
  obtain ⟨a2, p2, rfl, h2, b2⟩ := h
  exact ⟨_, _, rfl, h2, h2.hi⟩
theorem SemOwn.make {lo hi : Nat} {w : World} {x0 : Int} {x1 : Int} {x2 : List (Int × Int)} {v2 : Value} (h2 : Own lo 62 2 encP w v2 x2) (hh : w.heap.size ≤ hi) : SemOwn lo hi w (.agg #[.int .i64 x0, .int .i64 x1, v2]) ⟨x0, x1, x2⟩ := by
  obtain ⟨a2, p2, rfl⟩ := h2.form
  exact ⟨_, _, rfl, h2, fun g e => Nat.lt_of_lt_of_le (h2.hi g e) hh⟩
/-- The slices are short. -/
def SemFew (M : Nat) (c : SemD) : Prop := c.q.length ≤ M
theorem SemFew.mono {M M' : Nat} {c : SemD} (h : SemFew M c) (hM : M ≤ M') : SemFew M' c := by unfold SemFew at *; omega
/-- What a function that draws a struct leaves. -/
def SemPost (M : Nat) (w : World) (b N : Nat) (e : Ending) (w' : World) : Prop := ∃ v c, e = .returned v ∧ SemOwn w.heap.size w'.heap.size w' v c ∧ SemFew M c ∧ Dr w b N w'
theorem l1CopyO (v : Value) (c : SemD) (w : World) (h : SemRow w v c) (hn : c.q.length ≤ 10000) :
    Calls Try.prog 75 #[v] w fun e w' => ∃ v', e = .returned v' ∧ SemOwn w.heap.size w'.heap.size w' v' c ∧ Below w.heap.size w w' := by
  obtain ⟨a, p, rfl, hq⟩ := h
  refine (l1Copy_calls c.free c.limit _ c.q w hq (by omega)).mono ?_
  rintro e w' ⟨qv, rfl, ho, hb⟩
  obtain ⟨ad, cp, rfl⟩ := ho.form
  exact ⟨_, rfl, ⟨ad, cp, rfl, ho, ho.hi⟩, hb⟩
end Go.Proofs.Ytmmkbiljjhigfaa
