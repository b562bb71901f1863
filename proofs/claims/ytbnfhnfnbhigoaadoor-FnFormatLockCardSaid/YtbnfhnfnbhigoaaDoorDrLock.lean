/- Owned structs Lock behind a draw and behind a store to a box (made by gen_drst.py). -/
import Derived.Test.YtbnfhnfnbhigoaaDoorStLock
import Derived.Test.YtbnfhnfnbhigoaaDoorDr
import Derived.Test.YtbnfhnfnbhigoaaDoorStepFn
import Derived.Test.YtbnfhnfnbhigoaaDoorRgBox
namespace Go.Proofs.YtbnfhnfnbhigoaaDoor
open Go.RowKit
set_option linter.unusedSimpArgs false
set_option linter.unusedVariables false
theorem LockOwn.past {lo hi b : Nat} {w w' : World} {v : Value} {c : LockD} (h : LockOwn lo hi w v c) (hg : w.grownBy w' (some b)) (hb : b < lo) : LockOwn lo hi w' v c := by
  obtain ⟨a0, p0, a2, p2, rfl, h0, b0, h2, b2⟩ := h
  exact ⟨_, _, _, _, rfl, h0.past hg hb, b0, h2.past hg hb, b2⟩
theorem LockOwn.pastHi {lo hi b : Nat} {w w' : World} {v : Value} {c : LockD} (h : LockOwn lo hi w v c) (hg : w.grownBy w' (some b)) (hb : hi ≤ b) : LockOwn lo hi w' v c := by
  obtain ⟨a0, p0, a2, p2, rfl, h0, b0, h2, b2⟩ := h
  exact ⟨_, _, _, _, rfl, h0.growns hg (.inr fun e => by have := b0 b e; omega), b0, h2.growns hg (.inr fun e => by have := b2 b e; omega), b2⟩
theorem LockOwn.setC {lo hi : Nat} {w : World} {v : Value} {c : LockD} (h : LockOwn lo hi w v c) (b j : Nat) {cs : Array Value} {T : TypeId} {fr : Nat × Nat} (hx : w.heap[b]? = some (.cells cs T fr)) (hT0 : T ≠ 45) (hT1 : T ≠ 3) (u : Value) : LockOwn lo hi (w.setCell ⟨b, j, none⟩ u) v c := by
  obtain ⟨a0, p0, a2, p2, rfl, h0, b0, h2, b2⟩ := h
  exact ⟨_, _, _, _, rfl, h0.setB b j hx hT1 u, b0, h2.setB b j hx hT0 u, b2⟩
theorem LockOwn.setB {lo hi : Nat} {w : World} {v : Value} {c : LockD} (h : LockOwn lo hi w v c) (b j : Nat) {cs : Array Value} {T : TypeId} {fr : Nat × Nat} (hx : w.heap[b]? = some (.cells cs T fr)) (hT : T ≠ 45 ∧ T ≠ 3) (u : Value) : LockOwn lo hi (w.setCell ⟨b, j, none⟩ u) v c := h.setC b j hx hT.1 hT.2 u
theorem LockOwn.grownT {α : Type} {base E k lo hi : Nat} {enc : α → List Value} {ys : List α} {w w' : World} {v u : Value} {c : LockD} (h : LockOwn lo hi w v c) (hu : Own base E k enc w u ys) (hg : w.grownBy w' u.ownBlock) (hT : E ≠ 45 ∧ E ≠ 3) : LockOwn lo hi w' v c := by
  obtain ⟨a0, p0, a2, p2, rfl, h0, b0, h2, b2⟩ := h
  obtain ⟨hT0, hT1⟩ := hT
  exact ⟨_, _, _, _, rfl, h0.apart hg (Own.apart_types hu h0 hT1), b0, h2.apart hg (Own.apart_types hu h2 hT0), b2⟩
theorem LockOwn.boxW {lo hi B : Nat} {T : TypeId} {w w' : World} {v : Value} {c : LockD} (h : LockOwn lo hi w v c) (hb : BoxW B T w w') (hT : T ≠ 45 ∧ T ≠ 3) : LockOwn lo hi w' v c := by
  obtain ⟨a0, p0, a2, p2, rfl, h0, b0, h2, b2⟩ := h
  obtain ⟨hT0, hT1⟩ := hT
  exact ⟨_, _, _, _, rfl, h0.boxW hb hT1, b0, h2.boxW hb hT0, b2⟩
theorem LockOwn.grownX {lo hi b : Nat} {w w' : World} {v : Value} {c : LockD} {cs : Array Value} {T : TypeId} {fr : Nat × Nat} (h : LockOwn lo hi w v c) (hg : w.grownBy w' (some b)) (hx : w.heap[b]? = some (.cells cs T fr)) (hT : T ≠ 45 ∧ T ≠ 3) : LockOwn lo hi w' v c := by
  obtain ⟨a0, p0, a2, p2, rfl, h0, b0, h2, b2⟩ := h
  obtain ⟨hT0, hT1⟩ := hT
  exact ⟨_, _, _, _, rfl, h0.growns hg (.inr (h0.ne hx hT1)), b0, h2.growns hg (.inr (h2.ne hx hT0)), b2⟩
theorem LockOwn.tight {lo hi : Nat} {w : World} {v : Value} {c : LockD} (h : LockOwn lo hi w v c) : LockOwn lo w.heap.size w v c := by
  obtain ⟨a0, p0, a2, p2, rfl, h0, b0, h2, b2⟩ := h
  exact ⟨_, _, _, _, rfl, h0, h0.hi, h2, h2.hi⟩
theorem LockOwn.make {lo hi : Nat} {w : World} {x0 : List Int} {x1 : Int} {x2 : List (Int × Bool)} {v0 : Value} {v2 : Value} (h0 : Own lo 3 1 encI w v0 x0) (h2 : Own lo 45 2 encW w v2 x2) (hh : w.heap.size ≤ hi) : LockOwn lo hi w (.agg #[v0, .int .i64 x1, v2]) ⟨x0, x1, x2⟩ := by
  obtain ⟨a0, p0, rfl⟩ := h0.form
  obtain ⟨a2, p2, rfl⟩ := h2.form
  exact ⟨_, _, _, _, rfl, h0, fun g e => Nat.lt_of_lt_of_le (h0.hi g e) hh, h2, fun g e => Nat.lt_of_lt_of_le (h2.hi g e) hh⟩
/-- The slices are short. -/
def LockFew (M : Nat) (c : LockD) : Prop := c.readers.length ≤ M ∧ c.q.length ≤ M
theorem LockFew.mono {M M' : Nat} {c : LockD} (h : LockFew M c) (hM : M ≤ M') : LockFew M' c := by unfold LockFew at *; omega
/-- What a function that draws a struct leaves. -/
def LockPost (M : Nat) (w : World) (b N : Nat) (e : Ending) (w' : World) : Prop := ∃ v c, e = .returned v ∧ LockOwn w.heap.size w'.heap.size w' v c ∧ LockFew M c ∧ Dr w b N w'
end Go.Proofs.YtbnfhnfnbhigoaaDoor
