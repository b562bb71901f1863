/- Owned structs Once behind a draw and behind a store to a box (made by gen_drst.py). -/
import Derived.Test.YtmmkbiljjhigfaaStOnce
import Derived.Test.YtmmkbiljjhigfaaDr
import Derived.Test.YtmmkbiljjhigfaaStepFn
import Derived.Test.YtmmkbiljjhigfaaRgBox
namespace Go.Proofs.Ytmmkbiljjhigfaa
open Go.RowKit
set_option linter.unusedSimpArgs false
set_option linter.unusedVariables false
theorem OnceOwn.past {lo hi b : Nat} {w w' : World} {v : Value} {c : OnceD} (h : OnceOwn lo hi w v c) (hg : w.grownBy w' (some b)) (hb : b < lo) : OnceOwn lo hi w' v c := by
  obtain ⟨a3, p3, rfl, h3, b3⟩ := h
  exact ⟨_, _, rfl, h3.past hg hb, b3⟩
theorem OnceOwn.pastHi {lo hi b : Nat} {w w' : World} {v : Value} {c : OnceD} (h : OnceOwn lo hi w v c) (hg : w.grownBy w' (some b)) (hb : hi ≤ b) : OnceOwn lo hi w' v c := by
  obtain ⟨a3, p3, rfl, h3, b3⟩ := h
  exact ⟨_, _, rfl, h3.growns hg (.inr fun e => by have := b3 b e; omega), b3⟩
theorem OnceOwn.setC {lo hi : Nat} {w : World} {v : Value} {c : OnceD} (h : OnceOwn lo hi w v c) (b j : Nat) {cs : Array Value} {T : TypeId} {fr : Nat × Nat} (hx : w.heap[b]? = some (.cells cs T fr)) (hT0 : T ≠ 3) (u : Value) : OnceOwn lo hi (w.setCell ⟨b, j, none⟩ u) v c := by
  obtain ⟨a3, p3, rfl, h3, b3⟩ := h
  exact ⟨_, _, rfl, h3.setB b j hx hT0 u, b3⟩
theorem OnceOwn.setB {lo hi : Nat} {w : World} {v : Value} {c : OnceD} (h : OnceOwn lo hi w v c) (b j : Nat) {cs : Array Value} {T : TypeId} {fr : Nat × Nat} (hx : w.heap[b]? = some (.cells cs T fr)) (hT : T ≠ 3) (u : Value) : OnceOwn lo hi (w.setCell ⟨b, j, none⟩ u) v c := h.setC b j hx hT u
theorem OnceOwn.grownT {α : Type} {base E k lo hi : Nat} {enc : α → List Value} {ys : List α} {w w' : World} {v u : Value} {c : OnceD} (h : OnceOwn lo hi w v c) (hu : Own base E k enc w u ys) (hg : w.grownBy w' u.ownBlock) (hT : E ≠ 3) : OnceOwn lo hi w' v c := by
  obtain ⟨a3, p3, rfl, h3, b3⟩ := h
  have hT0 := hT
  exact ⟨_, _, rfl, h3.apart hg (Own.apart_types hu h3 hT0), b3⟩
theorem OnceOwn.boxW {lo hi B : Nat} {T : TypeId} {w w' : World} {v : Value} {c : OnceD} (h : OnceOwn lo hi w v c) (hb : BoxW B T w w') (hT : T ≠ 3) : OnceOwn lo hi w' v c := by
  obtain ⟨a3, p3, rfl, h3, b3⟩ := h
  have hT0 := hT
  exact ⟨_, _, rfl, h3.boxW hb hT0, b3⟩
theorem OnceOwn.tight {lo hi : Nat} {w : World} {v : Value} {c : OnceD} (h : OnceOwn lo hi w v c) : OnceOwn lo w.heap.size w v c := by
  obtain ⟨a3, p3, rfl, h3, b3⟩ := h
  exact ⟨_, _, rfl, h3, h3.hi⟩
theorem OnceOwn.make {lo hi : Nat} {w : World} {x0 : Int} {x1 : Int} {x2 : Int} {x3 : List Int} {v3 : Value} (h3 : Own lo 3 1 encI w v3 x3) (hh : w.heap.size ≤ hi) : OnceOwn lo hi w (.agg #[.int .i64 x0, .int .i64 x1, .int .i64 x2, v3]) ⟨x0, x1, x2, x3⟩ := by
  obtain ⟨a3, p3, rfl⟩ := h3.form
  exact ⟨_, _, rfl, h3, fun g e => Nat.lt_of_lt_of_le (h3.hi g e) hh⟩
/-- The slices are short. -/
def OnceFew (M : Nat) (c : OnceD) : Prop := c.waits.length ≤ M
theorem OnceFew.mono {M M' : Nat} {c : OnceD} (h : OnceFew M c) (hM : M ≤ M') : OnceFew M' c := by unfold OnceFew at *; omega
/-- What a function that draws a struct leaves. -/
def OncePost (M : Nat) (w : World) (b N : Nat) (e : Ending) (w' : World) : Prop := ∃ v c, e = .returned v ∧ OnceOwn w.heap.size w'.heap.size w' v c ∧ OnceFew M c ∧ Dr w b N w'
end Go.Proofs.Ytmmkbiljjhigfaa
