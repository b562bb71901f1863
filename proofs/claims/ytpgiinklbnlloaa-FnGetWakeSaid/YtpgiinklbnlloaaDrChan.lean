/- Owned structs Chan behind a draw and behind a store to a box (made by gen_drst.py). -/
import Derived.Test.YtpgiinklbnlloaaStChan
import Derived.Test.YtpgiinklbnlloaaDr
import Derived.Test.YtpgiinklbnlloaaStepFn
import Derived.Test.YtpgiinklbnlloaaRgBox
namespace Go.Proofs.Ytpgiinklbnlloaa
open Go.RowKit
set_option linter.unusedSimpArgs false
set_option linter.unusedVariables false
theorem ChanOwn.past {lo hi b : Nat} {w w' : World} {v : Value} {c : ChanD} (h : ChanOwn lo hi w v c) (hg : w.grownBy w' (some b)) (hb : b < lo) : ChanOwn lo hi w' v c := by
  obtain ⟨a1, p1, a2, p2, a3, p3, rfl, h1, b1, h2, b2, h3, b3, x13⟩ := h
  exact ⟨_, _, _, _, _, _, rfl, h1.past hg hb, b1, h2.past hg hb, b2, h3.past hg hb, b3, x13⟩
theorem ChanOwn.pastHi {lo hi b : Nat} {w w' : World} {v : Value} {c : ChanD} (h : ChanOwn lo hi w v c) (hg : w.grownBy w' (some b)) (hb : hi ≤ b) : ChanOwn lo hi w' v c := by
  obtain ⟨a1, p1, a2, p2, a3, p3, rfl, h1, b1, h2, b2, h3, b3, x13⟩ := h
  exact ⟨_, _, _, _, _, _, rfl, h1.growns hg (.inr fun e => by have := b1 b e; omega), b1, h2.growns hg (.inr fun e => by have := b2 b e; omega), b2, h3.growns hg (.inr fun e => by have := b3 b e; omega), b3, x13⟩
theorem ChanOwn.setC {lo hi : Nat} {w : World} {v : Value} {c : ChanD} (h : ChanOwn lo hi w v c) (b j : Nat) {cs : Array Value} {T : TypeId} {fr : Nat × Nat} (hx : w.heap[b]? = some (.cells cs T fr)) (hT0 : T ≠ 58) (hT1 : T ≠ 3) (u : Value) : ChanOwn lo hi (w.setCell ⟨b, j, none⟩ u) v c := by
  obtain ⟨a1, p1, a2, p2, a3, p3, rfl, h1, b1, h2, b2, h3, b3, x13⟩ := h
  exact ⟨_, _, _, _, _, _, rfl, h1.setB b j hx hT1 u, b1, h2.setB b j hx hT0 u, b2, h3.setB b j hx hT1 u, b3, x13⟩
theorem ChanOwn.setB {lo hi : Nat} {w : World} {v : Value} {c : ChanD} (h : ChanOwn lo hi w v c) (b j : Nat) {cs : Array Value} {T : TypeId} {fr : Nat × Nat} (hx : w.heap[b]? = some (.cells cs T fr)) (hT : T ≠ 58 ∧ T ≠ 3) (u : Value) : ChanOwn lo hi (w.setCell ⟨b, j, none⟩ u) v c := h.setC b j hx hT.1 hT.2 u
theorem ChanOwn.grownT {α : Type} {base E k lo hi : Nat} {enc : α → List Value} {ys : List α} {w w' : World} {v u : Value} {c : ChanD} (h : ChanOwn lo hi w v c) (hu : Own base E k enc w u ys) (hg : w.grownBy w' u.ownBlock) (hT : E ≠ 58 ∧ E ≠ 3) : ChanOwn lo hi w' v c := by
  obtain ⟨a1, p1, a2, p2, a3, p3, rfl, h1, b1, h2, b2, h3, b3, x13⟩ := h
  obtain ⟨hT0, hT1⟩ := hT
  exact ⟨_, _, _, _, _, _, rfl, h1.apart hg (Own.apart_types hu h1 hT1), b1, h2.apart hg (Own.apart_types hu h2 hT0), b2, h3.apart hg (Own.apart_types hu h3 hT1), b3, x13⟩
theorem ChanOwn.boxW {lo hi B : Nat} {T : TypeId} {w w' : World} {v : Value} {c : ChanD} (h : ChanOwn lo hi w v c) (hb : BoxW B T w w') (hT : T ≠ 58 ∧ T ≠ 3) : ChanOwn lo hi w' v c := by
  obtain ⟨a1, p1, a2, p2, a3, p3, rfl, h1, b1, h2, b2, h3, b3, x13⟩ := h
  obtain ⟨hT0, hT1⟩ := hT
  exact ⟨_, _, _, _, _, _, rfl, h1.boxW hb hT1, b1, h2.boxW hb hT0, b2, h3.boxW hb hT1, b3, x13⟩
theorem ChanOwn.grownX {lo hi b : Nat} {w w' : World} {v : Value} {c : ChanD} {cs : Array Value} {T : TypeId} {fr : Nat × Nat} (h : ChanOwn lo hi w v c) (hg : w.grownBy w' (some b)) (hx : w.heap[b]? = some (.cells cs T fr)) (hT : T ≠ 58 ∧ T ≠ 3) : ChanOwn lo hi w' v c := by
  obtain ⟨a1, p1, a2, p2, a3, p3, rfl, h1, b1, h2, b2, h3, b3, x13⟩ := h
  obtain ⟨hT0, hT1⟩ := hT
  exact ⟨_, _, _, _, _, _, rfl, h1.growns hg (.inr (h1.ne hx hT1)), b1, h2.growns hg (.inr (h2.ne hx hT0)), b2, h3.growns hg (.inr (h3.ne hx hT1)), b3, x13⟩
theorem ChanOwn.tight {lo hi : Nat} {w : World} {v : Value} {c : ChanD} (h : ChanOwn lo hi w v c) : ChanOwn lo w.heap.size w v c := by
  obtain ⟨a1, p1, a2, p2, a3, p3, rfl, h1, b1, h2, b2, h3, b3, x13⟩ := h
  exact ⟨_, _, _, _, _, _, rfl, h1, h1.hi, h2, h2.hi, h3, h3.hi, x13⟩
theorem ChanOwn.make {lo hi : Nat} {w : World} {x0 : Int} {x1 : List Int} {x2 : List (Int × Int)} {x3 : List Int} {x4 : Bool} {v1 : Value} {v2 : Value} {v3 : Value} (h1 : Own lo 3 1 encI w v1 x1) (h2 : Own lo 58 2 encP w v2 x2) (h3 : Own lo 3 1 encI w v3 x3) (hh : w.heap.size ≤ hi) (x13 : Apart v1 v3) : ChanOwn lo hi w (.agg #[.int .i64 x0, v1, v2, v3, .bool x4]) ⟨x0, x1, x2, x3, x4⟩ := by
  obtain ⟨a1, p1, rfl⟩ := h1.form
  obtain ⟨a2, p2, rfl⟩ := h2.form
  obtain ⟨a3, p3, rfl⟩ := h3.form
  exact ⟨_, _, _, _, _, _, rfl, h1, fun g e => Nat.lt_of_lt_of_le (h1.hi g e) hh, h2, fun g e => Nat.lt_of_lt_of_le (h2.hi g e) hh, h3, fun g e => Nat.lt_of_lt_of_le (h3.hi g e) hh, x13⟩
/-- The slices are short. -/
def ChanFew (M : Nat) (c : ChanD) : Prop := c.items.length ≤ M ∧ c.senders.length ≤ M ∧ c.getters.length ≤ M
theorem ChanFew.mono {M M' : Nat} {c : ChanD} (h : ChanFew M c) (hM : M ≤ M') : ChanFew M' c := by unfold ChanFew at *; omega
/-- What a function that draws a struct leaves. -/
def ChanPost (M : Nat) (w : World) (b N : Nat) (e : Ending) (w' : World) : Prop := ∃ v c, e = .returned v ∧ ChanOwn w.heap.size w'.heap.size w' v c ∧ ChanFew M c ∧ Dr w b N w'
end Go.Proofs.Ytpgiinklbnlloaa
