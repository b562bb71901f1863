/- Laws on the reader and on struct variables of three cells. -/
import Derived.Test.YtmmkbiljjhigfaaDr
import Derived.Test.YtmmkbiljjhigfaaSemNew
import Derived.Test.YtmmkbiljjhigfaaAcquireS
import Derived.Test.YtmmkbiljjhigfaaRelease
import Derived.Test.YtmmkbiljjhigfaaSemLaws
namespace Go.Proofs.Ytmmkbiljjhigfaa
open Go.RowKit
set_option linter.unusedSimpArgs false
set_option linter.unusedVariables false
theorem Rd.set_off {w : World} {b N : Nat} (h : Rd w b N) {a : Addr} {cs : Array Value} {T : TypeId} {fr : Nat × Nat} (_hx : w.heap[a.block]? = some (.cells cs T fr)) (_hcs : ∀ v ∈ cs, ∀ x, v ≠ .int .u8 x) (hab : b < a.block) (u : Value) : Rd (w.setCell a u) b N :=
  h.off fun k A hk hx => (Below.heap_setCell _ _ _ _ (by omega)).trans hx
theorem box_plain {f l : Int} {a : Option Addr} {n c : Nat} : ∀ v ∈ #[Value.int .i64 f, Value.int .i64 l, Value.slice a n c], ∀ x, v ≠ .int .u8 x := by
  intro v hv x e
  subst e
  simp at hv


/-- The three cells of a struct variable are stored. -/
abbrev set3 (w : World) (k : Nat) (u0 u1 u2 : Value) : World := ((w.setCell ⟨k, 0, none⟩ u0).setCell ⟨k, 1, none⟩ u1).setCell ⟨k, 2, none⟩ u2
theorem set3_at {w : World} {k : Nat} {x y z u0 u1 u2 : Value} {T : TypeId} (h : w.heap[k]? = some (.cells #[x, y, z] T (0, 0))) : (set3 w k u0 u1 u2).heap[k]? = some (.cells #[u0, u1, u2] T (0, 0)) :=
  set_at (a := ⟨k, 2, none⟩) (set_at (a := ⟨k, 1, none⟩) (set_at (a := ⟨k, 0, none⟩) h rfl rfl u0) rfl rfl u1) rfl rfl u2
theorem set3_off {w : World} {k j : Nat} {u0 u1 u2 : Value} {A : Obj} (h : w.heap[j]? = some A) (hj : k ≠ j) : (set3 w k u0 u1 u2).heap[j]? = some A :=
  set_off (a := ⟨k, 2, none⟩) (set_off (a := ⟨k, 1, none⟩) (set_off (a := ⟨k, 0, none⟩) h hj u0) hj u1) hj u2
theorem set3_rd {w : World} {k b N : Nat} {u2 : Value} {f l f' l' : Int} {a : Option Addr} {n c : Nat} {T : TypeId} (h : Rd w b N) (hx : w.heap[k]? = some (.cells #[.int .i64 f, .int .i64 l, .slice a n c] T (0, 0))) (hk : b < k) : Rd (set3 w k (.int .i64 f') (.int .i64 l') u2) b N := by
  have h1 := set_at (a := ⟨k, 0, none⟩) hx rfl rfl (.int .i64 f')
  have h2 := set_at (a := ⟨k, 1, none⟩) h1 rfl rfl (.int .i64 l')
  exact ((h.set_off (a := ⟨k, 0, none⟩) hx box_plain hk _).set_off (a := ⟨k, 1, none⟩) (cs := #[.int .i64 f', .int .i64 l, .slice a n c]) h1 box_plain hk _).set_off (a := ⟨k, 2, none⟩) (cs := #[.int .i64 f', .int .i64 l', .slice a n c]) h2 box_plain hk _
theorem set3_own {α : Type} {base E B : Nat} {enc : α → List Value} {w : World} {k : Nat} {v u0 u1 u2 : Value} {xs : List α} (h : Own base E B enc w v xs) (hne : v.ownBlock ≠ some k) : Own base E B enc (set3 w k u0 u1 u2) v xs :=
  ((h.set_off (a := ⟨k, 0, none⟩) hne u0).set_off (a := ⟨k, 1, none⟩) hne u1).set_off (a := ⟨k, 2, none⟩) hne u2
theorem set3_grown {w w' : World} {r : Option Nat} {k : Nat} {u0 u1 u2 : Value} (h : w.grownBy w' r) (hk : w.heap.size ≤ k) : w.grownBy (set3 w' k u0 u1 u2) r :=
  grown_new (a := ⟨k, 2, none⟩) (grown_new (a := ⟨k, 1, none⟩) (grown_new (a := ⟨k, 0, none⟩) h hk u0) hk u1) hk u2
theorem set3_below {B : Nat} {w w' : World} {k : Nat} {u0 u1 u2 : Value} (h : Below B w w') (hk : B ≤ k) : Below B w (set3 w' k u0 u1 u2) :=
  ((h.setCell (p := ⟨k, 0, none⟩) hk u0).setCell (p := ⟨k, 1, none⟩) hk u1).setCell (p := ⟨k, 2, none⟩) hk u2
theorem set3_size {w : World} {k : Nat} {u0 u1 u2 : Value} : (set3 w k u0 u1 u2).heap.size = w.heap.size := by simp only [szS]
end Go.Proofs.Ytmmkbiljjhigfaa
