/- More small laws on owned slices. -/
import Derived.Test.YtchlacepeckeaaaDoorBase
namespace Go.Proofs.YtchlacepeckeaaaDoor
open Go.RowKit
set_option linter.unusedSimpArgs false
set_option linter.unusedVariables false
theorem Own.alloc {α : Type} {base E k : Nat} {enc : α → List Value} {w : World} {v : Value} {xs : List α} (h : Own base E k enc w v xs) (o : Obj) : Own base E k enc (w.alloc o) v xs := h.kept ((Below.refl _ _).alloc (Nat.le_refl _) o)
/-- What lies below the owned rows lies there behind an append to one of them. -/
theorem push_at {W w1 : World} {base k : Nat} {A X : Obj} {row : Option Nat} (hA : W.heap[k]? = some A) (hg : (W.alloc X).grownBy w1 row) (hr : ∀ g, row = some g → base ≤ g) (hk : k < base) : w1.heap[k]? = some A := by
  rw [hg.block k (by have := heap_lt hA; simp only [szA]; omega) (fun e => by have := hr k e.symm; omega)]
  exact heap_up hA
theorem push_below {B base : Nat} {w W w1 : World} {X : Obj} {row : Option Nat} (hb : Below B w W) (hg : (W.alloc X).grownBy w1 row) (hr : ∀ g, row = some g → base ≤ g) (hB : B ≤ W.heap.size) (hBb : B ≤ base) : Below B w w1 :=
  (hb.alloc hB X).grown hg (by simp only [szA]; omega) (fun k e => Nat.le_trans hBb (hr k e))
theorem Own.blk {α : Type} {base E k : Nat} {enc : α → List Value} {w : World} {v : Value} {xs : List α} (h : Own base E k enc w v xs) : ∀ g, v.ownBlock = some g → base ≤ g := fun g e => (h.block g e).1
theorem push_at2 {W w1 : World} {k : Nat} {A X : Obj} {row : Option Nat} (hA : W.heap[k]? = some A) (hg : (W.alloc X).grownBy w1 row) (hne : row ≠ some k) : w1.heap[k]? = some A := by
  rw [hg.block k (by have := heap_lt hA; simp only [szA]; omega) (fun e => hne e.symm)]
  exact heap_up hA
theorem Own.not_new {α : Type} {base E k : Nat} {enc : α → List Value} {w : World} {v : Value} {xs : List α} (h : Own base E k enc w v xs) {n : Nat} (hn : w.heap.size ≤ n) : v.ownBlock ≠ some n := fun e => by
  have := (h.block n e).2; omega
theorem heap_at' {w : World} {A : Obj} {n : Nat} (h : w.heap.size = n) : (w.alloc A).heap[n]? = some A := by subst h; exact heap_alloc_new w A
end Go.Proofs.YtchlacepeckeaaaDoor
