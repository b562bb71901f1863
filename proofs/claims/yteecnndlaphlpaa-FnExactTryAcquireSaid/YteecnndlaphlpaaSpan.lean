/- Worlds that differ in the blocks from lo up to hi alone. -/
import Derived.Test.YteecnndlaphlpaaOwn2
namespace Go.Proofs.Yteecnndlaphlpaa
open Go.RowKit
set_option linter.unusedSimpArgs false
set_option linter.unusedVariables false
structure Span (lo hi : Nat) (w w' : World) : Prop where
  os : w'.os = w.os
  tape : w'.tape = w.tape
  output : w'.output = w.output
  size : w.heap.size ≤ w'.heap.size
  block : ∀ k, k < w.heap.size → (k < lo ∨ hi ≤ k) → w'.heap[k]? = w.heap[k]?
theorem Span.below {lo hi B : Nat} {w w' : World} (h : Span lo hi w w') (hB : B ≤ lo) (hw : B ≤ w.heap.size) : Below B w w' := ⟨h.os, h.tape, h.output, h.size, fun k hk => h.block k (by omega) (.inl (by omega))⟩
theorem Span.of_below {lo hi : Nat} {w w' : World} (h : Below w.heap.size w w') : Span lo hi w w' := ⟨h.os, h.tape, h.output, h.size, fun k hk _ => h.block k hk⟩
theorem Span.of_grown {lo hi : Nat} {w w' : World} {row : Option Nat} (h : w.grownBy w' row) (hr : ∀ k, row = some k → lo ≤ k ∧ k < hi) : Span lo hi w w' :=
  ⟨h.os, h.tape, h.output, h.size, fun k hk ho => h.block k hk (fun e => by have := hr k e.symm; omega)⟩
theorem Span.trans {lo hi : Nat} {a b c : World} (h : Span lo hi a b) (k : Span lo hi b c) : Span lo hi a c :=
  ⟨k.os.trans h.os, k.tape.trans h.tape, k.output.trans h.output, Nat.le_trans h.size k.size, fun i hi ho => (k.block i (Nat.lt_of_lt_of_le hi h.size) ho).trans (h.block i hi ho)⟩
theorem Span.box {lo hi k : Nat} {w w' : World} {A : Obj} (h : Span lo hi w w') (hx : w.heap[k]? = some A) (ho : k < lo ∨ hi ≤ k) : w'.heap[k]? = some A := (h.block k (heap_lt hx) ho).trans hx
theorem Own.span {α : Type} {base E k lo hi : Nat} {enc : α → List Value} {w w' : World} {v : Value} {xs : List α} (h : Own base E k enc w v xs) (hs : Span lo hi w w') (ho : ∀ g, v.ownBlock = some g → g < lo ∨ hi ≤ g) : Own base E k enc w' v xs := by
  refine ⟨h.1, ?_⟩
  rcases h.2 with h2 | ⟨g, cap, cur, rfl, hb, hg, r⟩
  · exact .inl h2
  · exact .inr ⟨g, cap, cur, rfl, hb, hs.box hg (ho g rfl), r⟩
/-- Two owned slices of different element types lie apart. -/
theorem Own.apart_types {α β : Type} {base base' E E' k k' : Nat} {enc : α → List Value} {enc' : β → List Value} {w : World} {v u : Value} {xs : List α} {ys : List β} (h : Own base E k enc w v xs) (h' : Own base' E' k' enc' w u ys) (hT : E ≠ E') : Apart v u := by
  intro g e1 e2
  rcases h.2 with ⟨rfl, _⟩ | ⟨g1, c1, cur1, rfl, _, hg1, _⟩
  · cases e1
  · rcases h'.2 with ⟨rfl, _⟩ | ⟨g2, c2, cur2, rfl, _, hg2, _⟩
    · cases e2
    · simp only [Value.ownBlock, Option.some.injEq] at e1 e2
      subst e1 e2
      rw [hg1] at hg2
      cases hg2
      exact hT rfl
theorem grow_at {w w' : World} {k : Nat} {A : Obj} {row : Option Nat} (h : w.grownBy w' row) (hx : w.heap[k]? = some A) (hne : row ≠ some k) : w'.heap[k]? = some A := (h.block k (heap_lt hx) (Ne.symm hne)).trans hx
theorem Own.hi {α : Type} {base E k : Nat} {enc : α → List Value} {w : World} {v : Value} {xs : List α} (h : Own base E k enc w v xs) : ∀ g, v.ownBlock = some g → g < w.heap.size := fun g e => (h.block g e).2
section
variable {w : World} {b : Nat} {T : TypeId} {x y z s t : Value}
theorem box4 (h : w.heap[b]? = some (.cells #[x, y, z, s] T (0, 0))) : w.cell? ⟨b, 0, none⟩ = some x ∧ w.cell? ⟨b, 1, none⟩ = some y ∧ w.cell? ⟨b, 2, none⟩ = some z ∧ w.cell? ⟨b, 3, none⟩ = some s ∧
    w.frozen? ⟨b, 0, none⟩ = false ∧ w.frozen? ⟨b, 1, none⟩ = false ∧ w.frozen? ⟨b, 2, none⟩ = false ∧ w.frozen? ⟨b, 3, none⟩ = false :=
  ⟨by simp [World.cell?, h], by simp [World.cell?, h], by simp [World.cell?, h], by simp [World.cell?, h], by simp [World.frozen?, h], by simp [World.frozen?, h], by simp [World.frozen?, h], by simp [World.frozen?, h]⟩
theorem box5 (h : w.heap[b]? = some (.cells #[x, y, z, s, t] T (0, 0))) : w.cell? ⟨b, 0, none⟩ = some x ∧ w.cell? ⟨b, 1, none⟩ = some y ∧ w.cell? ⟨b, 2, none⟩ = some z ∧ w.cell? ⟨b, 3, none⟩ = some s ∧ w.cell? ⟨b, 4, none⟩ = some t ∧
    w.frozen? ⟨b, 0, none⟩ = false ∧ w.frozen? ⟨b, 1, none⟩ = false ∧ w.frozen? ⟨b, 2, none⟩ = false ∧ w.frozen? ⟨b, 3, none⟩ = false ∧ w.frozen? ⟨b, 4, none⟩ = false :=
  ⟨by simp [World.cell?, h], by simp [World.cell?, h], by simp [World.cell?, h], by simp [World.cell?, h], by simp [World.cell?, h], by simp [World.frozen?, h], by simp [World.frozen?, h], by simp [World.frozen?, h], by simp [World.frozen?, h], by simp [World.frozen?, h]⟩
end
theorem heap_drew {w : World} {k : Nat} {A : Obj} (h : w.heap[k]? = some A) : w.drew.heap[k]? = some A := h
theorem szF_pos {left : Int} {n : Nat} (h : (n : Int) ≤ left) : szF left n = left - n := if_pos h
theorem szF_neg {left : Int} {n : Nat} (h : ¬ (n : Int) ≤ left) : szF left n = -1 := if_neg h
theorem below_setAt {B : Nat} {w w' : World} (h : Below B w w') (b j : Nat) (hb : B ≤ b) (u : Value) : Below B w (w'.setCell ⟨b, j, none⟩ u) := h.setCell (p := ⟨b, j, none⟩) hb u
theorem Own.setAt {α : Type} {base E k : Nat} {enc : α → List Value} {w : World} {v : Value} {xs : List α} (h : Own base E k enc w v xs) (b j : Nat) (hb : b < base) (u : Value) : Own base E k enc (w.setCell ⟨b, j, none⟩ u) v xs := h.set (a := ⟨b, j, none⟩) hb u
end Go.Proofs.Yteecnndlaphlpaa
