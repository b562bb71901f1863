/- Worlds that differ in the blocks from lo up to hi alone. -/
import Derived.Test.YtchlacepeckeaaaDoorOwn2
namespace Go.Proofs.YtchlacepeckeaaaDoor
open Go.RowKit
set_option linter.unusedSimpArgs false
set_option linter.unusedVariables false
structure Span (lo hi : Nat) (w w' : World) : Prop where
  os : w'.os = w.os
  tape : w'.tape = w.tape
  output : w'.output = w.output
  size : w.heap.size ≤ w'.heap.size
  block : ∀ k, k < w.heap.size → (k < lo ∨ hi ≤ k) → w'.heap[k]? = w.heap[k]?
theorem Span.below {lo hi B : Nat} {w w' : World} (h : Span lo hi w w') (hB : B ≤ lo) (hw : B ≤ w.heap.size) : Below B w w' := ⟨h.os, h.tape, h.output, h.size, fun k hk => h.block k (by omega) (.inl (by omega))⟩
theorem Span.of_below {lo hi : Nat} {w w' : World} (h : Below w.heap.size w w') : Span lo hi w w' := ⟨h.os, h.tape, h.output, h.size, fun k hk _ => h.block k hk⟩
theorem Span.of_grown {lo hi : Nat} {w w' : World} {row : Option Nat} (h : w.grownBy w' row) (hr : ∀ k, row = some k → lo ≤ k ∧ k < hi) : Span lo hi w w' :=
  ⟨h.os, h.tape, h.output, h.size, fun k hk ho => h.block k hk (fun e => by have := hr k e.symm; omega)⟩
theorem Span.trans {lo hi : Nat} {a b c : World} (h : Span lo hi a b) (k : Span lo hi b c) : Span lo hi a c :=
  ⟨k.os.trans h.os, k.tape.trans h.tape, k.output.trans h.output, Nat.le_trans h.size k.size, fun i hi ho => (k.block i (Nat.lt_of_lt_of_le hi h.size) ho).trans (h.block i hi ho)⟩
theorem Span.box {lo hi k : Nat} {w w' : World} {A : Obj} (h : Span lo hi w w') (hx : w.heap[k]? = some A) (ho : k < lo ∨ hi ≤ k) : w'.heap[k]? = some A := (h.block k (heap_lt hx) ho).trans hx
theorem Own.span {α : Type} {base E k lo hi : Nat} {enc : α → List Value} {w w' : World} {v : Value} {xs : List α} (h : Own base E k enc w v xs) (hs : Span lo hi w w') (ho : ∀ g, v.ownBlock = some g → g < lo ∨ hi ≤ g) : Own base E k enc w' v xs := by
  refine ⟨h.1, ?_⟩
  rcases h.2 with h2 | ⟨g, cap, cur, rfl, hb, hg, r⟩
  · exact .inl h2
  · exact .inr ⟨g, cap, cur, rfl, hb, hs.box hg (ho g rfl), r⟩
/-- Two owned slices of different element types lie apart. -/
theorem Own.apart_types {α β : Type} {base base' E E' k k' : Nat} {enc : α → List Value} {enc' : β → List Value} {w : World} {v u : Value} {xs : List α} {ys : List β} (h : Own base E k enc w v xs) (h' : Own base' E' k' enc' w u ys) (hT : E ≠ E') : Apart v u := by
  intro g e1 e2
  rcases h.2 with ⟨rfl, _⟩ | ⟨g1, c1, cur1, rfl, _, hg1, _⟩
  · cases e1
  · rcases h'.2 with ⟨rfl, _⟩ | ⟨g2, c2, cur2, rfl, _, hg2, _⟩
    · cases e2
    · simp only [Value.ownBlock, Option.some.injEq] at e1 e2
      subst e1 e2
      rw [hg1] at hg2
      cases hg2
      exact hT rfl
theorem grow_at {w w' : World} {k : Nat} {A : Obj} {row : Option Nat} (h : w.grownBy w' row) (hx : w.heap[k]? = some A) (hne : row ≠ some k) : w'.heap[k]? = some A := (h.block k (heap_lt hx) (Ne.symm hne)).trans hx
theorem Own.hi {α : Type} {base E k : Nat} {enc : α → List Value} {w : World} {v : Value} {xs : List α} (h : Own base E k enc w v xs) : ∀ g, v.ownBlock = some g → g < w.heap.size := fun g e => (h.block g e).2
section
variable {w : World} {b : Nat} {T : TypeId} {x y z s t : Value}
theorem box4 (h : w.heap[b]? = some (.cells #[x, y, z, s] T (0, 0))) : w.cell? ⟨b, 0, none⟩ = some x ∧ w.cell? ⟨b, 1, none⟩ = some y ∧ w.cell? ⟨b, 2, none⟩ = some z ∧ w.cell? ⟨b, 3, none⟩ = some s ∧
    w.frozen? ⟨b, 0, none⟩ = false ∧ w.frozen? ⟨b, 1, none⟩ = false ∧ w.frozen? ⟨b, 2, none⟩ = false ∧ w.frozen? ⟨b, 3, none⟩ = false :=
  ⟨by simp [World.cell?, h], by simp [World.cell?, h], by simp [World.cell?, h], by simp [World.cell?, h], by simp [World.frozen?, h], by simp [World.frozen?, h], by simp [World.frozen?, h], by simp [World.frozen?, h]⟩
theorem box5 (h : w.heap[b]? = some (.cells #[x, y, z, s, t] T (0, 0))) : w.cell? ⟨b, 0, none⟩ = some x ∧ w.cell? ⟨b, 1, none⟩ = some y ∧ w.cell? ⟨b, 2, none⟩ = some z ∧ w.cell? ⟨b, 3, none⟩ = some s ∧ w.cell? ⟨b, 4, none⟩ = some t ∧
    w.frozen? ⟨b, 0, none⟩ = false ∧ w.frozen? ⟨b, 1, none⟩ = false ∧ w.frozen? ⟨b, 2, none⟩ = false ∧ w.frozen? ⟨b, 3, none⟩ = false ∧ w.frozen? ⟨b, 4, none⟩ = false :=
  ⟨by simp [World.cell?, h], by simp [World.cell?, h], by simp [World.cell?, h], by simp [World.cell?, h], by simp [World.cell?, h], by simp [World.frozen?, h], by simp [World.frozen?, h], by simp [World.frozen?, h], by simp [World.frozen?, h], by simp [World.frozen?, h]⟩
end
theorem heap_drew {w : World} {k : Nat} {A : Obj} (h : w.heap[k]? = some A) : w.drew.heap[k]? = some A := h
/-- A slice of ints that the call owns, its block from lo on and below hi. -/
def LOwn (lo hi : Nat) (w : World) (v : Value) (xs : List Int) : Prop := ∃ a p, v = .slice a xs.length p ∧ Own lo 3 1 encI w (.slice a xs.length p) xs ∧ (∀ g, (Value.slice a xs.length p).ownBlock = some g → g < hi)
section
variable {lo hi : Nat} {w w' : World} {v : Value} {xs : List Int}
theorem LOwn.own (h : LOwn lo hi w v xs) : Own lo 3 1 encI w v xs := by obtain ⟨a, p, rfl, h, _⟩ := h; exact h
theorem LOwn.row (h : LOwn lo hi w v xs) : IRow w v xs := h.own.row encI_len
theorem LOwn.lt (h : LOwn lo hi w v xs) : ∀ g, v.ownBlock = some g → g < hi := by obtain ⟨a, p, rfl, _, h⟩ := h; exact h
theorem LOwn.of (h : Own lo 3 1 encI w v xs) (hh : w.heap.size ≤ hi) : LOwn lo hi w v xs := by
  obtain ⟨a, p, rfl⟩ := h.form
  exact ⟨a, p, rfl, h, fun g e => Nat.lt_of_lt_of_le (h.hi g e) hh⟩
theorem LOwn.mk (h : Own lo 3 1 encI w v xs) (hh : ∀ g, v.ownBlock = some g → g < hi) : LOwn lo hi w v xs := by
  obtain ⟨a, p, rfl⟩ := h.form
  exact ⟨a, p, rfl, h, hh⟩
theorem LOwn.kept (h : LOwn lo hi w v xs) (hb : Below w.heap.size w w') : LOwn lo hi w' v xs := LOwn.mk (h.own.kept hb) h.lt
theorem LOwn.alloc (h : LOwn lo hi w v xs) (o : Obj) : LOwn lo hi (w.alloc o) v xs := h.kept ((Below.refl _ _).alloc (Nat.le_refl _) o)
theorem LOwn.drew (h : LOwn lo hi w v xs) : LOwn lo hi w.drew v xs := h
theorem LOwn.mono {lo' hi' : Nat} (h : LOwn lo hi w v xs) (hl : lo' ≤ lo) (hh : hi ≤ hi') : LOwn lo' hi' w v xs := LOwn.mk (h.own.mono hl) (fun g e => Nat.lt_of_lt_of_le (h.lt g e) hh)
theorem LOwn.span {l r : Nat} (h : LOwn lo hi w v xs) (hs : Span l r w w') (ho : hi ≤ l ∨ r ≤ lo) : LOwn lo hi w' v xs :=
  LOwn.mk (h.own.span hs (fun g e => by have := h.lt g e; have := (h.own.block g e).1; omega)) h.lt
end
/-- The blocks of a struct's slices. -/
def aggBlocks : Value → List (Option Nat) | .agg cs => cs.toList.map Value.ownBlock | _ => []
/-- Nothing has turned but the blocks rs. -/
structure Touch (rs : List (Option Nat)) (w w' : World) : Prop where
  size : w.heap.size ≤ w'.heap.size
  block : ∀ k, k < w.heap.size → some k ∉ rs → w'.heap[k]? = w.heap[k]?
theorem Touch.of_below {rs : List (Option Nat)} {w w' : World} (h : Below w.heap.size w w') : Touch rs w w' := ⟨h.size, fun k hk _ => h.block k hk⟩
theorem Touch.step {rs : List (Option Nat)} {row : Option Nat} {w w' w2 : World} (h : Touch rs w w') (hg : w'.grownBy w2 row) (hr : row ∈ rs) : Touch rs w w2 :=
  ⟨Nat.le_trans h.size hg.size, fun k hk hn => (hg.block k (Nat.lt_of_lt_of_le hk h.size) (fun e => hn (e ▸ hr))).trans (h.block k hk hn)⟩
/-- The slice u shares no block with the struct v. -/
def Free (u v : Value) : Prop := ∀ g, u.ownBlock = some g → some g ∉ aggBlocks v
theorem LOwn.touch {lo hi : Nat} {w w' : World} {u v : Value} {xs : List Int} (h : LOwn lo hi w u xs) (ht : Touch (aggBlocks v) w w') (hf : Free u v) : LOwn lo hi w' u xs := by
  refine LOwn.mk ⟨h.own.1, ?_⟩ h.lt
  rcases h.own.2 with h2 | ⟨g, cap, cur, rfl, hb, hg, r⟩
  · exact .inl h2
  · exact .inr ⟨g, cap, cur, rfl, hb, (ht.block g (heap_lt hg) (hf g rfl)).trans hg, r⟩
theorem szF_pos {left : Int} {n : Nat} (h : (n : Int) ≤ left) : szF left n = left - n := if_pos h
theorem szF_neg {left : Int} {n : Nat} (h : ¬ (n : Int) ≤ left) : szF left n = -1 := if_neg h
theorem below_setAt {B : Nat} {w w' : World} (h : Below B w w') (b j : Nat) (hb : B ≤ b) (u : Value) : Below B w (w'.setCell ⟨b, j, none⟩ u) := h.setCell (p := ⟨b, j, none⟩) hb u
theorem Own.setAt {α : Type} {base E k : Nat} {enc : α → List Value} {w : World} {v : Value} {xs : List α} (h : Own base E k enc w v xs) (b j : Nat) (hb : b < base) (u : Value) : Own base E k enc (w.setCell ⟨b, j, none⟩ u) v xs := h.set (a := ⟨b, j, none⟩) hb u
end Go.Proofs.YtchlacepeckeaaaDoor
