/- Where a draw stands: since w0 nothing that was there has turned but the reader in block b, which has picked at most N numbers. -/
import Derived.Test.YtbnfhnfnbhigoaaDoorDrawNewSem
namespace Go.Proofs.YtbnfhnfnbhigoaaDoor
open Go.RowKit
set_option linter.unusedSimpArgs false
set_option linter.unusedVariables false

theorem Own.past {α : Type} {base E k b : Nat} {enc : α → List Value} {w w' : World} {v : Value} {xs : List α} (h : Own base E k enc w v xs) (hg : w.grownBy w' (some b)) (hb : b < base) : Own base E k enc w' v xs :=
  h.growns hg (.inr fun e => by have := h.blk b e; omega)
theorem grown_new {w w' : World} {r : Option Nat} (h : w.grownBy w' r) {a : Addr} (ha : w.heap.size ≤ a.block) (u : Value) : w.grownBy (w'.setCell a u) r :=
  ⟨h.os, h.tape, h.output, by simp only [szS]; exact h.size, fun k hk hne => (Below.heap_setCell _ _ _ _ (by omega)).trans (h.block k hk hne)⟩
theorem grown_drew {w w' : World} {r : Option Nat} (h : w.grownBy w' r) : w.grownBy w'.drew r := ⟨h.os, h.tape, h.output, h.size, h.block⟩
theorem grown_at {w w' : World} {b k : Nat} {A : Obj} (h : w.grownBy w' (some b)) (hx : w.heap[k]? = some A) (hne : k ≠ b) : w'.heap[k]? = some A :=
  (h.block k (heap_lt hx) (by simp; omega)).trans hx
theorem grown_at2 {w w' : World} {row : Option Nat} {k : Nat} {A : Obj} (h : w.grownBy w' row) (hx : w.heap[k]? = some A) (hne : row ≠ some k) : w'.heap[k]? = some A :=
  (h.block k (heap_lt hx) (fun e => hne e.symm)).trans hx
theorem alloc_le (w : World) (o : Obj) : w.heap.size ≤ (w.alloc o).heap.size := by simp only [szA]; omega

theorem lit_at {w : World} {H n E : Nat} {cs : Array Value} {fr : Nat × Nat} {xs : List Int} (h : w.heap[H]? = some (.cells cs E fr)) (hcs : cs = (xs.map (Value.int .i64)).toArray) (hl : n = xs.length := by rfl) (hn : xs.length ≤ 1000 := by decide) : IRow w (.slice (some ⟨H, 0, none⟩) n n) xs := by
  subst hcs hl
  refine ⟨_, _, rfl, Nat.le_refl _, by omega, (fun e => by cases e), fun _ => ⟨H, 0, rfl, heap_lt h, fun i x hx j u hu => ?_⟩⟩
  match j, hu with
  | 0, hu =>
    simp only [encI, List.getElem?_cons_zero, Option.some.injEq] at hu
    subst hu
    rw [cell_of_row _ H (0 + i * 1 + 0) _ E fr h]
    simp [hx]
  | j + 1, hu => simp [encI] at hu
structure Dr (w0 : World) (b N : Nat) (w : World) : Prop where
  g : w0.grownBy w (some b)
  r : Rd w b N
  lt : b < w0.heap.size

theorem Dr.start {w : World} {b N : Nat} (h : Rd w b N) : Dr w b N w := ⟨World.grownBy.refl _ _, h, h.lt⟩
theorem Dr.size {w0 w : World} {b N : Nat} (h : Dr w0 b N w) : w0.heap.size ≤ w.heap.size := h.g.size
theorem Dr.alloc {w0 w : World} {b N : Nat} (h : Dr w0 b N w) (o : Obj) : Dr w0 b N (w.alloc o) := ⟨grown_alloc h.g o, h.r.alloc o, h.lt⟩
theorem Dr.drew {w0 w : World} {b N : Nat} (h : Dr w0 b N w) : Dr w0 b N w.drew := ⟨grown_drew h.g, h.r.off (fun _ _ _ h => h), h.lt⟩
theorem Dr.mono {w0 w : World} {b N M : Nat} (h : Dr w0 b N w) (hN : N ≤ M) : Dr w0 b M w := ⟨h.g, h.r.mono hN, h.lt⟩
theorem Dr.below {w0 w w' : World} {b N : Nat} (h : Dr w0 b N w) (hb : Below w.heap.size w w') : Dr w0 b N w' := ⟨grown_later h.g hb, h.r.below hb, h.lt⟩
theorem Dr.step {w0 w w' : World} {b N M : Nat} (h : Dr w0 b N w) (hr : Rd w' b M) (hg : w.grownBy w' (some b)) : Dr w0 b M w' := ⟨h.g.trans hg, hr, h.lt⟩
theorem Dr.then {w0 w w' : World} {b N M : Nat} (h : Dr w0 b N w) (h' : Dr w b M w') : Dr w0 b M w' := ⟨h.g.trans h'.g, h'.r, h.lt⟩
theorem Dr.set {w0 w : World} {b N : Nat} (h : Dr w0 b N w) {a : Addr} (ha : w0.heap.size ≤ a.block) (u : Value) : Dr w0 b N (w.setCell a u) :=
  ⟨grown_new h.g ha u, h.r.off (fun k A hk hx => (Below.heap_setCell _ _ _ _ (by have := h.lt; omega)).trans hx), h.lt⟩
/-- An owned row is written or appended to. -/
theorem Dr.own {w0 w w' : World} {b N : Nat} {row : Option Nat} (h : Dr w0 b N w) (hg : w.grownBy w' row) (hr : ∀ g, row = some g → w0.heap.size ≤ g) : Dr w0 b N w' :=
  ⟨grown_own h.g hg hr, h.r.off (fun k A hk hx => (hg.block k (heap_lt hx) (fun e => by have := hr k e.symm; have := h.lt; omega)).trans hx), h.lt⟩
theorem Dr.fin {w0 w : World} {b N : Nat} (h : Dr w0 b N w) : Rd w b N ∧ w0.grownBy w (some b) := ⟨h.r, h.g⟩
/-- What a box holds behind a step of the reader. -/
theorem Dr.at_ {w w' : World} {b N k : Nat} {A : Obj} (h : Dr w b N w') (hx : w.heap[k]? = some A) (hne : k ≠ b) : w'.heap[k]? = some A := grown_at h.g hx hne
theorem Dr.keep {α : Type} {base E k b N : Nat} {enc : α → List Value} {w w' : World} {v : Value} {xs : List α} (hd : Dr w b N w') (h : Own base E k enc w v xs) (hb : b < base) : Own base E k enc w' v xs := h.past hd.g hb

/-- pick, in these words. -/
theorem pickD (b N : Nat) (n : Int) (w0 w : World) (h : Dr w0 b N w) (hN : N ≤ 1000000) (hn : n ≤ 1000000) :
    Calls Tryd.prog 32 #[.pointer (some ⟨b, 0, none⟩), .int .i64 n] w fun e w' => ∃ x : Int, e = .returned (.int .i64 x) ∧ 0 ≤ x ∧ (x < n ∨ x = 0) ∧ Dr w b (N + 1) w' :=
  (pick_calls b N n w h.r hN hn).mono fun e w' ⟨x, he, h0, h1, hr, hg⟩ => ⟨x, he, h0, h1, (Dr.start h.r).step hr hg⟩
theorem numD (b N : Nat) (lv : Value) (xs : List Int) (w0 w : World) (h : Dr w0 b N w) (hN : N ≤ 1000000) (hl : IRow w lv xs) (hlen : 0 < xs.length ∧ xs.length ≤ 1000) (hne : lv.ownBlock ≠ some b) :
    Calls Tryd.prog 47 #[.pointer (some ⟨b, 0, none⟩), lv] w fun e w' => ∃ x : Int, e = .returned (.int .i64 x) ∧ x ∈ xs ∧ Dr w b (N + 1) w' :=
  (num_calls b N lv xs w h.r hN hl hlen hne).mono fun e w' ⟨x, he, hx, hr, hg⟩ => ⟨x, he, hx, (Dr.start h.r).step hr hg⟩
end Go.Proofs.YtbnfhnfnbhigoaaDoor
