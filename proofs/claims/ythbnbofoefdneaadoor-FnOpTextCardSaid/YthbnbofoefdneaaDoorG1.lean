/- The light texts, one behind the other (merged by mk.py). -/
import Derived.Test.YthbnbofoefdneaaDoorRows
import Derived.WalkKit
import Derived.WalkSpells
import Derived.WalkLawsBesides
import Derived.Deep.QuietTactic
import Derived.BigQuiet
import Derived.Lib.Hide
import Derived.Maps.AppendAt
import Derived.Laws.AppendOwnNone
import Derived.MapKept
import Derived.Carry
import Derived.Deep.RegionHeld3
import Derived.Deep.DrawnRows
import Derived.Deep.LoopGhost
/- Slices that read as lists; slices that a call owns; the laws of append for them. -/
namespace Go.Proofs.YthbnbofoefdneaaDoor
open Go.RowKit
set_option linter.unusedSimpArgs false
set_option linter.unusedVariables false

/-- In w the slice v reads as the list xs: element i lies in k cells, as enc says. -/
def Row {α : Type} (k : Nat) (enc : α → List Value) (w : World) (v : Value) (xs : List α) : Prop :=
  ∃ a cap, v = .slice a xs.length cap ∧ xs.length ≤ cap ∧ cap ≤ 9223372036854775807 ∧ (a = none → cap = 0) ∧
    (0 < xs.length → ∃ b off, a = some ⟨b, off, none⟩ ∧ b < w.heap.size ∧
      ∀ i x, xs[i]? = some x → ∀ j u, (enc x)[j]? = some u → w.cell? ⟨b, off + i * k + j, none⟩ = some u)

def encI (x : Int) : List Value := [.int .i64 x]
def encP (x : Int × Int) : List Value := [.int .i64 x.1, .int .i64 x.2]
/-- A slice of ints. -/
def IRow (w : World) (v : Value) (xs : List Int) : Prop := Row 1 encI w v xs
/-- A slice of structs of two ints. -/
def PRow (w : World) (v : Value) (q : List (Int × Int)) : Prop := Row 2 encP w v q

theorem Row.below {α : Type} {k : Nat} {enc : α → List Value} {w w' : World} {v : Value} {xs : List α} (h : Row k enc w v xs) (hb : Below w.heap.size w w') : Row k enc w' v xs := by
  obtain ⟨a, cap, e, h1, h2, h3, h4⟩ := h
  refine ⟨a, cap, e, h1, h2, h3, fun hn => ?_⟩
  obtain ⟨b, off, e2, hlt, hc⟩ := h4 hn
  exact ⟨b, off, e2, Nat.lt_of_lt_of_le hlt hb.size, fun i x hx j u hu => (hb.cell (p := ⟨b, off + i * k + j, none⟩) hlt).trans (hc i x hx j u hu)⟩
theorem IRow.below {w w' : World} {v : Value} {xs : List Int} (h : IRow w v xs) (hb : Below w.heap.size w w') : IRow w' v xs := Row.below h hb
theorem PRow.below {w w' : World} {v : Value} {q : List (Int × Int)} (h : PRow w v q) (hb : Below w.heap.size w w') : PRow w' v q := Row.below h hb

theorem Row.nil {α : Type} (k : Nat) (enc : α → List Value) (w : World) : Row k enc w (.slice none 0 0) [] :=
  ⟨none, 0, rfl, Nat.le_refl _, by omega, fun _ => rfl, fun h => absurd h (by simp)⟩

/-- What a walk is told of a slice of ints. -/
theorem IRow.look {w : World} {v : Value} {xs : List Int} (h : IRow w v xs) :
    ∃ a cap, v = .slice a xs.length cap ∧ xs.length ≤ cap ∧ cap ≤ 9223372036854775807 ∧
      (0 < xs.length → ∃ b off, a = some ⟨b, off, none⟩ ∧ b < w.heap.size ∧ ∀ i x, xs[i]? = some x → w.cell? ⟨b, off + i, none⟩ = some (.int .i64 x)) := by
  obtain ⟨a, cap, e, h1, h2, h3, h4⟩ := h
  refine ⟨a, cap, e, h1, h2, fun hn => ?_⟩
  obtain ⟨b, off, e2, hlt, hc⟩ := h4 hn
  exact ⟨b, off, e2, hlt, fun i x hx => by simpa using hc i x hx 0 _ rfl⟩
/-- What a walk is told of a slice of pairs. -/
theorem PRow.look {w : World} {v : Value} {q : List (Int × Int)} (h : PRow w v q) :
    ∃ a cap, v = .slice a q.length cap ∧ q.length ≤ cap ∧ cap ≤ 9223372036854775807 ∧
      (0 < q.length → ∃ b off, a = some ⟨b, off, none⟩ ∧ b < w.heap.size ∧
        ∀ i x, q[i]? = some x → w.cell? ⟨b, off + i * 2, none⟩ = some (.int .i64 x.1) ∧ w.cell? ⟨b, off + i * 2 + 1, none⟩ = some (.int .i64 x.2)) := by
  obtain ⟨a, cap, e, h1, h2, h3, h4⟩ := h
  refine ⟨a, cap, e, h1, h2, fun hn => ?_⟩
  obtain ⟨b, off, e2, hlt, hc⟩ := h4 hn
  exact ⟨b, off, e2, hlt, fun i x hx => ⟨by simpa using hc i x hx 0 _ rfl, by simpa using hc i x hx 1 _ rfl⟩⟩

/-- The cells of a row, one behind the other. -/
theorem flat_length {α : Type} {k : Nat} {enc : α → List Value} (hk : ∀ x, (enc x).length = k) (xs : List α) : (xs.flatMap enc).length = xs.length * k := by
  induction xs with
  | nil => simp
  | cons x r ih => simp [hk, ih, Nat.add_mul]; omega
theorem flat_get {α : Type} {k : Nat} {enc : α → List Value} (hk : ∀ x, (enc x).length = k) : ∀ (xs : List α) (i : Nat) (x : α), xs[i]? = some x → ∀ j u, (enc x)[j]? = some u → (xs.flatMap enc)[i * k + j]? = some u
  | [], i, x, h, _, _, _ => by simp at h
  | y :: r, 0, x, h, j, u, hu => by
    simp only [List.getElem?_cons_zero, Option.some.injEq] at h
    subst h
    have hj : j < (enc y).length := by
      rcases Nat.lt_or_ge j (enc y).length with h | h
      · exact h
      · rw [List.getElem?_eq_none h] at hu; cases hu
    simp only [List.flatMap_cons, Nat.zero_mul, Nat.zero_add]
    rw [List.getElem?_append_left hj]; exact hu
  | y :: r, i + 1, x, h, j, u, hu => by
    simp only [List.getElem?_cons_succ] at h
    have ih := flat_get hk r i x h j u hu
    simp only [List.flatMap_cons]
    rw [List.getElem?_append_right (by rw [hk, Nat.add_mul]; omega), hk]
    rw [show (i + 1) * k + j - k = i * k + j by rw [Nat.add_mul]; omega]
    exact ih
theorem flat_get_inv {α : Type} {k : Nat} {enc : α → List Value} (hk : ∀ x, (enc x).length = k) (h0 : 0 < k) {xs : List α} {j : Nat} {u : Value} (h : (xs.flatMap enc)[j]? = some u) :
    ∃ x, xs[j / k]? = some x ∧ (enc x)[j % k]? = some u := by
  have hlt : j < xs.length * k := by
    rw [← flat_length hk xs]
    rcases Nat.lt_or_ge j (xs.flatMap enc).length with h' | h'
    · exact h'
    · rw [List.getElem?_eq_none h'] at h; cases h
  have hd : j / k < xs.length := Nat.div_lt_of_lt_mul (by rw [Nat.mul_comm]; exact hlt)
  have hm : j % k < k := Nat.mod_lt _ h0
  have hx : xs[j / k]? = some xs[j / k] := List.getElem?_eq_getElem hd
  have hu : (enc xs[j / k])[j % k]? = some ((enc xs[j / k])[j % k]'(by rw [hk]; exact hm)) := List.getElem?_eq_getElem _
  have := flat_get hk xs _ _ hx _ _ hu
  rw [show j / k * k + j % k = j by rw [Nat.mul_comm]; exact Nat.div_add_mod j k] at this
  refine ⟨_, hx, ?_⟩
  rw [hu, ← this, h]

/-- The slice v belongs to the call (its block is number base or later) and holds xs. -/
def Own {α : Type} (base : Nat) (E k : Nat) (enc : α → List Value) (w : World) (v : Value) (xs : List α) : Prop :=
  w.ownsRow base E k v xs.length (xs.flatMap enc)

theorem Own.nil {α : Type} (base E k : Nat) (enc : α → List Value) (w : World) : Own base E k enc w (.slice none 0 0) ([] : List α) := World.ownsRow_nil w base E k

theorem Own.row {α : Type} {base E k : Nat} {enc : α → List Value} {w : World} {v : Value} {xs : List α} (hk : ∀ x, (enc x).length = k) (h : Own base E k enc w v xs) : Row k enc w v xs := by
  obtain ⟨h1, h2⟩ := h
  rcases h2 with ⟨rfl, h0⟩ | ⟨g, cap, cur, rfl, hb, hg, hn, hc, hs, ht⟩
  · have : xs = [] := List.eq_nil_of_length_eq_zero h0
    subst this; exact Row.nil k enc w
  · refine ⟨_, _, rfl, hn, by unfold maxLen at hc; omega, fun e => (by cases e), fun _ => ⟨g, 0, rfl, (Array.getElem?_eq_some_iff.1 hg).1, fun i x hx j u hu => ?_⟩⟩
    have h3 := flat_get hk xs i x hx j u hu
    rw [← ht, List.getElem?_take] at h3
    split at h3
    · rw [cell_of_row w g (0 + i * k + j) cur E (0, 0) hg, Nat.zero_add]
      simpa using h3
    · cases h3

theorem Own.kept {α : Type} {base E k : Nat} {enc : α → List Value} {w w' : World} {v : Value} {xs : List α} (h : Own base E k enc w v xs) (hb : Below w.heap.size w w') : Own base E k enc w' v xs := by
  refine ⟨h.1, ?_⟩
  rcases h.2 with h2 | ⟨g, cap, cur, hv, hg, hh, r⟩
  · exact .inl h2
  · exact .inr ⟨g, cap, cur, hv, hg, (hb.block g (Array.getElem?_eq_some_iff.1 hh).1).trans hh, r⟩

/-- The block of an owned slice, if it has one. -/
theorem Own.block {α : Type} {base E k : Nat} {enc : α → List Value} {w : World} {v : Value} {xs : List α} (h : Own base E k enc w v xs) : ∀ g, v.ownBlock = some g → base ≤ g ∧ g < w.heap.size := World.ownsRow.lt h

theorem Own.form {α : Type} {base E k : Nat} {enc : α → List Value} {w : World} {v : Value} {xs : List α} (h : Own base E k enc w v xs) : ∃ ad cap, v = .slice ad xs.length cap := by
  rcases h.2 with ⟨h2, h0⟩ | ⟨g, cap, cur, hv, _⟩
  · exact ⟨none, 0, by rw [h2, h0]⟩
  · exact ⟨_, _, hv⟩

theorem Own.mono {α : Type} {base base' E k : Nat} {enc : α → List Value} {w : World} {v : Value} {xs : List α} (h : Own base E k enc w v xs) (hb : base' ≤ base) : Own base' E k enc w v xs := by
  refine ⟨h.1, ?_⟩
  rcases h.2 with h2 | ⟨g, cap, cur, hv, hg, hh, r⟩
  · exact .inl h2
  · exact .inr ⟨g, cap, cur, hv, by omega, hh, r⟩

theorem Own.set {α : Type} {base E k : Nat} {enc : α → List Value} {w : World} {v : Value} {xs : List α} (h : Own base E k enc w v xs) {a : Addr} (ha : a.block < base) (u : Value) : Own base E k enc (w.setCell a u) v xs := ownsRow_setCell_below h ha u

theorem encI_len (x : Int) : (encI x).length = 1 := rfl
theorem encP_len (x : Int × Int) : (encP x).length = 2 := rfl

/-- What append is told of the slice whose elements it takes. -/
def Src (w : World) (v : Value) (m : Nat) (news : List Value) : Prop :=
  ∃ a c, v = .slice a m c ∧ (a = none → c = 0 ∧ m = 0) ∧ ∀ ad, a = some ad → ∀ j u, news[j]? = some u → w.cell? (ad.add j) = some u

theorem Row.src {α : Type} {k : Nat} {enc : α → List Value} (hk : ∀ x, (enc x).length = k) (h0 : 0 < k) {w : World} {v : Value} {xs : List α} (h : Row k enc w v xs) : Src w v xs.length (xs.flatMap enc) := by
  obtain ⟨a, cap, e, h1, h2, h3, h4⟩ := h
  refine ⟨a, cap, e, fun ha => ⟨h3 ha, by have := h3 ha; omega⟩, fun ad hd j u hu => ?_⟩
  have hlt : j < xs.length * k := by
    rw [← flat_length hk xs]
    rcases Nat.lt_or_ge j (xs.flatMap enc).length with h' | h'
    · exact h'
    · rw [List.getElem?_eq_none h'] at hu; cases hu
  have hn : 0 < xs.length := Nat.pos_of_ne_zero fun e0 => by rw [e0, Nat.zero_mul] at hlt; omega
  obtain ⟨b, off, e2, _, hc⟩ := h4 hn
  rw [e2] at hd
  cases hd
  obtain ⟨x, hx, hu2⟩ := flat_get_inv hk h0 hu
  have := hc _ x hx _ u hu2
  rw [Nat.add_assoc, show j / k * k + j % k = j by rw [Nat.mul_comm]; exact Nat.div_add_mod j k] at this
  rw [Addr.add_lit]; exact this

section
variable {P : Program} (w : World)

/-- append(own, src...), whatever src is. -/
theorem wpList_concat {ops : Array Oper} {rest : List Oper} {o : Oper} {a : Act} {Q : Exit → Act → World → Prop} (hgd : o.guard = none) (s x : Operand) (t : TypeId)
    (ho : o.op = .call { callee := .builtin .append, args := #[s, x], argTypes := #[t, t] })
    (base e : Nat) (z : Value) (size bytes : Nat) (ht : P.underlying t = some (.slice e)) (hinfo : (P.info? e).map (fun i => (i.zero, i.size, i.bytes)) = some (some z, size, bytes)) (hzs : z.cells.size = size) (hsz : 0 < size)
    (v : Value) (n : Nat) (xs : List Value) (hs : a.eval s = v) (hown : w.ownsRow base e size v n xs)
    (sv : Value) (m : Nat) (news : List Value) (hx : a.eval x = sv) (hsrc : Src w sv m news) (hl : news.length = m * size) (h1 : ∀ u ∈ news, u.oneCell' = true)
    (h63 : n + m ≤ 9223372036854775807) (hbytes : (n + m) * bytes ≤ 140737488355328) (hbase : base ≤ w.heap.size)
    (h : ∀ v' w', w'.ownsRow base e size v' (n + m) (xs ++ news) → w.grownBy w' v.ownBlock → (v'.ownBlock = v.ownBlock ∨ v'.ownBlock = some w.heap.size) → wpList P ops Q rest (a.put o.dst v') w') :
    wpList P ops Q (o :: rest) a w := by
  obtain ⟨i, hi, hz, hsize, hby⟩ := info_parts hinfo
  obtain ⟨ad, c, rfl, hnone, hcells⟩ := hsrc
  cases ad with
  | none =>
    obtain ⟨rfl, rfl⟩ := hnone rfl
    have : news = [] := List.eq_nil_of_length_eq_zero (by simpa using hl)
    subst this
    exact wpList_append_own_none hgd s x t ho base e i size ht hi v n xs hs hown hx (h v w (by simpa using hown) (World.grownBy.refl w _) (.inl rfl))
  | some ad =>
    exact wpList_append_own_at w hgd s x t ho base e i z size bytes ht hi hz hsize hby hzs hsz v n xs hs hown ad m c news hx hl (hcells ad rfl) h1 h63 hbytes hbase (fun v' w' a b _ d => h v' w' a b d)

/-- append(own, x) of one element, which lies in the newest block. -/
theorem wpList_push {ops : Array Oper} {rest : List Oper} {o : Oper} {a : Act} {Q : Exit → Act → World → Prop} (hgd : o.guard = none) (s x : Operand) (t : TypeId)
    (ho : o.op = .call { callee := .builtin .append, args := #[s, x], argTypes := #[t, t] })
    (base e : Nat) (z : Value) (size bytes : Nat) (ht : P.underlying t = some (.slice e)) (hinfo : (P.info? e).map (fun i => (i.zero, i.size, i.bytes)) = some (some z, size, bytes)) (hzs : z.cells.size = size) (hsz : 0 < size)
    (v : Value) (n : Nat) (xs : List Value) (hs : a.eval s = v) (hown : w.ownsRow base e size v n xs)
    (news : List Value) (H : Nat) (hx : a.eval x = .slice (some ⟨H, 0, none⟩) 1 1) (hH : w.heap.size = H) (hl : news.length = size) (h1 : ∀ u ∈ news, u.oneCell' = true)
    (hbytes : (n + 1) * bytes ≤ 140737488355328) (hb0 : 0 < bytes) (hbase : base ≤ H)
    (h : ∀ v' w', w'.ownsRow base e size v' (n + 1) (xs ++ news) → (w.alloc (.cells news.toArray e)).grownBy w' v.ownBlock → (v'.ownBlock = v.ownBlock ∨ v'.ownBlock = some (H + 1)) → wpList P ops Q rest (a.put o.dst v') w') :
    wpList P ops Q (o :: rest) a (w.alloc (.cells news.toArray e)) := by
  subst hH
  obtain ⟨i, hi, hz, hsize, hby⟩ := info_parts hinfo
  have hn : n + 1 ≤ 140737488355328 := Nat.le_trans (Nat.le_mul_of_pos_right _ hb0) hbytes
  refine wpList_append_own_at (w.alloc (.cells news.toArray e)) hgd s x t ho base e i z size bytes ht hi hz hsize hby hzs hsz v n xs hs (hown.alloc _) ⟨w.heap.size, 0, none⟩ 1 1 news hx (by omega)
    (fun j u hu => ?_) h1 (by unfold maxLen; omega) hbytes (by simp; omega) (fun v' w' a b _ d => h v' w' a b (by simpa using d))
  rw [Addr.add_lit, cell_of_row _ w.heap.size (0 + j) news.toArray e (0, 0) (heap_alloc_new w _)]
  simpa using hu
end

/-- What a walk wants of a world w1 behind a call: what lay in W lies in w1. -/
theorem after {W w1 : World} (hb : Below W.heap.size W w1) : (∀ b o, b < W.heap.size → w1.cell? ⟨b, o, none⟩ = W.cell? ⟨b, o, none⟩) ∧ (∀ b o, b < W.heap.size → w1.frozen? ⟨b, o, none⟩ = W.frozen? ⟨b, o, none⟩) ∧ W.heap.size ≤ w1.heap.size :=
  ⟨fun b o h => hb.cell (p := ⟨b, o, none⟩) h, fun b o h => hb.frozen (p := ⟨b, o, none⟩) h, hb.size⟩

theorem szA (w : World) (o : Obj) : (w.alloc o).heap.size = w.heap.size + 1 := by simp
theorem szS (w : World) (a : Addr) (u : Value) : (w.setCell a u).heap.size = w.heap.size := by simp [World.setCell]
theorem szD (w : World) : w.drew.heap.size = w.heap.size := rfl
theorem heap_at (w : World) (A : Obj) : (w.alloc A).heap[w.heap.size]? = some A := heap_alloc_new w A
theorem heap_at1 (w : World) (A B : Obj) : ((w.alloc A).alloc B).heap[w.heap.size + 1]? = some B := by
  have := heap_alloc_new (w.alloc A) B
  simpa using this
theorem heap_at2 (w : World) (A B C : Obj) : (((w.alloc A).alloc B).alloc C).heap[w.heap.size + 2]? = some C := by
  have := heap_alloc_new ((w.alloc A).alloc B) C
  simpa using this
theorem heap_lt {w : World} {k : Nat} {A : Obj} (h : w.heap[k]? = some A) : k < w.heap.size := (Array.getElem?_eq_some_iff.1 h).1
theorem heap_up {w : World} {k : Nat} {A B : Obj} (h : w.heap[k]? = some A) : (w.alloc B).heap[k]? = some A := (Below.heap_alloc w B k (heap_lt h)).trans h
theorem below_at {W w1 : World} (hb : Below W.heap.size W w1) {k : Nat} {A : Obj} (h : W.heap[k]? = some A) : w1.heap[k]? = some A := (hb.block k (heap_lt h)).trans h
theorem below_at' {B : Nat} {W w1 : World} (hb : Below B W w1) {k : Nat} {A : Obj} (h : W.heap[k]? = some A) (hk : k < B) : w1.heap[k]? = some A := (hb.block k hk).trans h
section
variable {w : World} {b : Nat} {T : TypeId} {x y z : Value}
theorem box1 (h : w.heap[b]? = some (.cells #[x] T (0, 0))) : w.cell? ⟨b, 0, none⟩ = some x ∧ w.frozen? ⟨b, 0, none⟩ = false :=
  ⟨by simp [World.cell?, h], by simp [World.frozen?, h]⟩
theorem box2 (h : w.heap[b]? = some (.cells #[x, y] T (0, 0))) : w.cell? ⟨b, 0, none⟩ = some x ∧ w.cell? ⟨b, 1, none⟩ = some y ∧ w.frozen? ⟨b, 0, none⟩ = false ∧ w.frozen? ⟨b, 1, none⟩ = false :=
  ⟨by simp [World.cell?, h], by simp [World.cell?, h], by simp [World.frozen?, h], by simp [World.frozen?, h]⟩
theorem box3 (h : w.heap[b]? = some (.cells #[x, y, z] T (0, 0))) : w.cell? ⟨b, 0, none⟩ = some x ∧ w.cell? ⟨b, 1, none⟩ = some y ∧ w.cell? ⟨b, 2, none⟩ = some z ∧
    w.frozen? ⟨b, 0, none⟩ = false ∧ w.frozen? ⟨b, 1, none⟩ = false ∧ w.frozen? ⟨b, 2, none⟩ = false :=
  ⟨by simp [World.cell?, h], by simp [World.cell?, h], by simp [World.cell?, h], by simp [World.frozen?, h], by simp [World.frozen?, h], by simp [World.frozen?, h]⟩
end
/-- A block behind a store into it, and behind a store elsewhere. -/
theorem set_at {w : World} {a : Addr} {b : Nat} {cs : Array Value} {T : TypeId} {fr : Nat × Nat} (h : w.heap[b]? = some (.cells cs T fr)) (ha : a.block = b) (hs : a.spot = none) (u : Value) : (w.setCell a u).heap[b]? = some (.cells (cs.setIfInBounds a.off u) T fr) := by
  subst ha
  simp only [World.setCell, hs]
  rw [Array.getElem?_modify, if_pos rfl, h]
  rfl
theorem set_off {w : World} {a : Addr} {b : Nat} {A : Obj} (h : w.heap[b]? = some A) (ha : a.block ≠ b) (u : Value) : (w.setCell a u).heap[b]? = some A :=
  (Below.heap_setCell w a u b (Ne.symm ha)).trans h

theorem grown_below {base : Nat} {w w' : World} {row : Option Nat} (hg : w.grownBy w' row) (hB : base ≤ w.heap.size) (hr : ∀ k, row = some k → base ≤ k) : Below base w w' :=
  (Below.refl base w).grown hg hB hr

theorem one_int (n : Int) : ∀ u ∈ [Value.int .i64 n], u.oneCell' = true := fun u hu => by simp only [List.mem_singleton] at hu; subst hu; rfl
theorem one_pair (x : Int × Int) : ∀ u ∈ encP x, u.oneCell' = true := fun u hu => by simp only [encP, List.mem_cons, List.not_mem_nil, or_false] at hu; rcases hu with rfl | rfl <;> rfl

/-- A world in which all that lay below block B of w lies as it did. -/
def Later (B : Nat) (w : World) : Type := { x : World // Below B w x }
instance (B : Nat) (w : World) : Nonempty (Later B w) := ⟨⟨w, Below.refl B w⟩⟩
/-- A region that draws its order, whose operations read below block B and whose callees leave all below B as it was and hand back a known value: one walk in the order of the text. -/
theorem wp_region_later {P : Program} {id : Nat} {Q : Exit → Act → World → Prop} {a : Act} {w : World} {l : List Oper} (B : Nat) (hm : P.follows .mixedOrders = true) (hB : Region.lexB .any l.toArray = true)
    (h : wpQuiet P l.toArray (fun w' => ∃ y : Later B w, w' = y.1) (fun a' => ∀ w', (∃ y : Later B w, w' = y.1) → Q .normal a' w') l a) : (Code.region id l.toArray true).wp P Q a w :=
  wp_region_quiet (C := fun w' => ∃ y : Later B w, w' = y.1) hm hB ⟨⟨w.drew, (Below.refl B w).drew⟩, rfl⟩ (by simpa using h)
theorem later_cell {B : Nat} {w : World} {a : Addr} {v : Value} (h : w.cell? a = some v) (ha : a.block < B) : ∀ y : Later B w, y.1.cell? a = some v := fun y => (y.2.cell ha).trans h

theorem later_call {w w' : World} {y : Later w.heap.size w} {v : Value} (h : Below y.1.heap.size y.1 w') : Ending.returned v = .returned v ∧ ∃ z : Later w.heap.size w, w' = z.1 :=
  ⟨rfl, ⟨w', y.2.trans (h.mono y.2.size)⟩, rfl⟩
theorem Row.later {α : Type} {k : Nat} {enc : α → List Value} {w : World} {v : Value} {xs : List α} (h : Row k enc w v xs) (y : Later w.heap.size w) : Row k enc y.1 v xs := h.below y.2
theorem IRow.later {w : World} {v : Value} {xs : List Int} (h : IRow w v xs) (y : Later w.heap.size w) : IRow y.1 v xs := h.below y.2
theorem PRow.later {w : World} {v : Value} {q : List (Int × Int)} (h : PRow w v q) (y : Later w.heap.size w) : PRow y.1 v q := h.below y.2

theorem len_ne {n : Nat} (h : 0 < n) : ((n : Int) == 0) = false := beq_eq_false_iff_ne.2 (by omega)
theorem len_eq {n : Nat} (h : ¬ 0 < n) : ((n : Int) == 0) = true := beq_iff_eq.2 (by omega)

theorem ret_bool {b c : Bool} (h : b = c) : Ending.returned (.bool b) = .returned (.bool c) := by rw [h]
theorem ret_int {b c : Int} (h : b = c) : Ending.returned (.int .i64 b) = .returned (.int .i64 c) := by rw [h]

theorem get_lt {α : Type} {xs : List α} {k : Nat} {x : α} (h : xs[k]? = some x) : k < xs.length := by
  rcases Nat.lt_or_ge k xs.length with h' | h'
  · exact h'
  · rw [List.getElem?_eq_none h'] at h; cases h
theorem get_mem {α : Type} {xs : List α} {k : Nat} {x : α} (h : xs[k]? = some x) : x ∈ xs := List.mem_of_getElem? h
theorem take_snoc {α : Type} {xs : List α} {k : Nat} {x : α} (h : xs[k]? = some x) : xs.take (k + 1) = xs.take k ++ [x] := by
  have hl := get_lt h
  rw [List.getElem?_eq_getElem hl] at h
  cases h
  exact List.take_succ_eq_append_getElem hl
theorem take_all {α : Type} {xs : List α} {k : Nat} (h : xs.length ≤ k) : xs.take k = xs := List.take_of_length_le h
theorem get_ex {α : Type} {xs : List α} {k : Nat} (h : k < xs.length) : ∃ x, xs[k]? = some x := ⟨_, List.getElem?_eq_getElem h⟩

theorem ne_false {α : Type} [DecidableEq α] {p q : List α} {k : Nat} {x y : α} (hx : p[k]? = some x) (hy : q[k]? = some y) (h : x ≠ y) : decide (p = q) = false := by
  simp only [decide_eq_false_iff_not]; intro e; rw [e, hy] at hx; cases hx; exact h rfl
theorem take_eq {α : Type} {p q : List α} {k : Nat} {x y : α} (he : p.take k = q.take k) (hx : p[k]? = some x) (hy : q[k]? = some y) (h : x = y) : p.take (k + 1) = q.take (k + 1) := by
  rw [take_snoc hx, take_snoc hy, he, h]
theorem all_eq {α : Type} [DecidableEq α] {p q : List α} {k : Nat} (hl : p.length = q.length) (hk : p.length ≤ k) (he : p.take k = q.take k) : decide (p = q) = true := by
  rw [take_all hk, take_all (by omega)] at he; simpa using he
theorem len_false {α : Type} [DecidableEq α] {p q : List α} (h : ¬ p.length = q.length) : decide (p = q) = false := by
  simp only [decide_eq_false_iff_not]; intro e; exact h (by rw [e])
theorem len_bne {m n : Nat} (h : m = n) : ((m : Int) != (n : Int)) = false := by simp [h]
theorem len_bne' {m n : Nat} (h : ¬ m = n) : ((m : Int) != (n : Int)) = true := by simp; omega

section
variable {P : Program} (w : World)
/-- append(T(nil), src...): a copy in new memory. -/
theorem wpList_clone {α : Type} {k : Nat} {enc : α → List Value} (hk : ∀ x, (enc x).length = k) (h1 : ∀ x, ∀ u ∈ enc x, u.oneCell' = true)
    {ops : Array Oper} {rest : List Oper} {o : Oper} {a : Act} {Q : Exit → Act → World → Prop} (hgd : o.guard = none) (s x : Operand) (t : TypeId)
    (ho : o.op = .call { callee := .builtin .append, args := #[s, x], argTypes := #[t, t] })
    (e : Nat) (z : Value) (bytes : Nat) (ht : P.underlying t = some (.slice e)) (hinfo : (P.info? e).map (fun i => (i.zero, i.size, i.bytes)) = some (some z, k, bytes)) (hzs : z.cells.size = k) (hsz : 0 < k)
    (hs : a.eval s = .slice none 0 0) (sv : Value) (xs : List α) (hx : a.eval x = sv) (hrow : Row k enc w sv xs) (hb0 : 0 < bytes) (hbytes : xs.length * bytes ≤ 140737488355328)
    (h : ∀ ad cap w', Own w.heap.size e k enc w' (.slice ad xs.length cap) xs → Below w.heap.size w w' → wpList P ops Q rest (a.put o.dst (.slice ad xs.length cap)) w') :
    wpList P ops Q (o :: rest) a w := by
  have hn : xs.length ≤ 140737488355328 := Nat.le_trans (Nat.le_mul_of_pos_right _ hb0) hbytes
  refine wpList_concat w hgd s x t ho w.heap.size e z k bytes ht hinfo hzs hsz (.slice none 0 0) 0 [] hs (World.ownsRow_nil _ _ _ _) sv xs.length (xs.flatMap enc) hx (hrow.src hk hsz)
    (flat_length hk xs) (fun u hu => ?_) (by omega) (by simpa using hbytes) (Nat.le_refl _) (fun v' w' a b _ => by
      have ho : Own w.heap.size e k enc w' v' xs := by simpa [Own] using a
      obtain ⟨ad, cap, rfl⟩ := ho.form
      exact h ad cap w' ho (grown_below b (Nat.le_refl _) (fun g e => by cases e)))
  obtain ⟨y, _, hu⟩ := List.mem_flatMap.1 hu
  exact h1 y u hu
/-- append(T{}, src...): the same behind an empty array. -/
theorem wpList_cloneE {α : Type} {k : Nat} {enc : α → List Value} (hk : ∀ x, (enc x).length = k) (h1 : ∀ x, ∀ u ∈ enc x, u.oneCell' = true)
    {ops : Array Oper} {rest : List Oper} {o : Oper} {a : Act} {Q : Exit → Act → World → Prop} (hgd : o.guard = none) (s x : Operand) (t : TypeId)
    (ho : o.op = .call { callee := .builtin .append, args := #[s, x], argTypes := #[t, t] })
    (e : Nat) (z : Value) (bytes : Nat) (ht : P.underlying t = some (.slice e)) (hinfo : (P.info? e).map (fun i => (i.zero, i.size, i.bytes)) = some (some z, k, bytes)) (hzs : z.cells.size = k) (hsz : 0 < k)
    (H : Nat) (hs : a.eval s = .slice (some ⟨H, 0, none⟩) 0 0) (hH : w.heap.size = H) (sv : Value) (xs : List α) (hx : a.eval x = sv) (hrow : Row k enc w sv xs) (hb0 : 0 < bytes) (hbytes : xs.length * bytes ≤ 140737488355328)
    (h : ∀ ad cap w', Own w.heap.size e k enc w' (.slice ad xs.length cap) xs → Below w.heap.size w w' → wpList P ops Q rest (a.put o.dst (.slice ad xs.length cap)) w') :
    wpList P ops Q (o :: rest) a (w.alloc (.cells #[] e)) := by
  subst hH
  have hn : xs.length ≤ 140737488355328 := Nat.le_trans (Nat.le_mul_of_pos_right _ hb0) hbytes
  have hb : Below w.heap.size w (w.alloc (.cells #[] e)) := (Below.refl _ _).alloc (Nat.le_refl _) _
  refine wpList_concat (w.alloc (.cells #[] e)) hgd s x t ho w.heap.size e z k bytes ht hinfo hzs hsz _ 0 [] hs (World.ownsRow_made w #[] 0 (Nat.le_refl _) (by simp) (by simp)) sv xs.length (xs.flatMap enc) hx ((hrow.below hb).src hk hsz)
    (flat_length hk xs) (fun u hu => ?_) (by omega) (by simpa using hbytes) (by simp) (fun v' w' a b _ => by
      have ho : Own w.heap.size e k enc w' v' xs := by simpa [Own] using a
      obtain ⟨ad, cap, rfl⟩ := ho.form
      exact h ad cap w' ho (hb.trans (grown_below b (by simp) (fun g e => by simp only [Value.ownBlock, Option.some.injEq] at e; omega))))
  obtain ⟨y, _, hu⟩ := List.mem_flatMap.1 hu
  exact h1 y u hu
/-- append(own, x). -/
theorem wpList_snoc {α : Type} {k : Nat} {enc : α → List Value} (hk : ∀ x, (enc x).length = k) (h1 : ∀ x, ∀ u ∈ enc x, u.oneCell' = true)
    {ops : Array Oper} {rest : List Oper} {o : Oper} {a : Act} {Q : Exit → Act → World → Prop} (hgd : o.guard = none) (s x : Operand) (t : TypeId)
    (ho : o.op = .call { callee := .builtin .append, args := #[s, x], argTypes := #[t, t] })
    (e : Nat) (z : Value) (bytes : Nat) (ht : P.underlying t = some (.slice e)) (hinfo : (P.info? e).map (fun i => (i.zero, i.size, i.bytes)) = some (some z, k, bytes)) (hzs : z.cells.size = k) (hsz : 0 < k)
    (base : Nat) (v : Value) (xs : List α) (hs : a.eval s = v) (hown : Own base e k enc w v xs) (y : α) (cs : Array Value) (hcs : cs = (enc y).toArray) (H : Nat) (hx : a.eval x = .slice (some ⟨H, 0, none⟩) 1 1) (hH : w.heap.size = H) (hb0 : 0 < bytes) (hbytes : (xs.length + 1) * bytes ≤ 140737488355328) (hbase : base ≤ H)
    (h : ∀ ad cap w', Own base e k enc w' (.slice ad (xs.length + 1) cap) (xs ++ [y]) → (w.alloc (.cells (enc y).toArray e)).grownBy w' v.ownBlock → ((Value.slice ad (xs.length + 1) cap).ownBlock = v.ownBlock ∨ (Value.slice ad (xs.length + 1) cap).ownBlock = some (H + 1)) → wpList P ops Q rest (a.put o.dst (.slice ad (xs.length + 1) cap)) w') :
    wpList P ops Q (o :: rest) a (w.alloc (.cells cs e)) := by
  subst hcs
  exact wpList_push w hgd s x t ho base e z k bytes ht hinfo hzs hsz v xs.length (xs.flatMap enc) hs hown (enc y) H hx hH (hk y) (h1 y) hbytes hb0 hbase (fun v' w' a b c => by
    have ho : Own base e k enc w' v' (xs ++ [y]) := by simpa [Own] using a
    obtain ⟨ad, cap, hv⟩ := ho.form
    rw [List.length_append, List.length_singleton] at hv
    subst hv
    exact h ad cap w' ho b c)
end
theorem grown_snoc {α : Type} {base e k : Nat} {enc : α → List Value} {w w' : World} {v : Value} {xs : List α} {o : Obj} (hown : Own base e k enc w v xs) (hg : (w.alloc o).grownBy w' v.ownBlock) (hbase : base ≤ w.heap.size) : Below base w w' :=
  ((Below.refl base w).alloc hbase _).trans (grown_below hg (by simp; omega) (fun g e => (hown.block g e).1))
theorem encI_one (x : Int) : ∀ u ∈ encI x, u.oneCell' = true := one_int x

section
variable {P : Program} (w : World)
/-- append(T{}, src...) at a step of a region that draws its order: the empty array is block g. -/
theorem run_cloneAt {α : Type} {k : Nat} {enc : α → List Value} (hk : ∀ x, (enc x).length = k) (h1 : ∀ x, ∀ u ∈ enc x, u.oneCell' = true) (t ty e : TypeId) (z : Value) (bytes : Nat)
    (ht : P.underlying t = some (.slice e)) (hinfo : (P.info? e).map (fun i => (i.zero, i.size, i.bytes)) = some (some z, k, bytes)) (hzs : z.cells.size = k) (hsz : 0 < k)
    (base g : Nat) (hg : w.heap[g]? = some (.cells #[] e (0, 0))) (hbase : base ≤ g) (sv : Value) (xs : List α) (hrow : Row k enc w sv xs) (hb0 : 0 < bytes) (hbytes : xs.length * bytes ≤ 140737488355328) :
    ∃ ad cap w', (Builtin.append_ #[t, t] ty #[.slice (some ⟨g, 0, none⟩) 0 0, sv]).run P w = .ok (.slice ad xs.length cap) w' ∧ Own base e k enc w' (.slice ad xs.length cap) xs ∧ w.grownBy w' (some g) := by
  obtain ⟨i, hi, hz, hsize, hby⟩ := info_parts hinfo
  have hn : xs.length ≤ 140737488355328 := Nat.le_trans (Nat.le_mul_of_pos_right _ hb0) hbytes
  have hlt := heap_lt hg
  have hown : w.ownsRow base e k (.slice (some ⟨g, 0, none⟩) 0 0) 0 [] := ⟨by simp, .inr ⟨g, 0, #[], rfl, hbase, hg, Nat.le_refl _, Nat.zero_le _, by simp, by simp⟩⟩
  have hone : ∀ u ∈ xs.flatMap enc, u.oneCell' = true := fun u hu => by
    obtain ⟨y, _, hu⟩ := List.mem_flatMap.1 hu
    exact h1 y u hu
  obtain ⟨ad, c, rfl, hnone, hcells⟩ := hrow.src hk hsz
  cases ad with
  | none =>
    obtain ⟨rfl, hm⟩ := hnone rfl
    have hx : xs = [] := List.eq_nil_of_length_eq_zero hm
    subst hx
    have hrun := run_append_owned_none (P := P) (w := w) base t ty e i k ht hi _ _ _ hown
    exact ⟨_, _, w, hrun, hown, World.grownBy.refl w _⟩
  | some ad =>
    obtain ⟨v', w', hr, a, b, _, _⟩ := run_append_own_at (P := P) w base t ty e i z k bytes ht hi hz hsize hby hzs hsz _ 0 [] hown ad xs.length c (xs.flatMap enc) (flat_length hk xs) (hcells ad rfl) hone (by unfold maxLen; omega) (by simpa using hbytes) (by omega)
    have ho : Own base e k enc w' v' xs := by simpa [Own] using a
    obtain ⟨ad', cap, rfl⟩ := ho.form
    exact ⟨ad', cap, w', hr, ho, b⟩
theorem step_clone {α : Type} {k : Nat} {enc : α → List Value} (hk : ∀ x, (enc x).length = k) (h1 : ∀ x, ∀ u ∈ enc x, u.oneCell' = true)
    {ops : Array Oper} {o : Oper} {a : Act} {K : Act → World → Prop} {Q : Exit → Act → World → Prop} {E : Prop} (hgd : o.guard = none) (s x : Operand) (t : TypeId)
    (ho : o.op = .call { callee := .builtin .append, args := #[s, x], argTypes := #[t, t] })
    (e : Nat) (z : Value) (bytes : Nat) (ht : P.underlying t = some (.slice e)) (hinfo : (P.info? e).map (fun i => (i.zero, i.size, i.bytes)) = some (some z, k, bytes)) (hzs : z.cells.size = k) (hsz : 0 < k)
    (base g : Nat) (hs : a.eval s = .slice (some ⟨g, 0, none⟩) 0 0) (hg : w.heap[g]? = some (.cells #[] e (0, 0))) (hbase : base ≤ g) (sv : Value) (xs : List α) (hx : a.eval x = sv) (hrow : Row k enc w sv xs) (hb0 : 0 < bytes) (hbytes : xs.length * bytes ≤ 140737488355328)
    (h : ∀ ad cap w', Own base e k enc w' (.slice ad xs.length cap) xs → w.grownBy w' (some g) → K (a.put o.dst (.slice ad xs.length cap)) w') :
    if Region.wanted o (yielded ops a.tmps) = true then Oper.wp P o a w K Q else E := by
  have hw : Region.wanted o (yielded ops a.tmps) = true := by simp [Region.wanted, hgd]
  rw [if_pos hw]
  obtain ⟨ad, cap, w', hr, h2, h3⟩ := run_cloneAt (P := P) w hk h1 t o.type e z bytes ht hinfo hzs hsz base g hg hbase sv xs hrow hb0 hbytes
  unfold Oper.wp execOp
  simp only [ho, resolve, invoke, builtin, Sem.run_bind, Sem.run_pure, Result.andThen_ok, List.map_toArray, List.map_cons, List.map_nil, hs, hx, hr]
  exact h ad cap w' h2 h3
end

/-- Behind 'append(T{}, src...)' within a region that draws. -/
theorem clone_below {W w1 : World} {X : Obj} (hg : (W.alloc X).drew.grownBy w1 (some W.heap.size)) : Below W.heap.size W w1 :=
  (((Below.refl _ _).alloc (Nat.le_refl _) X).drew).trans (grown_below hg (by simp [World.drew]) (fun g e => by cases e; exact Nat.le_refl _))

theorem Own.empty {α : Type} {base E k g : Nat} {enc : α → List Value} {w : World} (hg : w.heap[g]? = some (.cells #[] E (0, 0))) (hb : base ≤ g) : Own base E k enc w (.slice (some ⟨g, 0, none⟩) 0 0) ([] : List α) :=
  ⟨by simp, .inr ⟨g, 0, #[], rfl, hb, hg, Nat.le_refl _, Nat.zero_le _, by simp, by simp⟩⟩

theorem Row.grown {α : Type} {k : Nat} {enc : α → List Value} {w w' : World} {v : Value} {xs : List α} {row : Option Nat} (h : Row k enc w v xs) (hg : w.grownBy w' row) (hne : v.ownBlock = none ∨ v.ownBlock ≠ row) : Row k enc w' v xs := by
  obtain ⟨a, cap, e, h1, h2, h3, h4⟩ := h
  refine ⟨a, cap, e, h1, h2, h3, fun hn => ?_⟩
  obtain ⟨b, off, e2, hlt, hc⟩ := h4 hn
  subst e e2
  have hb := hg.block b hlt (by simpa [Value.ownBlock] using hne)
  exact ⟨b, off, rfl, Nat.lt_of_lt_of_le hlt hg.size, fun i x hx j u hu => (World.cell?_of_block (a := ⟨b, off + i * k + j, none⟩) hb).trans (hc i x hx j u hu)⟩
/-- v[1:], as the walk spells it. -/
theorem Row.tail {α : Type} {k : Nat} {enc : α → List Value} {w : World} {b off cap n : Nat} {x : α} {r : List α} (h : Row k enc w (.slice (some ⟨b, off, none⟩) n cap) (x :: r)) :
    Row k enc w (.slice (if cap = 1 then some ⟨b, off, none⟩ else some ⟨b, off + k, none⟩) r.length (cap - 1)) r := by
  obtain ⟨a, c, e, h1, h2, h3, h4⟩ := h
  simp only [Value.slice.injEq, List.length_cons] at e h1
  obtain ⟨rfl, _, rfl⟩ := e
  refine ⟨_, _, rfl, by omega, by omega, (fun e => by split at e <;> cases e), fun hn => ?_⟩
  obtain ⟨b', off', e2, hlt, hc⟩ := h4 (by simp)
  cases e2
  refine ⟨b, off + k, ?_, hlt, fun i y hy j u hu => ?_⟩
  · rw [if_neg (by omega)]
  · have := hc (i + 1) y (by simpa using hy) j u hu
    rw [show off + k + i * k + j = off + (i + 1) * k + j by rw [Nat.add_mul]; omega]
    exact this
theorem tail_block (k b off n cap : Nat) : (Value.slice (if cap = 1 then some ⟨b, off, none⟩ else some ⟨b, off + k, none⟩) n (cap - 1)).ownBlock = some b := by
  split <;> rfl

theorem grown_of_below {w w' : World} (h : Below w.heap.size w w') (row : Option Nat) : w.grownBy w' row := ⟨h.os, h.tape, h.output, h.size, fun k hk _ => h.block k hk⟩
theorem grown_set {w w' : World} {b : Nat} (h : w.grownBy w' (some b)) {a : Addr} (ha : a.block = b) (u : Value) : w.grownBy (w'.setCell a u) (some b) :=
  ⟨h.os, h.tape, h.output, by rw [szS]; exact h.size, fun k hk hne => (Below.heap_setCell w' a u k (fun e => hne (by rw [e, ha]))).trans (h.block k hk hne)⟩
theorem grown_drewN {w w' : World} {row : Option Nat} (h : w.grownBy w' row) (n : Nat) : w.grownBy (w'.drewN n) row := ⟨h.os, h.tape, h.output, h.size, h.block⟩
theorem grown_alloc {w w' : World} {row : Option Nat} (h : w.grownBy w' row) (o : Obj) : w.grownBy (w'.alloc o) row :=
  h.trans (World.grownBy_alloc w' o row)
theorem grown_later {w w' w2 : World} {b : Nat} (h : w.grownBy w' (some b)) (hb : Below w'.heap.size w' w2) : w.grownBy w2 (some b) := h.trans (grown_of_below hb _)
/-- A row of the call's own is written: nothing that was there at the start but block b has turned. -/
theorem grown_own {w w' w2 : World} {b : Nat} {row : Option Nat} (h : w.grownBy w' (some b)) (hg : w'.grownBy w2 row) (hr : ∀ g, row = some g → w.heap.size ≤ g) : w.grownBy w2 (some b) :=
  ⟨hg.os.trans h.os, hg.tape.trans h.tape, hg.output.trans h.output, Nat.le_trans h.size hg.size, fun k hk hne => (hg.block k (Nat.lt_of_lt_of_le hk h.size) (fun e => by have := hr k e.symm; omega)).trans (h.block k hk hne)⟩
theorem Own.drewN {α : Type} {base E k : Nat} {enc : α → List Value} {w : World} {v : Value} {xs : List α} (h : Own base E k enc w v xs) (n : Nat) : Own base E k enc (w.drewN n) v xs := h
theorem Own.growns {α : Type} {base E k : Nat} {enc : α → List Value} {w w' : World} {v : Value} {xs : List α} {row : Option Nat} (h : Own base E k enc w v xs) (hg : w.grownBy w' row) (hne : v.ownBlock = none ∨ v.ownBlock ≠ row) : Own base E k enc w' v xs := World.ownsRow.kept h hg hne

/-- An owned slice's block is none of another element type. -/
theorem Own.ne {α : Type} {base E k b : Nat} {enc : α → List Value} {w : World} {v : Value} {xs : List α} {cs : Array Value} {T : TypeId} {fr : Nat × Nat} (h : Own base E k enc w v xs) (hb : w.heap[b]? = some (.cells cs T fr)) (hT : T ≠ E) : v.ownBlock ≠ some b := by
  intro e
  rcases h.2 with ⟨rfl, _⟩ | ⟨g, cap, cur, rfl, _, hg, _⟩
  · cases e
  · simp only [Value.ownBlock, Option.some.injEq] at e
    subst e
    rw [hg] at hb
    cases hb
    exact hT rfl
theorem Own.set_off {α : Type} {base E k : Nat} {enc : α → List Value} {w : World} {v : Value} {xs : List α} (h : Own base E k enc w v xs) {a : Addr} (ha : v.ownBlock ≠ some a.block) (u : Value) : Own base E k enc (w.setCell a u) v xs := by
  refine ⟨h.1, ?_⟩
  rcases h.2 with h2 | ⟨g, cap, cur, rfl, hg, hh, r⟩
  · exact .inl h2
  · refine .inr ⟨g, cap, cur, rfl, hg, ?_, r⟩
    rw [Below.heap_setCell _ _ _ _ (fun e => ha (by rw [← e]; rfl))]; exact hh
/-- Two owned slices lie apart. -/
def Apart (v u : Value) : Prop := ∀ k, v.ownBlock = some k → u.ownBlock ≠ some k
theorem Apart.symm {v u : Value} (h : Apart v u) : Apart u v := fun k e1 e2 => h k e2 e1
theorem Apart.nil (u : Value) : Apart (.slice none 0 0) u := fun k e => by cases e
/-- The row v is appended to; u, which lies apart, stays. -/
theorem Own.apart {α : Type} {base E k : Nat} {enc : α → List Value} {w w' : World} {v u : Value} {xs : List α} (h : Own base E k enc w u xs) (hg : w.grownBy w' v.ownBlock) (ha : Apart v u) : Own base E k enc w' u xs :=
  h.growns hg (by
    cases hu : u.ownBlock with
    | none => exact .inl rfl
    | some g => exact .inr fun e => ha g e.symm hu)
/-- .. and lies apart still. -/
theorem Apart.push {v v' u : Value} {n H : Nat} (ha : Apart v u) (hat : v'.ownBlock = v.ownBlock ∨ v'.ownBlock = some n) (hu : ∀ k, u.ownBlock = some k → k < H) (hn : H ≤ n) : Apart v' u := by
  intro k e1 e2
  rcases hat with e | e
  · exact ha k (e ▸ e1) e2
  · have := hu k e2
    rw [e] at e1
    simp only [Option.some.injEq] at e1
    omega
/-- A slice made later lies apart from one that was there. -/
theorem Own.later_apart {α β : Type} {base base' E E' k k' : Nat} {enc : α → List Value} {enc' : β → List Value} {w w' : World} {v u : Value} {xs : List α} {ys : List β} (h : Own base E k enc w u xs) (h' : Own base' E' k' enc' w' v ys) (hb : w.heap.size ≤ base') : Apart v u := by
  intro g e1 e2
  have := (h.block g e2).2
  have := (h'.block g e1).1
  omega
end Go.Proofs.YthbnbofoefdneaaDoor

/- More small laws on owned slices. -/
namespace Go.Proofs.YthbnbofoefdneaaDoor
open Go.RowKit
set_option linter.unusedSimpArgs false
set_option linter.unusedVariables false
theorem Own.alloc {α : Type} {base E k : Nat} {enc : α → List Value} {w : World} {v : Value} {xs : List α} (h : Own base E k enc w v xs) (o : Obj) : Own base E k enc (w.alloc o) v xs := h.kept ((Below.refl _ _).alloc (Nat.le_refl _) o)
/-- What lies below the owned rows lies there behind an append to one of them. -/
theorem push_at {W w1 : World} {base k : Nat} {A X : Obj} {row : Option Nat} (hA : W.heap[k]? = some A) (hg : (W.alloc X).grownBy w1 row) (hr : ∀ g, row = some g → base ≤ g) (hk : k < base) : w1.heap[k]? = some A := by
  rw [hg.block k (by have := heap_lt hA; simp only [szA]; omega) (fun e => by have := hr k e.symm; omega)]
  exact heap_up hA
theorem push_below {B base : Nat} {w W w1 : World} {X : Obj} {row : Option Nat} (hb : Below B w W) (hg : (W.alloc X).grownBy w1 row) (hr : ∀ g, row = some g → base ≤ g) (hB : B ≤ W.heap.size) (hBb : B ≤ base) : Below B w w1 :=
  (hb.alloc hB X).grown hg (by simp only [szA]; omega) (fun k e => Nat.le_trans hBb (hr k e))
theorem Own.blk {α : Type} {base E k : Nat} {enc : α → List Value} {w : World} {v : Value} {xs : List α} (h : Own base E k enc w v xs) : ∀ g, v.ownBlock = some g → base ≤ g := fun g e => (h.block g e).1
theorem push_at2 {W w1 : World} {k : Nat} {A X : Obj} {row : Option Nat} (hA : W.heap[k]? = some A) (hg : (W.alloc X).grownBy w1 row) (hne : row ≠ some k) : w1.heap[k]? = some A := by
  rw [hg.block k (by have := heap_lt hA; simp only [szA]; omega) (fun e => hne e.symm)]
  exact heap_up hA
theorem Own.not_new {α : Type} {base E k : Nat} {enc : α → List Value} {w : World} {v : Value} {xs : List α} (h : Own base E k enc w v xs) {n : Nat} (hn : w.heap.size ≤ n) : v.ownBlock ≠ some n := fun e => by
  have := (h.block n e).2; omega
theorem heap_at' {w : World} {A : Obj} {n : Nat} (h : w.heap.size = n) : (w.alloc A).heap[n]? = some A := by subst h; exact heap_alloc_new w A
end Go.Proofs.YthbnbofoefdneaaDoor

/- A set of integers kept as a map to true that the call itself has made: what a look-up and a store do. -/
namespace Go.Proofs.YthbnbofoefdneaaDoor
open Go.RowKit
set_option linter.unusedSimpArgs false
set_option linter.unusedVariables false

/-- The map's block behind the stores of the (different) numbers l, in this order. -/
def seenFrom : Nat → List Int → List MapEntry
  | _, [] => []
  | n, x :: r => { key := .int .i64 x, val := .bool true, born := n } :: seenFrom (n + 1) r
def seenObj (l : List Int) : Obj := .map (seenFrom 0 l).toArray l.length

theorem seenFrom_snoc (x : Int) : ∀ (l : List Int) (n : Nat), seenFrom n (l ++ [x]) = seenFrom n l ++ [{ key := .int .i64 x, val := .bool true, born := n + l.length }]
  | [], n => rfl
  | y :: r, n => by simp [seenFrom, seenFrom_snoc x r (n + 1), Nat.add_assoc, Nat.add_comm 1]

theorem findNow_seen (x : Int) : ∀ (l : List Int) (n i : Nat), (x ∈ l → ∃ j, Instr.findNow (.int .i64) (.int .i64 x) (seenFrom n l) i = some (some (j, .bool true))) ∧
    (x ∉ l → Instr.findNow (.int .i64) (.int .i64 x) (seenFrom n l) i = some none)
  | [], n, i => by simp [seenFrom, Instr.findNow]
  | y :: r, n, i => by
    have ih := findNow_seen x r (n + 1) (i + 1)
    by_cases h : x = y
    · subst h
      simp [seenFrom, Instr.findNow, Instr.sameNow]
    · simp only [seenFrom, Instr.findNow, Instr.sameNow, if_true, List.mem_cons, h, false_or]
      have hb : (x == y) = false := by simp [h]
      simp only [hb]
      exact ih

section
variable {P : Program} {T K E : TypeId} {w : World} {b : Nat} {l : List Int}

theorem run_seen (ht : P.underlying T = some (.map K E)) (hk : P.underlying K = some (.int .i64)) (hz : ∀ w, (zeroValue E).run P w = .ok (.bool false) w)
    (hb : w.heap[b]? = some (seenObj l)) (x : Int) :
    (Instr.lookup T (.map (some b)) (.int .i64 x) false).run P w = .ok (.bool (decide (x ∈ l))) w := by
  have hget : (getObj b).run P w = .ok (.map (seenFrom 0 l).toArray l.length) w := MapKept.run_getObj_map hb
  have hck := MapKept.run_checkKey (w := w) (k := .int .i64 x) hk rfl (seenFrom 0 l).toArray.isEmpty 9999
  by_cases h : x ∈ l
  · obtain ⟨j, hj⟩ := (findNow_seen x l 0 0).1 h
    have hf : (Instr.findKey K (.int .i64 x) (seenFrom 0 l)).run P w = .ok (some (j, .bool true)) w := MapKept.run_findKey hk hj
    simp only [List.isEmpty_toArray] at hck
    simp [Instr.lookup, run_underlying ht, hget, hck, hf, Result.andThen, h]
  · have hj := (findNow_seen x l 0 0).2 h
    have hf : (Instr.findKey K (.int .i64 x) (seenFrom 0 l)).run P w = .ok none w := MapKept.run_findKey hk hj
    simp only [List.isEmpty_toArray] at hck
    simp [Instr.lookup, run_underlying ht, hget, hck, hf, Result.andThen, h, hz w]

theorem run_see (ht : P.underlying T = some (.map K E)) (hk : P.underlying K = some (.int .i64))
    (hb : w.heap[b]? = some (seenObj l)) (x : Int) (hx : x ∉ l) :
    (Instr.mapUpdate T (.map (some b)) (.int .i64 x) (.bool true)).run P w = .ok () { w with heap := w.heap.setIfInBounds b (seenObj (l ++ [x])) } := by
  have hget : (getObj b).run P w = .ok (.map (seenFrom 0 l).toArray l.length) w := MapKept.run_getObj_map hb
  have hck := MapKept.run_checkKey (w := w) (k := .int .i64 x) hk rfl false 9999
  have hj := (findNow_seen x l 0 0).2 hx
  have hf : (Instr.findKey K (.int .i64 x) (seenFrom 0 l)).run P w = .ok none w := MapKept.run_findKey hk hj
  have hset := MapKept.run_setObj_map (P := P) (w := w) (r := b) (es := (seenFrom 0 l).toArray) (clock := l.length) (seenObj (l ++ [x])) hb
  have he : seenObj (l ++ [x]) = .map ((seenFrom 0 l).toArray.push { key := .int .i64 x, val := .bool true, born := l.length }) (l.length + 1) := by
    simp [seenObj, seenFrom_snoc]
  rw [he] at hset ⊢
  simp [Instr.mapUpdate, run_underlying ht, hget, hck, hf, Result.andThen]
  simp only [List.push_toArray] at hset
  exact hset
end

/-- The world behind such a store. -/
def sawWorld (w : World) (b : Nat) (l : List Int) : World := { w with heap := w.heap.setIfInBounds b (seenObj l) }

theorem saw_at {w : World} {b : Nat} (l : List Int) (h : b < w.heap.size) : (sawWorld w b l).heap[b]? = some (seenObj l) := by
  simp [sawWorld, h]
theorem saw_below {B : Nat} {w0 w : World} {b : Nat} (l : List Int) (h : Below B w0 w) (hb : B ≤ b) : Below B w0 (sawWorld w b l) :=
  h.trans ⟨rfl, rfl, rfl, by simp [sawWorld], fun k hk => by simp only [sawWorld]; rw [Array.getElem?_setIfInBounds]; rw [if_neg (by omega)]⟩
end Go.Proofs.YthbnbofoefdneaaDoor

/- The rows of the program's table of types that the laws of append ask for. -/
namespace Go.Proofs.YthbnbofoefdneaaDoor
theorem info_int : (Tryd.prog.info? 3).map (fun i => (i.zero, i.size, i.bytes)) = some (some (.int .i64 0), 1, 8) := by kernel_rfl
end Go.Proofs.YthbnbofoefdneaaDoor

/- impl.isThread, impl.distinctThreads, spec.l1Thread: what they return. -/
namespace Go.Proofs.YthbnbofoefdneaaDoor
open Go.RowKit
set_option linter.unusedSimpArgs false
set_option linter.unusedVariables false

def Thr (t : Int) : Prop := 0 ≤ t ∧ t < 6
instance (t : Int) : Decidable (Thr t) := by unfold Thr; infer_instance
def thrB (t : Int) : Bool := decide (0 ≤ t) && decide (t < 6)
theorem thrB_true {t : Int} : thrB t = true ↔ Thr t := by simp [thrB, Thr]
theorem thrB_false {t : Int} : thrB t = false ↔ ¬ Thr t := by rw [← thrB_true]; simp
def Distinct (xs : List Int) : Prop := (∀ x ∈ xs, Thr x) ∧ xs.Nodup
instance (xs : List Int) : Decidable (Distinct xs) := by unfold Distinct; infer_instance
def distB (xs : List Int) : Bool := decide (Distinct xs)

theorem Distinct.snoc {xs : List Int} {x : Int} (h : Distinct xs) (ht : thrB x = true) (hn : x ∉ xs) : Distinct (xs ++ [x]) := by
  rw [thrB_true] at ht
  refine ⟨fun y hy => ?_, ?_⟩
  · rcases List.mem_append.1 hy with hy | hy
    · exact h.1 y hy
    · simp only [List.mem_singleton] at hy; subst hy; exact ht
  · rw [List.nodup_append]
    exact ⟨h.2, by simp, fun a ha b hb => by simp only [List.mem_singleton] at hb; subst hb; intro e; exact hn (e ▸ ha)⟩
theorem Distinct.bad_thr {xs : List Int} {k : Nat} {x : Int} (hk : xs[k]? = some x) (ht : thrB x = false) : distB xs = false := by
  rw [thrB_false] at ht
  simp only [distB, decide_eq_false_iff_not]
  exact fun h => ht (h.1 _ (get_mem hk))
theorem Distinct.bad_in {xs : List Int} {k : Nat} {x : Int} (hk : xs[k]? = some x) (hi : x ∈ xs.take k) : distB xs = false := by
  simp only [distB, decide_eq_false_iff_not]
  intro h
  have h2 := h.2
  rw [← List.take_append_drop (k + 1) xs, take_snoc hk, List.append_assoc, List.nodup_append] at h2
  exact h2.2.2 _ hi _ (by simp) rfl

end Go.Proofs.YthbnbofoefdneaaDoor

/- Plain mathematics of semaphores: no program in sight. -/
namespace Go.Proofs.YthbnbofoefdneaaDoor

structure SemD where
  free : Int
  limit : Int
  q : List (Int × Int)
  deriving DecidableEq

def SemD.zero : SemD := ⟨0, 0, []⟩

def HeadOver (f : Int) : List (Int × Int) → Prop
  | [] => True
  | x :: _ => f < x.2
instance (f : Int) (q : List (Int × Int)) : Decidable (HeadOver f q) := by cases q <;> unfold HeadOver <;> infer_instance

def SemHead (f l : Int) (n : Nat) : Prop := 1 ≤ l ∧ l ≤ 9 ∧ 0 ≤ f ∧ f ≤ l ∧ n ≤ 6
instance (f l : Int) (n : Nat) : Decidable (SemHead f l n) := by unfold SemHead; infer_instance

def SemOk (s : SemD) : Prop := SemHead s.free s.limit s.q.length ∧ (∀ x ∈ s.q, 1 ≤ x.2 ∧ x.2 ≤ s.limit) ∧ Distinct (s.q.map (·.1)) ∧ HeadOver s.free s.q
instance (s : SemD) : Decidable (SemOk s) := by unfold SemOk; infer_instance
def semB (s : SemD) : Bool := decide (SemOk s)
theorem semB_true {s : SemD} : semB s = true ↔ SemOk s := by simp [semB]
theorem semB_false {s : SemD} : semB s = false ↔ ¬ SemOk s := by simp [semB]

theorem semB_head {s : SemD} (h : ¬ SemHead s.free s.limit s.q.length) : semB s = false := semB_false.2 fun k => h k.1
theorem semB_cnt {s : SemD} {k : Nat} {x : Int × Int} (hx : s.q[k]? = some x) (h : ¬ (1 ≤ x.2 ∧ x.2 ≤ s.limit)) : semB s = false := semB_false.2 fun hk => h (hk.2.1 x (get_mem hx))
theorem semB_dist {s : SemD} (h : distB (s.q.map (·.1)) = false) : semB s = false := semB_false.2 fun hk => by
  simp only [distB, decide_eq_false_iff_not] at h; exact h hk.2.2.1
theorem semB_over {s : SemD} {x : Int × Int} (hx : s.q[0]? = some x) (h : ¬ s.free < x.2) : semB s = false := semB_false.2 fun hk => by
  have := hk.2.2.2
  cases hq : s.q with
  | nil => rw [hq] at hx; cases hx
  | cons y r => rw [hq] at hx this; cases hx; exact h this
theorem semB_yes {s : SemD} (h1 : SemHead s.free s.limit s.q.length) (h2 : ∀ x ∈ s.q, 1 ≤ x.2 ∧ x.2 ≤ s.limit) (h3 : distB (s.q.map (·.1)) = true) (h4 : ∀ x, s.q[0]? = some x → s.free < x.2) : semB s = true := by
  rw [semB_true]
  refine ⟨h1, h2, by simpa [distB] using h3, ?_⟩
  cases hq : s.q with
  | nil => trivial
  | cons y r => exact h4 y (by rw [hq]; rfl)

/-- The place of a thread among waiters, or -1. -/
def findFrom (t : Int) : Nat → List (Int × Int) → Int
  | _, [] => -1
  | n, x :: r => if x.1 = t then n else findFrom t (n + 1) r
def findW (t : Int) (q : List (Int × Int)) : Int := findFrom t 0 q
theorem findFrom_no {t : Int} : ∀ {q : List (Int × Int)} (n : Nat), (∀ x ∈ q, x.1 ≠ t) → findFrom t n q = -1
  | [], _, _ => rfl
  | x :: r, n, h => by
    simp only [findFrom, if_neg (h x (by simp))]
    exact findFrom_no (n + 1) fun y hy => h y (by simp [hy])
theorem findFrom_at {t : Int} {x : Int × Int} : ∀ {q : List (Int × Int)} (n k : Nat), q[k]? = some x → (∀ y ∈ q.take k, y.1 ≠ t) → x.1 = t → findFrom t n q = ((n + k : Nat) : Int)
  | [], _, _, h, _, _ => by simp at h
  | y :: r, n, 0, h, _, e => by
    simp only [List.getElem?_cons_zero, Option.some.injEq] at h
    subst h
    simp [findFrom, e]
  | y :: r, n, k + 1, h, hn, e => by
    simp only [List.getElem?_cons_succ] at h
    simp only [findFrom, if_neg (hn y (by simp))]
    rw [findFrom_at (n + 1) k h (fun z hz => hn z (by simp [hz])) e]
    congr 1; omega
theorem findW_no {t : Int} {q : List (Int × Int)} (h : ∀ x ∈ q, x.1 ≠ t) : findW t q = -1 := findFrom_no 0 h
theorem findW_at {t : Int} {q : List (Int × Int)} {k : Nat} {x : Int × Int} (h : q[k]? = some x) (hn : ∀ y ∈ q.take k, y.1 ≠ t) (e : x.1 = t) : findW t q = (k : Int) := by
  rw [findW, findFrom_at 0 k h hn e, Nat.zero_add]
theorem all_snoc {α : Type} {P : α → Prop} {q : List α} {k : Nat} {x : α} (hx : q[k]? = some x) (h : ∀ y ∈ q.take k, P y) (hp : P x) : ∀ y ∈ q.take (k + 1), P y := by
  rw [take_snoc hx]
  intro z hz
  rcases List.mem_append.1 hz with hz | hz
  · exact h z hz
  · simp only [List.mem_singleton] at hz; subst hz; exact hp
theorem findW_neg {t : Int} {q : List (Int × Int)} : findW t q < 0 ↔ t ∉ q.map (·.1) := by
  constructor
  · intro h hm
    obtain ⟨x, hx, e⟩ := List.mem_map.1 hm
    have : ∀ (q : List (Int × Int)) (n : Nat), x ∈ q → 0 ≤ findFrom t n q := by
      intro q
      induction q with
      | nil => intro n h; cases h
      | cons y r ih =>
        intro n h
        unfold findFrom
        split
        · omega
        · rcases List.mem_cons.1 h with h | h
          · subst h; contradiction
          · exact ih _ h
    have := this q 0 hx
    unfold findW at h; omega
  · intro h
    rw [findW_no fun x hx e => h (List.mem_map.2 ⟨x, hx, e⟩)]; omega

def newSem (l : Int) : SemD := if 1 ≤ l ∧ l ≤ 9 then ⟨l, l, []⟩ else SemD.zero
def newSemB (l : Int) : Bool := decide (1 ≤ l ∧ l ≤ 9)

/-- Permits are handed on as long as there are enough: what is free, who still waits, who got some. -/
def serve (f : Int) : List (Int × Int) → Int × List (Int × Int) × List Int
  | [] => (f, [], [])
  | x :: r => if x.2 ≤ f then ((serve (f - x.2) r).1, (serve (f - x.2) r).2.1, x.1 :: (serve (f - x.2) r).2.2) else (f, x :: r, [])
end Go.Proofs.YthbnbofoefdneaaDoor

/- Owned slices: elements are written one by one; a made slice is filled; the marks of the exact laws. -/
namespace Go.Proofs.YthbnbofoefdneaaDoor
open Go.RowKit
set_option linter.unusedSimpArgs false
set_option linter.unusedVariables false

theorem Own.open {α : Type} {base E k : Nat} {enc : α → List Value} {w : World} {g o n cap : Nat} {s : Option Nat} {xs : List α} (h : Own base E k enc w (.slice (some ⟨g, o, s⟩) n cap) xs) :
    o = 0 ∧ s = none ∧ n = xs.length ∧ base ≤ g ∧ (xs.flatMap enc).length = n * k ∧ ∃ cur, w.heap[g]? = some (.cells cur E (0, 0)) ∧ n ≤ cap ∧ cap ≤ maxLen ∧ cur.size = cap * k ∧ cur.toList.take (n * k) = xs.flatMap enc := by
  obtain ⟨h1, h2⟩ := h
  rcases h2 with ⟨h2, _⟩ | ⟨g', cap', cur, hv, hb, hg, hn, hc, hs, ht⟩
  · cases h2
  · simp only [Value.slice.injEq, Option.some.injEq, Addr.mk.injEq] at hv
    obtain ⟨⟨rfl, rfl, rfl⟩, rfl, rfl⟩ := hv
    exact ⟨rfl, rfl, rfl, hb, h1, cur, hg, hn, hc, hs, ht⟩
theorem Own.shut {α : Type} {base E k : Nat} {enc : α → List Value} {w : World} {g n cap : Nat} {xs : List α} {cur : Array Value} (hn : n = xs.length) (hb : base ≤ g) (hl : (xs.flatMap enc).length = n * k) (hg : w.heap[g]? = some (.cells cur E (0, 0))) (hc : n ≤ cap) (hm : cap ≤ maxLen) (hs : cur.size = cap * k)
    (ht : cur.toList.take (n * k) = xs.flatMap enc) : Own base E k enc w (.slice (some ⟨g, 0, none⟩) n cap) xs := by
  subst hn
  exact ⟨hl, .inr ⟨g, cap, cur, rfl, hb, hg, hc, hm, hs, ht⟩⟩
/-- An owned slice that is not nil lies in a block. -/
theorem Own.addr {α : Type} {base E k : Nat} {enc : α → List Value} {w : World} {v : Value} {xs : List α} (h : Own base E k enc w v xs) (hn : 0 < xs.length) : ∃ g cap, v = .slice (some ⟨g, 0, none⟩) xs.length cap ∧ base ≤ g ∧ g < w.heap.size := by
  rcases h.2 with ⟨_, h0⟩ | ⟨g, cap, cur, hv, hb, hg, _⟩
  · omega
  · exact ⟨g, cap, hv, hb, heap_lt hg⟩
/-- Its cells, up to its capacity, are there and may be written. -/
theorem Own.room {α : Type} {base E k : Nat} {enc : α → List Value} {w : World} {g o n cap : Nat} {s : Option Nat} {xs : List α} (h : Own base E k enc w (.slice (some ⟨g, o, s⟩) n cap) xs) {i : Nat} (hi : i < cap * k) : (∃ u, w.cell? ⟨g, i, none⟩ = some u) ∧ w.frozen? ⟨g, i, none⟩ = false := by
  obtain ⟨_, _, _, _, _, cur, hg, _, _, hs, _⟩ := h.open
  constructor
  · rw [cell_of_row w g i cur E (0, 0) hg]
    exact ⟨_, Array.getElem?_eq_getElem (by omega)⟩
  · simp [World.frozen?, hg]

theorem take_set_next {cs : List Value} {m : Nat} {u : Value} (h : m < cs.length) : (cs.set m u).take (m + 1) = cs.take m ++ [u] := by
  rw [List.take_add_one, List.getElem?_set_self h, List.take_set_of_le (Nat.le_refl _)]
  rfl
/-- One cell behind the last one is written: an element of one cell. -/
theorem Own.next1 {α : Type} {base E : Nat} {enc : α → List Value} {w : World} {g o n cap : Nat} {s : Option Nat} {xs : List α} {x : α} {u : Value} (h : Own base E 1 enc w (.slice (some ⟨g, o, s⟩) n cap) xs) (hn : n < cap) (he : enc x = [u]) : Own base E 1 enc (w.setCell ⟨g, n, none⟩ u) (.slice (some ⟨g, o, s⟩) (n + 1) cap) (xs ++ [x]) := by
  obtain ⟨rfl, rfl, hl, hb, hf, cur, hg, hc, hm, hs, ht⟩ := h.open
  refine Own.shut (cur := cur.setIfInBounds n u) (by simp; omega) hb (by simp [he, hf]) (set_at (a := ⟨g, n, none⟩) hg rfl rfl u) (by omega) hm (by simpa using hs) ?_
  rw [Array.toList_setIfInBounds, Nat.mul_one, take_set_next (by simp; omega), List.flatMap_append]
  simp only [List.flatMap_cons, List.flatMap_nil, List.append_nil, he]
  rw [Nat.mul_one] at ht
  rw [ht]
theorem Own.next2 {α : Type} {base E : Nat} {enc : α → List Value} {w : World} {g o n cap : Nat} {s : Option Nat} {xs : List α} {x : α} {u u' : Value} (h : Own base E 2 enc w (.slice (some ⟨g, o, s⟩) n cap) xs) (hn : n < cap) (he : enc x = [u, u']) : Own base E 2 enc ((w.setCell ⟨g, n * 2, none⟩ u).setCell ⟨g, n * 2 + 1, none⟩ u') (.slice (some ⟨g, o, s⟩) (n + 1) cap) (xs ++ [x]) := by
  obtain ⟨rfl, rfl, hl, hb, hf, cur, hg, hc, hm, hs, ht⟩ := h.open
  refine Own.shut (cur := (cur.setIfInBounds (n * 2) u).setIfInBounds (n * 2 + 1) u') (by simp; omega) hb (by simp [he, hf]; omega) (set_at (a := ⟨g, n * 2 + 1, none⟩) (set_at (a := ⟨g, n * 2, none⟩) hg rfl rfl u) rfl rfl u') (by omega) hm (by simpa using hs) ?_
  have e : (n + 1) * 2 = (n * 2 + 1) + 1 := by omega
  rw [Array.toList_setIfInBounds, Array.toList_setIfInBounds, e, take_set_next (by simp; omega), take_set_next (by simp; omega), List.flatMap_append, ht]
  simp only [List.flatMap_cons, List.flatMap_nil, List.append_nil, he, List.append_assoc, List.singleton_append]
theorem Own.next3 {α : Type} {base E : Nat} {enc : α → List Value} {w : World} {g o n cap : Nat} {s : Option Nat} {xs : List α} {x : α} {u u' u'' : Value} (h : Own base E 3 enc w (.slice (some ⟨g, o, s⟩) n cap) xs) (hn : n < cap) (he : enc x = [u, u', u'']) : Own base E 3 enc (((w.setCell ⟨g, n * 3, none⟩ u).setCell ⟨g, n * 3 + 1, none⟩ u').setCell ⟨g, n * 3 + 2, none⟩ u'') (.slice (some ⟨g, o, s⟩) (n + 1) cap) (xs ++ [x]) := by
  obtain ⟨rfl, rfl, hl, hb, hf, cur, hg, hc, hm, hs, ht⟩ := h.open
  refine Own.shut (cur := ((cur.setIfInBounds (n * 3) u).setIfInBounds (n * 3 + 1) u').setIfInBounds (n * 3 + 2) u'') (by simp; omega) hb (by simp [he, hf]; omega) (set_at (a := ⟨g, n * 3 + 2, none⟩) (set_at (a := ⟨g, n * 3 + 1, none⟩) (set_at (a := ⟨g, n * 3, none⟩) hg rfl rfl u) rfl rfl u') rfl rfl u'') (by omega) hm (by simpa using hs) ?_
  have e : (n + 1) * 3 = ((n * 3 + 1) + 1) + 1 := by omega
  rw [Array.toList_setIfInBounds, Array.toList_setIfInBounds, Array.toList_setIfInBounds, e, take_set_next (by simp; omega), take_set_next (by simp; omega), take_set_next (by simp; omega), List.flatMap_append, ht]
  simp only [List.flatMap_cons, List.flatMap_nil, List.append_nil, he, List.append_assoc, List.singleton_append, List.cons_append, List.nil_append]

/-- The cells of an element are written anew. -/
theorem flat_set {α : Type} {k : Nat} {enc : α → List Value} (hk : ∀ x, (enc x).length = k) : ∀ (xs : List α) (i : Nat) (x : α), i < xs.length → ∀ (m : Nat), m < (xs.flatMap enc).length → ((xs.set i x).flatMap enc)[m]? = if i * k ≤ m ∧ m < i * k + k then (enc x)[m - i * k]? else (xs.flatMap enc)[m]?
  | [], i, x, h, m, hm => by simp at h
  | y :: r, 0, x, h, m, hm => by
    simp only [List.set_cons_zero, List.flatMap_cons, Nat.zero_mul, Nat.zero_le, true_and, Nat.zero_add, Nat.sub_zero]
    split
    · rename_i hlt; rw [List.getElem?_append_left (by rw [hk]; exact hlt)]
    · rename_i hlt
      rw [List.getElem?_append_right (by rw [hk]; omega), List.getElem?_append_right (by rw [hk]; omega), hk, hk]
  | y :: r, i + 1, x, h, m, hm => by
    simp only [List.set_cons_succ, List.flatMap_cons]
    have hmul : (i + 1) * k = i * k + k := Nat.succ_mul _ _
    rcases Nat.lt_or_ge m k with hlt | hge
    · rw [List.getElem?_append_left (by rw [hk]; exact hlt), List.getElem?_append_left (by rw [hk]; exact hlt), if_neg (by omega)]
    · rw [List.getElem?_append_right (by rw [hk]; exact hge), List.getElem?_append_right (by rw [hk]; exact hge), hk]
      have hl : m - k < (r.flatMap enc).length := by simp only [List.flatMap_cons, List.length_append, hk] at hm; omega
      rw [flat_set hk r i x (by simpa using h) (m - k) hl]
      have e : m - (i + 1) * k = m - k - i * k := by omega
      rw [e]
      by_cases hc : i * k ≤ m - k ∧ m - k < i * k + k
      · rw [if_pos hc, if_pos (by omega)]
      · rw [if_neg hc, if_neg (by omega)]
/-- One cell of element i is written: what the slice then holds. -/
theorem Own.put {α : Type} {base E k : Nat} {enc : α → List Value} (hk : ∀ x, (enc x).length = k) {w : World} {g o n cap : Nat} {s : Option Nat} {xs : List α} (h : Own base E k enc w (.slice (some ⟨g, o, s⟩) n cap) xs) {i j : Nat} {x y : α} {u : Value} (hx : xs[i]? = some x) (hj : j < k) (he : enc y = (enc x).set j u) :
    Own base E k enc (w.setCell ⟨g, i * k + j, none⟩ u) (.slice (some ⟨g, o, s⟩) n cap) (xs.set i y) := by
  obtain ⟨rfl, rfl, hl, hb, hf, cur, hg, hc, hm, hs, ht⟩ := h.open
  have hi := get_lt hx
  have hlen : ((xs.set i y).flatMap enc).length = n * k := by rw [flat_length hk, List.length_set, ← hl]
  refine Own.shut (cur := cur.setIfInBounds (i * k + j) u) (by simp; omega) hb hlen (set_at (a := ⟨g, i * k + j, none⟩) hg rfl rfl u) hc hm (by simpa using hs) ?_
  have hik : i * k + k ≤ n * k := by rw [← Nat.succ_mul]; exact Nat.mul_le_mul_right _ (by omega)
  have hcap : n * k ≤ cap * k := Nat.mul_le_mul_right _ hc
  apply List.ext_getElem?
  intro m
  rcases Nat.lt_or_ge m (n * k) with hlt | hge
  · rw [flat_set hk xs i y hi m (by rw [hf]; exact hlt), List.getElem?_take, if_pos hlt, Array.toList_setIfInBounds, List.getElem?_set]
    have h0 : cur.toList[m]? = (xs.flatMap enc)[m]? := by rw [← ht, List.getElem?_take, if_pos hlt]
    by_cases hmj : i * k + j = m
    · rw [if_pos hmj, if_pos (by simp; omega), if_pos (by omega), he, List.getElem?_set, if_pos (by omega), if_pos (by rw [hk]; exact hj)]
    · rw [if_neg hmj, h0]
      split
      · rename_i hr
        rw [he, List.getElem?_set, if_neg (by omega)]
        have h1 := flat_get hk xs i x hx (m - i * k)
        have hlt2 : m - i * k < (enc x).length := by rw [hk]; omega
        have h2 := h1 _ (List.getElem?_eq_getElem hlt2)
        rw [show i * k + (m - i * k) = m by omega] at h2
        rw [h2, List.getElem?_eq_getElem hlt2]
      · rfl
  · rw [List.getElem?_eq_none (by simp; omega), List.getElem?_eq_none (by rw [hlen]; exact hge)]
theorem Own.put1 {α : Type} {base E : Nat} {enc : α → List Value} (hk : ∀ x, (enc x).length = 1) {w : World} {g o n cap : Nat} {s : Option Nat} {xs : List α} (h : Own base E 1 enc w (.slice (some ⟨g, o, s⟩) n cap) xs) {i : Nat} {y : α} {u : Value} (hi : i < xs.length) (he : enc y = [u]) :
    Own base E 1 enc (w.setCell ⟨g, i, none⟩ u) (.slice (some ⟨g, o, s⟩) n cap) (xs.set i y) := by
  obtain ⟨x, hx⟩ := get_ex hi
  have h1 := hk x
  have := h.put hk (j := 0) (u := u) (y := y) hx (by decide) (by
    rw [he]
    match hxx : enc x, h1 with
    | [a], _ => rfl)
  simpa using this

/-- What the exact laws write over slices. -/
def marksI (q : Int) (n : Nat) : List Int := (List.range n).map fun (i : Nat) => q + (i : Int)
def marksP (q : Int) (n : Nat) : List (Int × Int) := (List.range n).map fun (i : Nat) => (q + 2 * (i : Int), q + 2 * (i : Int) + 1)
theorem marksI_len (q : Int) (n : Nat) : (marksI q n).length = n := by simp [marksI]
theorem marksP_len (q : Int) (n : Nat) : (marksP q n).length = n := by simp [marksP]
theorem marksI_get {q : Int} {n i : Nat} (h : i < n) : (marksI q n)[i]? = some (q + i) := by simp [marksI, h]
theorem marksP_get {q : Int} {n i : Nat} (h : i < n) : (marksP q n)[i]? = some (q + 2 * i, q + 2 * i + 1) := by simp [marksP, h]
theorem marksI_succ (q : Int) (n : Nat) : marksI q (n + 1) = marksI q n ++ [q + n] := by simp [marksI, List.range_succ]
theorem marksP_succ (q : Int) (n : Nat) : marksP q (n + 1) = marksP q n ++ [(q + 2 * n, q + 2 * n + 1)] := by simp [marksP, List.range_succ]
theorem set_mid {α : Type} (l r : List α) (x y : α) (i : Nat) (hi : l.length = i) : (l ++ x :: r).set i y = (l ++ [y]) ++ r := by
  subst hi
  rw [List.set_append_right _ _ (Nat.le_refl _), Nat.sub_self]
  simp
theorem drop_get {α : Type} {xs : List α} {i : Nat} {x : α} (h : xs[i]? = some x) : xs.drop i = x :: xs.drop (i + 1) := by
  have hl := get_lt h
  rw [List.drop_eq_getElem_cons hl]
  rw [List.getElem?_eq_getElem hl] at h
  cases h; rfl

def szF (left : Int) (n : Nat) : Int := if (n : Int) ≤ left then left - n else -1
/-- make([]T, n): a row of n zero elements in a new block, of which none is yet spoken of. -/
theorem run_mk {P : Program} (t e : TypeId) (z : Value) (k bytes : Nat) (ht : P.underlying t = some (.slice e)) (hinfo : (P.info? e).map (fun i => (i.zero, i.size, i.bytes)) = some (some z, k, bytes)) (n : Nat) (hb : (bytes : Int) * n ≤ 281474976710656) (hn : n ≤ 1048576) (w : World) :
    (Instr.makeSlice t (.int .i64 (n : Int)) (.int .i64 (n : Int))).run P w = .ok (.slice (some ⟨w.heap.size, 0, none⟩) n n) (w.alloc (.cells (madeCells z.cells (n * k)) e)) := by
  obtain ⟨i, hi, hz, hsize, hby⟩ := info_parts hinfo
  have := run_make w t e i z ht hi hz .i64 .i64 (n : Int) n (by omega) (Int.le_refl _) (by rw [hby]; exact hb) (by omega)
  simpa [hsize] using this
theorem Own.made {α : Type} {e k : Nat} {enc : α → List Value} (w : World) (z : Array Value) (n : Nat) (hn : n ≤ 1048576) : Own w.heap.size e k enc (w.alloc (.cells (madeCells z (n * k)) e)) (.slice (some ⟨w.heap.size, 0, none⟩) 0 n) ([] : List α) :=
  Own.shut rfl (Nat.le_refl _) (by simp) (heap_at w _) (by omega) (by unfold maxLen; omega) (size_madeCells _ _) (by simp)
theorem Own.free {α : Type} {base E k : Nat} {enc : α → List Value} {w : World} {v : Value} {xs : List α} (h : Own base E k enc w v xs) {g o n cap : Nat} {s : Option Nat} (e : v = .slice (some ⟨g, o, s⟩) n cap) (j : Nat) : w.frozen? ⟨g, j, none⟩ = false := by
  subst e
  obtain ⟨_, _, _, _, _, cur, hg, _⟩ := h.open
  simp [World.frozen?, hg]
end Go.Proofs.YthbnbofoefdneaaDoor

/- Slices of structs of an int and a bool. -/
namespace Go.Proofs.YthbnbofoefdneaaDoor
open Go.RowKit
set_option linter.unusedSimpArgs false
set_option linter.unusedVariables false
def encW (x : Int × Bool) : List Value := [.int .i64 x.1, .bool x.2]
theorem encW_len (x : Int × Bool) : (encW x).length = 2 := rfl
theorem one_want (x : Int × Bool) : ∀ u ∈ encW x, u.oneCell' = true := fun u hu => by simp only [encW, List.mem_cons, List.not_mem_nil, or_false] at hu; rcases hu with rfl | rfl <;> rfl
def WRow (w : World) (v : Value) (q : List (Int × Bool)) : Prop := Row 2 encW w v q
theorem WRow.look {w : World} {v : Value} {q : List (Int × Bool)} (h : WRow w v q) :
    ∃ a cap, v = .slice a q.length cap ∧ q.length ≤ cap ∧ cap ≤ 9223372036854775807 ∧
      (0 < q.length → ∃ b off, a = some ⟨b, off, none⟩ ∧ b < w.heap.size ∧
        ∀ i x, q[i]? = some x → w.cell? ⟨b, off + i * 2, none⟩ = some (.int .i64 x.1) ∧ w.cell? ⟨b, off + i * 2 + 1, none⟩ = some (.bool x.2)) := by
  obtain ⟨a, cap, e, h1, h2, h3, h4⟩ := h
  refine ⟨a, cap, e, h1, h2, fun hn => ?_⟩
  obtain ⟨b, off, e2, hlt, hc⟩ := h4 hn
  exact ⟨b, off, e2, hlt, fun i x hx => ⟨by simpa using hc i x hx 0 _ rfl, by simpa using hc i x hx 1 _ rfl⟩⟩
end Go.Proofs.YthbnbofoefdneaaDoor

/- Functions that compare two slices: what they return (made by gen_eq.py). -/
namespace Go.Proofs.YthbnbofoefdneaaDoor
open Go.RowKit
set_option linter.unusedSimpArgs false
set_option linter.unusedVariables false
end Go.Proofs.YthbnbofoefdneaaDoor

/- The exact laws' helpers on slices of ints: what they do. -/
namespace Go.Proofs.YthbnbofoefdneaaDoor
open Go.RowKit
set_option linter.unusedSimpArgs false
set_option linter.unusedVariables false
end Go.Proofs.YthbnbofoefdneaaDoor

/- Worlds that differ in the blocks from lo up to hi alone. -/
namespace Go.Proofs.YthbnbofoefdneaaDoor
open Go.RowKit
set_option linter.unusedSimpArgs false
set_option linter.unusedVariables false
structure Span (lo hi : Nat) (w w' : World) : Prop where
  os : w'.os = w.os
  tape : w'.tape = w.tape
  output : w'.output = w.output
  size : w.heap.size ≤ w'.heap.size
  block : ∀ k, k < w.heap.size → (k < lo ∨ hi ≤ k) → w'.heap[k]? = w.heap[k]?
theorem Span.below {lo hi B : Nat} {w w' : World} (h : Span lo hi w w') (hB : B ≤ lo) (hw : B ≤ w.heap.size) : Below B w w' := ⟨h.os, h.tape, h.output, h.size, fun k hk => h.block k (by omega) (.inl (by omega))⟩
theorem Span.of_below {lo hi : Nat} {w w' : World} (h : Below w.heap.size w w') : Span lo hi w w' := ⟨h.os, h.tape, h.output, h.size, fun k hk _ => h.block k hk⟩
theorem Span.of_grown {lo hi : Nat} {w w' : World} {row : Option Nat} (h : w.grownBy w' row) (hr : ∀ k, row = some k → lo ≤ k ∧ k < hi) : Span lo hi w w' :=
  ⟨h.os, h.tape, h.output, h.size, fun k hk ho => h.block k hk (fun e => by have := hr k e.symm; omega)⟩
theorem Span.trans {lo hi : Nat} {a b c : World} (h : Span lo hi a b) (k : Span lo hi b c) : Span lo hi a c :=
  ⟨k.os.trans h.os, k.tape.trans h.tape, k.output.trans h.output, Nat.le_trans h.size k.size, fun i hi ho => (k.block i (Nat.lt_of_lt_of_le hi h.size) ho).trans (h.block i hi ho)⟩
theorem Span.box {lo hi k : Nat} {w w' : World} {A : Obj} (h : Span lo hi w w') (hx : w.heap[k]? = some A) (ho : k < lo ∨ hi ≤ k) : w'.heap[k]? = some A := (h.block k (heap_lt hx) ho).trans hx
theorem Own.span {α : Type} {base E k lo hi : Nat} {enc : α → List Value} {w w' : World} {v : Value} {xs : List α} (h : Own base E k enc w v xs) (hs : Span lo hi w w') (ho : ∀ g, v.ownBlock = some g → g < lo ∨ hi ≤ g) : Own base E k enc w' v xs := by
  refine ⟨h.1, ?_⟩
  rcases h.2 with h2 | ⟨g, cap, cur, rfl, hb, hg, r⟩
  · exact .inl h2
  · exact .inr ⟨g, cap, cur, rfl, hb, hs.box hg (ho g rfl), r⟩
/-- Two owned slices of different element types lie apart. -/
theorem Own.apart_types {α β : Type} {base base' E E' k k' : Nat} {enc : α → List Value} {enc' : β → List Value} {w : World} {v u : Value} {xs : List α} {ys : List β} (h : Own base E k enc w v xs) (h' : Own base' E' k' enc' w u ys) (hT : E ≠ E') : Apart v u := by
  intro g e1 e2
  rcases h.2 with ⟨rfl, _⟩ | ⟨g1, c1, cur1, rfl, _, hg1, _⟩
  · cases e1
  · rcases h'.2 with ⟨rfl, _⟩ | ⟨g2, c2, cur2, rfl, _, hg2, _⟩
    · cases e2
    · simp only [Value.ownBlock, Option.some.injEq] at e1 e2
      subst e1 e2
      rw [hg1] at hg2
      cases hg2
      exact hT rfl
theorem grow_at {w w' : World} {k : Nat} {A : Obj} {row : Option Nat} (h : w.grownBy w' row) (hx : w.heap[k]? = some A) (hne : row ≠ some k) : w'.heap[k]? = some A := (h.block k (heap_lt hx) (Ne.symm hne)).trans hx
theorem Own.hi {α : Type} {base E k : Nat} {enc : α → List Value} {w : World} {v : Value} {xs : List α} (h : Own base E k enc w v xs) : ∀ g, v.ownBlock = some g → g < w.heap.size := fun g e => (h.block g e).2
section
variable {w : World} {b : Nat} {T : TypeId} {x y z s t : Value}
theorem box4 (h : w.heap[b]? = some (.cells #[x, y, z, s] T (0, 0))) : w.cell? ⟨b, 0, none⟩ = some x ∧ w.cell? ⟨b, 1, none⟩ = some y ∧ w.cell? ⟨b, 2, none⟩ = some z ∧ w.cell? ⟨b, 3, none⟩ = some s ∧
    w.frozen? ⟨b, 0, none⟩ = false ∧ w.frozen? ⟨b, 1, none⟩ = false ∧ w.frozen? ⟨b, 2, none⟩ = false ∧ w.frozen? ⟨b, 3, none⟩ = false :=
  ⟨by simp [World.cell?, h], by simp [World.cell?, h], by simp [World.cell?, h], by simp [World.cell?, h], by simp [World.frozen?, h], by simp [World.frozen?, h], by simp [World.frozen?, h], by simp [World.frozen?, h]⟩
theorem box5 (h : w.heap[b]? = some (.cells #[x, y, z, s, t] T (0, 0))) : w.cell? ⟨b, 0, none⟩ = some x ∧ w.cell? ⟨b, 1, none⟩ = some y ∧ w.cell? ⟨b, 2, none⟩ = some z ∧ w.cell? ⟨b, 3, none⟩ = some s ∧ w.cell? ⟨b, 4, none⟩ = some t ∧
    w.frozen? ⟨b, 0, none⟩ = false ∧ w.frozen? ⟨b, 1, none⟩ = false ∧ w.frozen? ⟨b, 2, none⟩ = false ∧ w.frozen? ⟨b, 3, none⟩ = false ∧ w.frozen? ⟨b, 4, none⟩ = false :=
  ⟨by simp [World.cell?, h], by simp [World.cell?, h], by simp [World.cell?, h], by simp [World.cell?, h], by simp [World.cell?, h], by simp [World.frozen?, h], by simp [World.frozen?, h], by simp [World.frozen?, h], by simp [World.frozen?, h], by simp [World.frozen?, h]⟩
end
theorem heap_drew {w : World} {k : Nat} {A : Obj} (h : w.heap[k]? = some A) : w.drew.heap[k]? = some A := h
/-- A slice of ints that the call owns, its block from lo on and below hi. -/
def LOwn (lo hi : Nat) (w : World) (v : Value) (xs : List Int) : Prop := ∃ a p, v = .slice a xs.length p ∧ Own lo 3 1 encI w (.slice a xs.length p) xs ∧ (∀ g, (Value.slice a xs.length p).ownBlock = some g → g < hi)
section
variable {lo hi : Nat} {w w' : World} {v : Value} {xs : List Int}
theorem LOwn.own (h : LOwn lo hi w v xs) : Own lo 3 1 encI w v xs := by obtain ⟨a, p, rfl, h, _⟩ := h; exact h
theorem LOwn.row (h : LOwn lo hi w v xs) : IRow w v xs := h.own.row encI_len
theorem LOwn.lt (h : LOwn lo hi w v xs) : ∀ g, v.ownBlock = some g → g < hi := by obtain ⟨a, p, rfl, _, h⟩ := h; exact h
theorem LOwn.of (h : Own lo 3 1 encI w v xs) (hh : w.heap.size ≤ hi) : LOwn lo hi w v xs := by
  obtain ⟨a, p, rfl⟩ := h.form
  exact ⟨a, p, rfl, h, fun g e => Nat.lt_of_lt_of_le (h.hi g e) hh⟩
theorem LOwn.mk (h : Own lo 3 1 encI w v xs) (hh : ∀ g, v.ownBlock = some g → g < hi) : LOwn lo hi w v xs := by
  obtain ⟨a, p, rfl⟩ := h.form
  exact ⟨a, p, rfl, h, hh⟩
theorem LOwn.kept (h : LOwn lo hi w v xs) (hb : Below w.heap.size w w') : LOwn lo hi w' v xs := LOwn.mk (h.own.kept hb) h.lt
theorem LOwn.alloc (h : LOwn lo hi w v xs) (o : Obj) : LOwn lo hi (w.alloc o) v xs := h.kept ((Below.refl _ _).alloc (Nat.le_refl _) o)
theorem LOwn.drew (h : LOwn lo hi w v xs) : LOwn lo hi w.drew v xs := h
theorem LOwn.mono {lo' hi' : Nat} (h : LOwn lo hi w v xs) (hl : lo' ≤ lo) (hh : hi ≤ hi') : LOwn lo' hi' w v xs := LOwn.mk (h.own.mono hl) (fun g e => Nat.lt_of_lt_of_le (h.lt g e) hh)
theorem LOwn.span {l r : Nat} (h : LOwn lo hi w v xs) (hs : Span l r w w') (ho : hi ≤ l ∨ r ≤ lo) : LOwn lo hi w' v xs :=
  LOwn.mk (h.own.span hs (fun g e => by have := h.lt g e; have := (h.own.block g e).1; omega)) h.lt
end
/-- The blocks of a struct's slices. -/
def aggBlocks : Value → List (Option Nat) | .agg cs => cs.toList.map Value.ownBlock | _ => []
/-- Nothing has turned but the blocks rs. -/
structure Touch (rs : List (Option Nat)) (w w' : World) : Prop where
  size : w.heap.size ≤ w'.heap.size
  block : ∀ k, k < w.heap.size → some k ∉ rs → w'.heap[k]? = w.heap[k]?
theorem Touch.of_below {rs : List (Option Nat)} {w w' : World} (h : Below w.heap.size w w') : Touch rs w w' := ⟨h.size, fun k hk _ => h.block k hk⟩
theorem Touch.step {rs : List (Option Nat)} {row : Option Nat} {w w' w2 : World} (h : Touch rs w w') (hg : w'.grownBy w2 row) (hr : row ∈ rs) : Touch rs w w2 :=
  ⟨Nat.le_trans h.size hg.size, fun k hk hn => (hg.block k (Nat.lt_of_lt_of_le hk h.size) (fun e => hn (e ▸ hr))).trans (h.block k hk hn)⟩
/-- The slice u shares no block with the struct v. -/
def Free (u v : Value) : Prop := ∀ g, u.ownBlock = some g → some g ∉ aggBlocks v
theorem LOwn.touch {lo hi : Nat} {w w' : World} {u v : Value} {xs : List Int} (h : LOwn lo hi w u xs) (ht : Touch (aggBlocks v) w w') (hf : Free u v) : LOwn lo hi w' u xs := by
  refine LOwn.mk ⟨h.own.1, ?_⟩ h.lt
  rcases h.own.2 with h2 | ⟨g, cap, cur, rfl, hb, hg, r⟩
  · exact .inl h2
  · exact .inr ⟨g, cap, cur, rfl, hb, (ht.block g (heap_lt hg) (hf g rfl)).trans hg, r⟩
theorem szF_pos {left : Int} {n : Nat} (h : (n : Int) ≤ left) : szF left n = left - n := if_pos h
theorem szF_neg {left : Int} {n : Nat} (h : ¬ (n : Int) ≤ left) : szF left n = -1 := if_neg h
theorem below_setAt {B : Nat} {w w' : World} (h : Below B w w') (b j : Nat) (hb : B ≤ b) (u : Value) : Below B w (w'.setCell ⟨b, j, none⟩ u) := h.setCell (p := ⟨b, j, none⟩) hb u
theorem Own.setAt {α : Type} {base E k : Nat} {enc : α → List Value} {w : World} {v : Value} {xs : List α} (h : Own base E k enc w v xs) (b j : Nat) (hb : b < base) (u : Value) : Own base E k enc (w.setCell ⟨b, j, none⟩ u) v xs := h.set (a := ⟨b, j, none⟩) hb u
end Go.Proofs.YthbnbofoefdneaaDoor

/- Marking a slice of ints, in the words of the laws. -/
namespace Go.Proofs.YthbnbofoefdneaaDoor
open Go.RowKit
set_option linter.unusedSimpArgs false
set_option linter.unusedVariables false
end Go.Proofs.YthbnbofoefdneaaDoor

/- Slices of structs of three ints (operations), and slices of such slices (threads). -/
namespace Go.Proofs.YthbnbofoefdneaaDoor
open Go.RowKit
set_option linter.unusedSimpArgs false
set_option linter.unusedVariables false
abbrev OpT := Int × Int × Int
def encT (x : OpT) : List Value := [.int .i64 x.1, .int .i64 x.2.1, .int .i64 x.2.2]
theorem encT_len (x : OpT) : (encT x).length = 3 := rfl
theorem one_trip (x : OpT) : ∀ u ∈ encT x, u.oneCell' = true := fun u hu => by simp only [encT, List.mem_cons, List.not_mem_nil, or_false] at hu; rcases hu with rfl | rfl | rfl <;> rfl
def TRow (w : World) (v : Value) (q : List OpT) : Prop := Row 3 encT w v q
theorem TRow.look {w : World} {v : Value} {q : List OpT} (h : TRow w v q) :
    ∃ a cap, v = .slice a q.length cap ∧ q.length ≤ cap ∧ cap ≤ 9223372036854775807 ∧
      (0 < q.length → ∃ b off, a = some ⟨b, off, none⟩ ∧ b < w.heap.size ∧
        ∀ i x, q[i]? = some x → w.cell? ⟨b, off + i * 3, none⟩ = some (.int .i64 x.1) ∧ w.cell? ⟨b, off + i * 3 + 1, none⟩ = some (.int .i64 x.2.1) ∧ w.cell? ⟨b, off + i * 3 + 2, none⟩ = some (.int .i64 x.2.2)) := by
  obtain ⟨a, cap, e, h1, h2, h3, h4⟩ := h
  refine ⟨a, cap, e, h1, h2, fun hn => ?_⟩
  obtain ⟨b, off, e2, hlt, hc⟩ := h4 hn
  exact ⟨b, off, e2, hlt, fun i x hx => ⟨by simpa using hc i x hx 0 _ rfl, by simpa using hc i x hx 1 _ rfl, by simpa using hc i x hx 2 _ rfl⟩⟩
/-- A slice's three words. -/
abbrev SV := Option Addr × Nat × Nat
def sval (s : SV) : Value := .slice s.1 s.2.1 s.2.2
def encS (s : SV) : List Value := [.slice s.1 s.2.1 s.2.2]
theorem encS_len (x : SV) : (encS x).length = 1 := rfl
theorem one_sv (x : SV) : ∀ u ∈ encS x, u.oneCell' = true := fun u hu => by simp only [encS, List.mem_cons, List.not_mem_nil, or_false] at hu; subst hu; rfl
/-- Each of the slices reads as its list. -/
def Inner (w : World) (us : List SV) (ts : List (List OpT)) : Prop := us.length = ts.length ∧ ∀ (i : Nat) (u : SV) (t : List OpT), us[i]? = some u → ts[i]? = some t → u.2.1 = t.length ∧ TRow w (sval u) t
/-- In w the value v reads as the lists ts. -/
def TTRow (w : World) (v : Value) (ts : List (List OpT)) : Prop := ∃ us, Row 1 encS w v us ∧ Inner w us ts
theorem Inner.below {w w' : World} {us : List SV} {ts : List (List OpT)} (h : Inner w us ts) (hb : Below w.heap.size w w') : Inner w' us ts :=
  ⟨h.1, fun i u t hu ht => ⟨(h.2 i u t hu ht).1, Row.below (h.2 i u t hu ht).2 hb⟩⟩
theorem TTRow.below {w w' : World} {v : Value} {ts : List (List OpT)} (h : TTRow w v ts) (hb : Below w.heap.size w w') : TTRow w' v ts := by
  obtain ⟨us, h1, h2⟩ := h
  exact ⟨us, h1.below hb, h2.below hb⟩
theorem TTRow.look {w : World} {v : Value} {ts : List (List OpT)} (h : TTRow w v ts) :
    ∃ a cap, v = .slice a ts.length cap ∧ ts.length ≤ cap ∧ cap ≤ 9223372036854775807 ∧
      (0 < ts.length → ∃ b off, a = some ⟨b, off, none⟩ ∧ b < w.heap.size ∧
        ∀ i t, ts[i]? = some t → ∃ c d, w.cell? ⟨b, off + i, none⟩ = some (.slice c t.length d) ∧ TRow w (.slice c t.length d) t) := by
  obtain ⟨us, ⟨a, cap, e, h1, h2, h3, h4⟩, hl, hi⟩ := h
  rw [hl] at e h1
  refine ⟨a, cap, e, h1, h2, fun hn => ?_⟩
  obtain ⟨b, off, e2, hlt, hc⟩ := h4 (by omega)
  refine ⟨b, off, e2, hlt, fun i t ht => ?_⟩
  have hilt := get_lt ht
  obtain ⟨u, hu⟩ := get_ex (show i < us.length by omega)
  obtain ⟨k1, k2⟩ := hi i u t hu ht
  obtain ⟨u0, u1, u2⟩ := u
  simp only at k1
  subst k1
  exact ⟨u0, u2, by simpa [encS] using hc i _ hu 0 _ rfl, k2⟩
/-- The slices' blocks lie from lo on. -/
def InnerOwn (lo : Nat) (w : World) (us : List SV) (ts : List (List OpT)) : Prop := us.length = ts.length ∧ ∀ (i : Nat) (u : SV) (t : List OpT), us[i]? = some u → ts[i]? = some t → u.2.1 = t.length ∧ Own lo 23 3 encT w (sval u) t
theorem InnerOwn.inner {lo : Nat} {w : World} {us : List SV} {ts : List (List OpT)} (h : InnerOwn lo w us ts) : Inner w us ts :=
  ⟨h.1, fun i u t hu ht => ⟨(h.2 i u t hu ht).1, (h.2 i u t hu ht).2.row encT_len⟩⟩
theorem InnerOwn.kept {lo : Nat} {w w' : World} {us : List SV} {ts : List (List OpT)} (h : InnerOwn lo w us ts) (hb : Below w.heap.size w w') : InnerOwn lo w' us ts :=
  ⟨h.1, fun i u t hu ht => ⟨(h.2 i u t hu ht).1, (h.2 i u t hu ht).2.kept hb⟩⟩
theorem InnerOwn.set {lo : Nat} {w : World} {us : List SV} {ts : List (List OpT)} (h : InnerOwn lo w us ts) {a : Addr} (ha : a.block < lo) (u : Value) : InnerOwn lo (w.setCell a u) us ts :=
  ⟨h.1, fun i x t hu ht => ⟨(h.2 i x t hu ht).1, (h.2 i x t hu ht).2.set ha u⟩⟩
theorem InnerOwn.nil {lo : Nat} {w : World} : InnerOwn lo w [] [] := ⟨rfl, fun i u t hu _ => by cases hu⟩
theorem InnerOwn.snoc {lo : Nat} {w : World} {us : List SV} {ts : List (List OpT)} {a : Option Addr} {c : Nat} {t : List OpT} (h : InnerOwn lo w us ts) (ht : Own lo 23 3 encT w (.slice a t.length c) t) : InnerOwn lo w (us ++ [(a, t.length, c)]) (ts ++ [t]) := by
  refine ⟨by simp [h.1], fun i u x hu hx => ?_⟩
  rcases Nat.lt_or_ge i us.length with hi | hi
  · rw [List.getElem?_append_left hi] at hu
    rw [List.getElem?_append_left (by rw [← h.1]; exact hi)] at hx
    exact h.2 i u x hu hx
  · rw [List.getElem?_append_right hi] at hu
    rw [List.getElem?_append_right (by rw [← h.1]; exact hi)] at hx
    have e : i - us.length = 0 := by have := get_lt hu; simp at this; omega
    rw [e] at hu
    rw [← h.1, e] at hx
    simp only [List.getElem?_cons_zero, Option.some.injEq] at hu hx
    subst hu hx
    exact ⟨rfl, ht⟩
theorem InnerOwn.mono {lo lo' : Nat} {w : World} {us : List SV} {ts : List (List OpT)} (h : InnerOwn lo w us ts) (hl : lo' ≤ lo) : InnerOwn lo' w us ts :=
  ⟨h.1, fun i u t hu ht => ⟨(h.2 i u t hu ht).1, (h.2 i u t hu ht).2.mono hl⟩⟩
/-- .. and its blocks are the call's own: they lie from lo on. -/
def TTOwn (lo : Nat) (w : World) (v : Value) (ts : List (List OpT)) : Prop := ∃ us, Own lo 74 1 encS w v us ∧ InnerOwn lo w us ts
theorem TTOwn.row {lo : Nat} {w : World} {v : Value} {ts : List (List OpT)} (h : TTOwn lo w v ts) : TTRow w v ts := by
  obtain ⟨us, h1, h2⟩ := h; exact ⟨us, h1.row encS_len, h2.inner⟩
theorem TTOwn.set {lo : Nat} {w : World} {v : Value} {ts : List (List OpT)} (h : TTOwn lo w v ts) {a : Addr} (ha : a.block < lo) (u : Value) : TTOwn lo (w.setCell a u) v ts := by
  obtain ⟨us, h1, h2⟩ := h; exact ⟨us, h1.set ha u, h2.set ha u⟩
theorem TTOwn.mono {lo lo' : Nat} {w : World} {v : Value} {ts : List (List OpT)} (h : TTOwn lo w v ts) (hl : lo' ≤ lo) : TTOwn lo' w v ts := by
  obtain ⟨us, h1, h2⟩ := h; exact ⟨us, h1.mono hl, h2.mono hl⟩
theorem TTOwn.form {lo : Nat} {w : World} {v : Value} {ts : List (List OpT)} (h : TTOwn lo w v ts) : ∃ a c, v = .slice a ts.length c := by
  obtain ⟨us, h1, h2⟩ := h
  obtain ⟨a, c, rfl⟩ := h1.form
  exact ⟨a, c, by rw [h2.1]⟩
end Go.Proofs.YthbnbofoefdneaaDoor

/- Values, places in a list of ints, lists of different threads (spec.l2Waits), copies of lists: what they return. -/
namespace Go.Proofs.YthbnbofoefdneaaDoor
open Go.RowKit
set_option linter.unusedSimpArgs false
set_option linter.unusedVariables false
theorem Row.pre {α : Type} {k n c : Nat} {enc : α → List Value} {w : World} {a : Option Addr} {xs : List α} (h : Row k enc w (.slice a xs.length c) xs) (hn : n ≤ xs.length) : Row k enc w (.slice a n c) (xs.take n) := by
  obtain ⟨a', cap, e, h1, h2, h3, h4⟩ := h
  simp only [Value.slice.injEq] at e
  obtain ⟨rfl, _, rfl⟩ := e
  have hl : (xs.take n).length = n := by simp; omega
  refine ⟨a, c, by rw [hl], by omega, h2, h3, fun hp => ?_⟩
  obtain ⟨b, off, e2, hlt, hc⟩ := h4 (by omega)
  refine ⟨b, off, e2, hlt, fun i x hx => hc i x ?_⟩
  rw [List.getElem?_take] at hx
  split at hx
  · exact hx
  · cases hx
theorem nodup_six : ∀ (n : Nat) (xs : List Int), xs.Nodup → (∀ x ∈ xs, 0 ≤ x ∧ x < (n : Int)) → xs.length ≤ n
  | 0, xs, _, h => by
    cases xs with
    | nil => simp
    | cons x r => have := h x (by simp); omega
  | n + 1, xs, hn, h => by
    have hl : (xs.erase (n : Int)).length ≤ n := nodup_six n _ (hn.erase _) fun x hx => by
      have h1 := (List.Nodup.mem_erase_iff hn).1 hx
      have h2 := h x h1.2
      have h3 := h1.1
      omega
    rw [List.length_erase] at hl
    split at hl <;> omega
theorem Distinct.six {xs : List Int} (h : Distinct xs) : xs.length ≤ 6 := nodup_six 6 xs h.2 fun x hx => by
  have := h.1 x hx; unfold Thr at this; omega

def Val (x : Int) : Prop := 0 ≤ x ∧ x ≤ 99
instance (t : Int) : Decidable (Val t) := by unfold Val; infer_instance
def valB (x : Int) : Bool := decide (0 ≤ x) && decide (x ≤ 99)
theorem valB_true {t : Int} : valB t = true ↔ Val t := by simp [valB, Val]
theorem valB_false {t : Int} : valB t = false ↔ ¬ Val t := by rw [← valB_true]; simp
theorem isValue_calls (t : Int) (w : World) :
    Calls Tryd.prog 30 #[.int .i64 t] w fun e w' => e = .returned (.bool (valB t)) ∧ w = w' := by
  by_cases h : 0 ≤ t
  all_goals
    go_enter Tryd.func30, Tryd.ntmps30
    go_wp2
    all_goals go_ret
    all_goals exact ⟨ret_bool (by first | (simp [valB, h]; done) | (simp [valB]; omega)), rfl⟩
theorem l2Value_calls (t : Int) (w : World) :
    Calls Tryd.prog 41 #[.int .i64 t] w fun e w' => e = .returned (.bool (valB t)) ∧ w = w' := by
  by_cases h : 0 ≤ t
  all_goals
    go_enter Tryd.func41, Tryd.ntmps41
    go_wp2
    all_goals go_ret
    all_goals exact ⟨ret_bool (by first | (simp [valB, h]; done) | (simp [valB]; omega)), rfl⟩

/-- The place of a number in a list, or -1. -/
def placeFrom (t : Int) : Nat → List Int → Int
  | _, [] => -1
  | n, x :: r => if x = t then n else placeFrom t (n + 1) r
def place (t : Int) (q : List Int) : Int := placeFrom t 0 q
theorem placeFrom_no {t : Int} : ∀ {q : List Int} (n : Nat), (∀ x ∈ q, x ≠ t) → placeFrom t n q = -1
  | [], _, _ => rfl
  | x :: r, n, h => by
    simp only [placeFrom, if_neg (h x (by simp))]
    exact placeFrom_no (n + 1) fun y hy => h y (by simp [hy])
theorem placeFrom_at {t : Int} {x : Int} : ∀ {q : List Int} (n k : Nat), q[k]? = some x → (∀ y ∈ q.take k, y ≠ t) → x = t → placeFrom t n q = ((n + k : Nat) : Int)
  | [], _, _, h, _, _ => by simp at h
  | y :: r, n, 0, h, _, e => by
    simp only [List.getElem?_cons_zero, Option.some.injEq] at h
    subst h
    simp [placeFrom, e]
  | y :: r, n, k + 1, h, hn, e => by
    simp only [List.getElem?_cons_succ] at h
    simp only [placeFrom, if_neg (hn y (by simp))]
    rw [placeFrom_at (n + 1) k h (fun z hz => hn z (by simp [hz])) e]
    congr 1; omega
theorem place_no {t : Int} {q : List Int} (h : ∀ x ∈ q, x ≠ t) : place t q = -1 := placeFrom_no 0 h
theorem place_at {t : Int} {q : List Int} {k : Nat} {x : Int} (h : q[k]? = some x) (hn : ∀ y ∈ q.take k, y ≠ t) (e : x = t) : place t q = (k : Int) := by
  rw [place, placeFrom_at 0 k h hn e, Nat.zero_add]
theorem place_in {t : Int} {q : List Int} (h : t ∈ q) : 0 ≤ place t q := by
  have : ∀ (q : List Int) (n : Nat), t ∈ q → 0 ≤ placeFrom t n q := by
    intro q
    induction q with
    | nil => intro n h; cases h
    | cons y r ih =>
      intro n h
      unfold placeFrom
      split
      · omega
      · rcases List.mem_cons.1 h with h | h
        · subst h; contradiction
        · exact ih _ h
  exact this q 0 h
theorem place_out {t : Int} {q : List Int} (h : t ∉ q) : place t q = -1 := place_no fun x hx e => h (e ▸ hx)
theorem place_lt {t : Int} {q : List Int} : place t q < q.length := by
  have : ∀ (q : List Int) (n : Nat), placeFrom t n q < ((n + q.length : Nat) : Int) := by
    intro q
    induction q with
    | nil => intro n; simp only [placeFrom]; omega
    | cons y r ih =>
      intro n
      unfold placeFrom
      split
      · simp only [List.length_cons]; omega
      · have := ih (n + 1); simp only [List.length_cons]; omega
  have := this q 0
  simpa [place] using this
end Go.Proofs.YthbnbofoefdneaaDoor

/- append(own, src...), src whatever row. -/
namespace Go.Proofs.YthbnbofoefdneaaDoor
open Go.RowKit
set_option linter.unusedSimpArgs false
set_option linter.unusedVariables false
section
variable {P : Program} (w : World)
theorem run_joinAt {α : Type} {k : Nat} {enc : α → List Value} (hk : ∀ x, (enc x).length = k) (h1 : ∀ x, ∀ u ∈ enc x, u.oneCell' = true) (t ty e : TypeId) (z : Value) (bytes : Nat)
    (ht : P.underlying t = some (.slice e)) (hinfo : (P.info? e).map (fun i => (i.zero, i.size, i.bytes)) = some (some z, k, bytes)) (hzs : z.cells.size = k) (hsz : 0 < k)
    (base : Nat) (v : Value) (ys : List α) (hown : Own base e k enc w v ys) (hbase : base ≤ w.heap.size) (sv : Value) (xs : List α) (hrow : Row k enc w sv xs) (hb0 : 0 < bytes) (hbytes : (ys.length + xs.length) * bytes ≤ 140737488355328) :
    ∃ ad cap w', (Builtin.append_ #[t, t] ty #[v, sv]).run P w = .ok (.slice ad (ys.length + xs.length) cap) w' ∧ Own base e k enc w' (.slice ad (ys.length + xs.length) cap) (ys ++ xs) ∧ w.grownBy w' v.ownBlock := by
  obtain ⟨i, hi, hz, hsize, hby⟩ := info_parts hinfo
  have hn : ys.length + xs.length ≤ 140737488355328 := Nat.le_trans (Nat.le_mul_of_pos_right _ hb0) hbytes
  have hone : ∀ u ∈ xs.flatMap enc, u.oneCell' = true := fun u hu => by
    obtain ⟨y, _, hu⟩ := List.mem_flatMap.1 hu
    exact h1 y u hu
  obtain ⟨ad, c, rfl, hnone, hcells⟩ := hrow.src hk hsz
  cases ad with
  | none =>
    obtain ⟨rfl, hm⟩ := hnone rfl
    have hx : xs = [] := List.eq_nil_of_length_eq_zero hm
    subst hx
    have hrun := run_append_owned_none (P := P) (w := w) base t ty e i k ht hi _ _ _ hown
    obtain ⟨ad', cap, hv⟩ := Own.form hown
    rw [List.length_nil, Nat.add_zero, List.append_nil]
    refine ⟨ad', cap, w, ?_, ?_, ?_⟩
    · rw [← hv]; exact hrun
    · rw [← hv]; exact hown
    · exact World.grownBy.refl w _
  | some ad =>
    obtain ⟨v', w', hr, a, b, _, _⟩ := run_append_own_at (P := P) w base t ty e i z k bytes ht hi hz hsize hby hzs hsz _ ys.length (ys.flatMap enc) hown ad xs.length c (xs.flatMap enc) (flat_length hk xs) (hcells ad rfl) hone (by unfold maxLen; omega) (by simpa using hbytes) (by omega)
    have ho : Own base e k enc w' v' (ys ++ xs) := by simpa [Own] using a
    obtain ⟨ad', cap, hv⟩ := ho.form
    rw [List.length_append] at hv
    subst hv
    exact ⟨ad', cap, w', hr, ho, b⟩
theorem step_join {α : Type} {k : Nat} {enc : α → List Value} (hk : ∀ x, (enc x).length = k) (h1 : ∀ x, ∀ u ∈ enc x, u.oneCell' = true)
    {ops : Array Oper} {o : Oper} {a : Act} {K : Act → World → Prop} {Q : Exit → Act → World → Prop} {E : Prop} (hgd : o.guard = none) (s x : Operand) (t : TypeId)
    (ho : o.op = .call { callee := .builtin .append, args := #[s, x], argTypes := #[t, t] })
    (e : Nat) (z : Value) (bytes : Nat) (ht : P.underlying t = some (.slice e)) (hinfo : (P.info? e).map (fun i => (i.zero, i.size, i.bytes)) = some (some z, k, bytes)) (hzs : z.cells.size = k) (hsz : 0 < k)
    (base : Nat) (v : Value) (ys : List α) (hs : a.eval s = v) (hown : Own base e k enc w v ys) (hbase : base ≤ w.heap.size) (sv : Value) (xs : List α) (hx : a.eval x = sv) (hrow : Row k enc w sv xs) (hb0 : 0 < bytes) (hbytes : (ys.length + xs.length) * bytes ≤ 140737488355328)
    (h : ∀ ad cap w', Own base e k enc w' (.slice ad (ys.length + xs.length) cap) (ys ++ xs) → w.grownBy w' v.ownBlock → K (a.put o.dst (.slice ad (ys.length + xs.length) cap)) w') :
    if Region.wanted o (yielded ops a.tmps) = true then Oper.wp P o a w K Q else E := by
  have hw : Region.wanted o (yielded ops a.tmps) = true := by simp [Region.wanted, hgd]
  rw [if_pos hw]
  obtain ⟨ad, cap, w', hr, h2, h3⟩ := run_joinAt (P := P) w hk h1 t o.type e z bytes ht hinfo hzs hsz base v ys hown hbase sv xs hrow hb0 hbytes
  unfold Oper.wp execOp
  simp only [ho, resolve, invoke, builtin, Sem.run_bind, Sem.run_pure, Result.andThen_ok, List.map_toArray, List.map_cons, List.map_nil, hs, hx, hr]
  exact h ad cap w' h2 h3
theorem wpList_join {α : Type} {k : Nat} {enc : α → List Value} (hk : ∀ x, (enc x).length = k) (h1 : ∀ x, ∀ u ∈ enc x, u.oneCell' = true)
    {ops : Array Oper} {rest : List Oper} {o : Oper} {a : Act} {Q : Exit → Act → World → Prop} (hgd : o.guard = none) (s x : Operand) (t : TypeId)
    (ho : o.op = .call { callee := .builtin .append, args := #[s, x], argTypes := #[t, t] })
    (e : Nat) (z : Value) (bytes : Nat) (ht : P.underlying t = some (.slice e)) (hinfo : (P.info? e).map (fun i => (i.zero, i.size, i.bytes)) = some (some z, k, bytes)) (hzs : z.cells.size = k) (hsz : 0 < k)
    (base : Nat) (v : Value) (ys : List α) (hs : a.eval s = v) (hown : Own base e k enc w v ys) (hbase : base ≤ w.heap.size) (sv : Value) (xs : List α) (hx : a.eval x = sv) (hrow : Row k enc w sv xs) (hb0 : 0 < bytes) (hbytes : (ys.length + xs.length) * bytes ≤ 140737488355328)
    (h : ∀ ad cap w', Own base e k enc w' (.slice ad (ys.length + xs.length) cap) (ys ++ xs) → w.grownBy w' v.ownBlock → wpList P ops Q rest (a.put o.dst (.slice ad (ys.length + xs.length) cap)) w') :
    wpList P ops Q (o :: rest) a w :=
  wpList_step fun K hK => step_join w hk h1 hgd s x t ho e z bytes ht hinfo hzs hsz base v ys hs hown hbase sv xs hx hrow hb0 hbytes fun ad cap w' h2 h3 => hK _ _ (h ad cap w' h2 h3)
end
end Go.Proofs.YthbnbofoefdneaaDoor

/- An owned slice behind a store to a block of another type. -/
namespace Go.Proofs.YthbnbofoefdneaaDoor
open Go.RowKit
set_option linter.unusedSimpArgs false
set_option linter.unusedVariables false
/-- A box of another type is written. -/
theorem Own.setB {α : Type} {base E k : Nat} {enc : α → List Value} {w : World} {v : Value} {xs : List α} (h : Own base E k enc w v xs) (b j : Nat) {cs : Array Value} {T : TypeId} {fr : Nat × Nat} (hx : w.heap[b]? = some (.cells cs T fr)) (hT : T ≠ E) (u : Value) : Own base E k enc (w.setCell ⟨b, j, none⟩ u) v xs :=
  h.set_off (a := ⟨b, j, none⟩) (h.ne hx hT) u
end Go.Proofs.YthbnbofoefdneaaDoor

/- The reader of random numbers: pick, num, l13Open. -/
namespace Go.Proofs.YthbnbofoefdneaaDoor
open Go.RowKit
set_option linter.unusedSimpArgs false
set_option linter.unusedVariables false
attribute [local go_sem ↓] Go.wp_at_zero Go.wp_at_succ

def encB (x : Int) : List Value := [.int .u8 x]
theorem encB_len (x : Int) : (encB x).length = 1 := rfl
/-- The block of a slice that reads lies below the heap's end; so it is none that is made now. A slice without elements may point anywhere: that is why the reader's block is asked apart. -/
theorem Row.take {α : Type} {k n c : Nat} {enc : α → List Value} {w : World} {a : Option Addr} {xs : List α} (h : Row k enc w (.slice a xs.length c) xs) (hn : n ≤ xs.length) : Row k enc w (.slice a n c) (xs.take n) := by
  obtain ⟨a', cap, e, h1, h2, h3, h4⟩ := h
  simp only [Value.slice.injEq] at e
  obtain ⟨rfl, _, rfl⟩ := e
  have hl : (xs.take n).length = n := by simp; omega
  refine ⟨a, c, by rw [hl], by omega, h2, h3, fun hp => ?_⟩
  obtain ⟨b, off, e2, hlt, hc⟩ := h4 (by omega)
  refine ⟨b, off, e2, hlt, fun i x hx => hc i x ?_⟩
  rw [List.getElem?_take] at hx
  split at hx
  · exact hx
  · cases hx

theorem Row.grown2 {α : Type} {k : Nat} {enc : α → List Value} {w w' : World} {v : Value} {xs : List α} {row : Option Nat} (h : Row k enc w v xs) (hg : w.grownBy w' row) (hne : 0 < xs.length → v.ownBlock ≠ row) : Row k enc w' v xs := by
  obtain ⟨a, cap, e, h1, h2, h3, h4⟩ := h
  refine ⟨a, cap, e, h1, h2, h3, fun hn => ?_⟩
  have hne := hne hn
  obtain ⟨b, off, e2, hlt, hc⟩ := h4 hn
  subst e e2
  have hb := hg.block b hlt (by simpa [Value.ownBlock] using hne)
  exact ⟨b, off, rfl, Nat.lt_of_lt_of_le hlt hg.size, fun i x hx j u hu => (World.cell?_of_block (a := ⟨b, off + i * k + j, none⟩) hb).trans (hc i x hx j u hu)⟩
theorem Row.blk_lt {α : Type} {k : Nat} {enc : α → List Value} {w : World} {v : Value} {xs : List α} (h : Row k enc w v xs) : 0 < xs.length → ∀ g, v.ownBlock = some g → g < w.heap.size := by
  intro hn g e
  obtain ⟨a, cap, e1, h1, h2, h3, h4⟩ := h
  obtain ⟨b, off, e2, hlt, hc⟩ := h4 hn
  subst e1 e2
  simp only [Value.ownBlock, Option.some.injEq] at e
  omega

/-- Block b holds a reader that has picked at most N numbers. -/
def Rd (w : World) (b N : Nat) : Prop := ∃ (p : Nat) (bv : Value) (bs : List Int), w.heap[b]? = some (.cells #[bv, .int .i64 p] 69 (0, 0)) ∧ p ≤ N ∧ Row 1 encB w bv bs ∧ (0 < bs.length → ∀ g, bv.ownBlock = some g → g < b) ∧ bs.length ≤ 2000 ∧ ∀ x ∈ bs, 0 ≤ x ∧ x ≤ 255

theorem Rd.set {w w' : World} {b N : Nat} {p : Nat} {bv : Value} {bs : List Int} (hr : Row 1 encB w bv bs) (hne : 0 < bs.length → ∀ g, bv.ownBlock = some g → g < b) (hl : bs.length ≤ 2000) (hbs : ∀ x ∈ bs, 0 ≤ x ∧ x ≤ 255) (hp : p ≤ N) (hg : w.grownBy w' (some b))
    (hb : w'.heap[b]? = some (.cells #[bv, .int .i64 p] 69 (0, 0))) : Rd w' b N := ⟨p, bv, bs, hb, hp, hr.grown2 hg (fun hn e => Nat.lt_irrefl _ (hne hn b e)), hne, hl, hbs⟩

theorem pick_end0 {x n : Int} (hx : 0 ≤ x) (hn : 1 ≤ n) : 0 ≤ x % n := Int.emod_nonneg _ (by omega)
theorem pick_end1 {x n : Int} (hn : 1 ≤ n) : x % n < n := Int.emod_lt_of_pos _ (by omega)
theorem xor_i64 (a b : Nat) (ha : a < 2 ^ 62) (hb : b < 2 ^ 62) : bits .xor .i64 (a : Int) (b : Int) = ((a ^^^ b : Nat) : Int) := by
  have hx : a ^^^ b < 2 ^ 62 := Nat.xor_lt_two_pow ha hb
  have h1 : (BitVec.ofInt 64 (a : Int)).toNat = a := by
    rw [BitVec.ofInt_natCast, BitVec.toNat_ofNat]; exact Nat.mod_eq_of_lt (by omega)
  have h2 : (BitVec.ofInt 64 (b : Int)).toNat = b := by
    rw [BitVec.ofInt_natCast, BitVec.toNat_ofNat]; exact Nat.mod_eq_of_lt (by omega)
  show IntKind.i64.wrap ((BitVec.ofInt 64 (a : Int) ^^^ BitVec.ofInt 64 (b : Int)).toNat : Int) = _
  rw [BitVec.toNat_xor, h1, h2]
  exact IntWalk.i64_in _ (by omega)
theorem pick_mix {x y p d n : Int} (hx1 : 0 ≤ x) (hx2 : x ≤ 255) (hy1 : 0 ≤ y) (hy2 : y ≤ 255) (hp1 : 0 ≤ p) (hp2 : p ≤ 1000000) (hd1 : 0 ≤ d) (hd2 : d ≤ 1000000) (hn : 1 ≤ n) :
    0 ≤ (bits .xor .i64 (x * 131 + y * 1117 + p * 29 + d * 53) ((x * 131 + y * 1117 + p * 29 + d * 53) / 64)).tmod n ∧ (bits .xor .i64 (x * 131 + y * 1117 + p * 29 + d * 53) ((x * 131 + y * 1117 + p * 29 + d * 53) / 64)).tmod n < n := by
  obtain ⟨A, hA⟩ : ∃ A : Nat, x * 131 + y * 1117 + p * 29 + d * 53 = (A : Int) := ⟨(x * 131 + y * 1117 + p * 29 + d * 53).toNat, by omega⟩
  have hAl : A < 2 ^ 62 := by omega
  rw [hA, show ((A : Int) / 64) = ((A / 64 : Nat) : Int) by simp, xor_i64 A (A / 64) hAl (by omega), Int.tmod_eq_emod_of_nonneg (by omega)]
  exact ⟨Int.emod_nonneg _ (by omega), Int.emod_lt_of_pos _ (by omega)⟩
set_option maxHeartbeats 1600000 in
theorem pick_calls (b N : Nat) (n : Int) (w : World) (h : Rd w b N) (hN : N ≤ 1000000) (hn : n ≤ 1000000) :
    Calls Tryd.prog 27 #[.pointer (some ⟨b, 0, none⟩), .int .i64 n] w fun e w' => ∃ x : Int, e = .returned (.int .i64 x) ∧ 0 ≤ x ∧ (x < n ∨ x = 0) ∧ Rd w' b (N + 1) ∧ w.grownBy w' (some b) := by
  obtain ⟨p, bv, bs, hb, hp, hr, hne, hl, hbs⟩ := h
  have HB := Lib.hid hb
  have HR := Lib.hid hr
  have HBS := Lib.hid hbs; clear hbs
  have HNE := Lib.hid hne
  obtain ⟨c0, c1, k0, k1⟩ := box2 hb
  obtain ⟨a, c, rfl, l1, l2, l3, hrow⟩ := hr
  have ROW := Lib.hid hrow; clear hrow l3 hb hne
  have hp0 : (0 : Int) ≤ (p : Int) := Int.natCast_nonneg _
  by_cases h1 : 1 ≤ n
  · by_cases hq : 0 < bs.length
    · have e1 := len_ne hq
      obtain ⟨bb, off, rfl, hbb, hc⟩ := ROW.out hq
      have hnb : bb ≠ b := fun e => Nat.lt_irrefl b (HNE.out hq b (by rw [e]; rfl))
      by_cases hk : p < bs.length
      · obtain ⟨x, hx⟩ := get_ex hk
        have y0 := hc p x hx 0 _ rfl
        simp only [Nat.mul_one, Nat.add_zero] at y0
        have hx0 := HBS.out x (get_mem hx)
        obtain ⟨hx1, hx2⟩ := hx0
        clear hx hc
        go_enter Tryd.func27, Tryd.ntmps27
        go_wp2
        go_ret
        exact ⟨_, rfl, pick_end0 hx1 h1, .inl (pick_end1 h1), Rd.set (p := p + 1) HR.out HNE.out hl HBS.out (by omega) (grown_set (World.grownBy.refl _ _) rfl _) (by exact set_at HB.out rfl rfl _), grown_set (World.grownBy.refl _ _) rfl _⟩
      · obtain ⟨x, hx⟩ := get_ex (show p % bs.length < bs.length from Nat.mod_lt _ hq)
        obtain ⟨y, hy⟩ := get_ex (show (p * 7 + 3) % bs.length < bs.length from Nat.mod_lt _ hq)
        have y0 := hc _ x hx 0 _ rfl
        have y1 := hc _ y hy 0 _ rfl
        simp only [Nat.mul_one, Nat.add_zero] at y0 y1
        obtain ⟨hx1, hx2⟩ := HBS.out x (get_mem hx)
        obtain ⟨hy1, hy2⟩ := HBS.out y (get_mem hy)
        have i1 : (0 : Int) ≤ (p : Int) % (bs.length : Int) := Int.emod_nonneg _ (by omega)
        have i2 : (p : Int) % (bs.length : Int) < (bs.length : Int) := Int.emod_lt_of_pos _ (by omega)
        have i3 : (0 : Int) ≤ ((p : Int) * 7 + 3) % (bs.length : Int) := Int.emod_nonneg _ (by omega)
        have i4 : ((p : Int) * 7 + 3) % (bs.length : Int) < (bs.length : Int) := Int.emod_lt_of_pos _ (by omega)
        have i5 : (0 : Int) ≤ (p : Int) / (bs.length : Int) := Int.ediv_nonneg (by omega) (by omega)
        have i6 : (p : Int) / (bs.length : Int) ≤ 1000000 := by have := Int.ediv_le_self (b := (bs.length : Int)) hp0; omega
        clear hx hy hc
        go_enter Tryd.func27, Tryd.ntmps27
        go_wp2
        go_quiet (fail)
        go_wp2
        go_ret
        obtain ⟨z1, z2⟩ := pick_mix (x := x) (y := y) (p := (p : Int)) (d := (p : Int) / (bs.length : Int)) hx1 hx2 hy1 hy2 hp0 (by omega) i5 i6 h1
        exact ⟨_, rfl, z1, .inl z2, Rd.set (p := p + 1) HR.out HNE.out hl HBS.out (by omega) (grown_set (grown_drewN (World.grownBy.refl _ _) _) rfl _) (by exact set_at (show (w.drewN _).heap[b]? = _ from HB.out) rfl rfl _), grown_set (grown_drewN (World.grownBy.refl _ _) _) rfl _⟩
    · have e1 := len_eq hq
      go_enter Tryd.func27, Tryd.ntmps27
      go_wp2
      go_ret
      exact ⟨0, rfl, Int.le_refl _, .inr rfl, Rd.set (p := p + 1) HR.out HNE.out hl HBS.out (by omega) (grown_set (World.grownBy.refl _ _) rfl _) (by exact set_at HB.out rfl rfl _), grown_set (World.grownBy.refl _ _) rfl _⟩
  · go_enter Tryd.func27, Tryd.ntmps27
    go_wp2
    go_ret
    exact ⟨0, rfl, Int.le_refl _, .inr rfl, Rd.set (p := p + 1) HR.out HNE.out hl HBS.out (by omega) (grown_set (World.grownBy.refl _ _) rfl _) (by exact set_at HB.out rfl rfl _), grown_set (World.grownBy.refl _ _) rfl _⟩

theorem num_calls (b N : Nat) (lv : Value) (xs : List Int) (w : World) (h : Rd w b N) (hN : N ≤ 1000000) (hl : IRow w lv xs) (hlen : 0 < xs.length ∧ xs.length ≤ 1000) (hne : lv.ownBlock ≠ some b) :
    Calls Tryd.prog 28 #[.pointer (some ⟨b, 0, none⟩), lv] w fun e w' => ∃ x : Int, e = .returned (.int .i64 x) ∧ x ∈ xs ∧ Rd w' b (N + 1) ∧ w.grownBy w' (some b) := by
  have HH := Lib.hid h; clear h
  have HL := Lib.hid hl
  have HNE := Lib.hid hne
  obtain ⟨a, c, rfl, l1, l2, l3⟩ := hl.look
  obtain ⟨hq, hlen⟩ := hlen
  obtain ⟨bb, off, rfl, hbb, hc⟩ := l3 hq
  clear l3 hne hl
  go_enter Tryd.func28, Tryd.ntmps28
  go_wp2_with (fail)
  refine (pick_calls b N _ _ HH.out hN (by omega)).mono ?_
  rintro e w1 ⟨x, rfl, hx0, hx1, hr, hg⟩
  have HR := Lib.hid hr
  have HG := Lib.hid hg
  clear hr hg
  obtain ⟨k, rfl⟩ := Int.eq_ofNat_of_zero_le hx0
  have hk : k < xs.length := by omega
  obtain ⟨y, hy⟩ := get_ex hk
  have y0 := hc k y hy
  have y1 := HG.out.cell y0 (by intro e; exact HNE.out e)
  have HY := Lib.hid hy
  clear hy hc y0
  have hk1 : (k : Int) < (xs.length : Int) := by omega
  go_wp2
  go_ret
  exact ⟨_, rfl, get_mem HY.out, HR.out, HG.out⟩

theorem l13Open_calls (v : Value) (bs : List Int) (w : World) (h : Row 1 encB w v bs) (hbs : ∀ x ∈ bs, 0 ≤ x ∧ x ≤ 255) :
    Calls Tryd.prog 24 #[v] w fun e w' => e = .returned (.pointer (some ⟨w.heap.size, 0, none⟩)) ∧ Rd w' w.heap.size 0 ∧ Below w.heap.size w w' := by
  have HR := Lib.hid h
  obtain ⟨a, c, rfl, l1, l2, l3, l4⟩ := h
  have L4 := Lib.hid l4; clear l4 l3
  by_cases hl : bs.length ≤ 2000
  · go_enter Tryd.func24, Tryd.ntmps24
    go_wp2
    go_ret
    have hb : Below w.heap.size w (w.alloc (.cells #[.slice a bs.length c, .int .i64 0] 69)) := (Below.refl _ _).alloc (Nat.le_refl _) _
    exact ⟨rfl, ⟨0, _, bs, heap_at w _, Nat.le_refl _, HR.out.below hb, HR.out.blk_lt, hl, hbs⟩, hb⟩
  · go_enter Tryd.func24, Tryd.ntmps24
    go_wp2
    go_ret
    have hb : Below w.heap.size w (w.alloc (.cells #[.slice a 2000 c, .int .i64 0] 69)) := (Below.refl _ _).alloc (Nat.le_refl _) _
    have hr := HR.out.take (n := 2000) (by omega)
    exact ⟨rfl, ⟨0, _, bs.take 2000, heap_at w _, Nat.le_refl _, hr.below hb, hr.blk_lt, by simp; omega, fun x hx => hbs x (List.mem_of_mem_take hx)⟩, hb⟩

theorem Rd.alloc {w : World} {b N : Nat} (h : Rd w b N) (o : Obj) : Rd (w.alloc o) b N := by
  obtain ⟨p, bv, bs, hb, hp, hr, hne, hl, hbs⟩ := h
  exact ⟨p, bv, bs, heap_up hb, hp, hr.below ((Below.refl _ _).alloc (Nat.le_refl _) _), hne, hl, hbs⟩
theorem Rd.mono {w : World} {b N M : Nat} (h : Rd w b N) (hN : N ≤ M) : Rd w b M := by
  obtain ⟨p, bv, bs, hb, hp, r⟩ := h
  exact ⟨p, bv, bs, hb, Nat.le_trans hp hN, r⟩
theorem Rd.below {w w' : World} {b N : Nat} (h : Rd w b N) (hb : Below w.heap.size w w') : Rd w' b N := by
  obtain ⟨p, bv, bs, hbx, hp, hr, hne, hl, hbs⟩ := h
  exact ⟨p, bv, bs, below_at hb hbx, hp, hr.below hb, hne, hl, hbs⟩
/-- A reader is as it was if no block up to its own has turned. -/
theorem Rd.off {w w' : World} {b N : Nat} (h : Rd w b N) (hk : ∀ k A, k ≤ b → w.heap[k]? = some A → w'.heap[k]? = some A) : Rd w' b N := by
  obtain ⟨p, bv, bs, hb, hp, hr, hne, hl, hbs⟩ := h
  refine ⟨p, bv, bs, hk b _ (Nat.le_refl _) hb, hp, ?_, hne, hl, hbs⟩
  obtain ⟨ad, cap, e, h1, h2, h3, h4⟩ := hr
  refine ⟨ad, cap, e, h1, h2, h3, fun hn => ?_⟩
  obtain ⟨bb, off, e2, hlt, hc⟩ := h4 hn
  have hbb : bb < b := hne hn bb (by rw [e, e2]; rfl)
  have hx : w.heap[bb]? = some w.heap[bb] := Array.getElem?_eq_getElem hlt
  have hy := hk bb _ (by omega) hx
  exact ⟨bb, off, e2, heap_lt hy, fun i x hx' j u hu => (World.cell?_of_block (a := ⟨bb, off + i * 1 + j, none⟩) (by rw [hx, hy])).trans (hc i x hx' j u hu)⟩
theorem Rd.lt {w : World} {b N : Nat} (h : Rd w b N) : b < w.heap.size := by obtain ⟨_, _, _, hx, _⟩ := h; exact heap_lt hx
end Go.Proofs.YthbnbofoefdneaaDoor

/- DrawNewSem. -/
namespace Go.Proofs.YthbnbofoefdneaaDoor
open Go.RowKit
set_option linter.unusedSimpArgs false
set_option linter.unusedVariables false

theorem lit_row {w : World} {E : Nat} (xs : List Int) (hn : xs.length ≤ 1000) {cs : Array Value} (hcs : cs = (xs.map (Value.int .i64)).toArray) {n : Nat} (hl : n = xs.length) {H : Nat} (hH : w.heap.size = H) : IRow (w.alloc (.cells cs E)) (.slice (some ⟨H, 0, none⟩) n n) xs := by
  subst hcs hl hH
  refine ⟨_, _, rfl, Nat.le_refl _, by omega, (fun e => by cases e), fun _ => ⟨w.heap.size, 0, rfl, by simp, fun i x hx j u hu => ?_⟩⟩
  match j, hu with
  | 0, hu =>
    simp only [encI, List.getElem?_cons_zero, Option.some.injEq] at hu
    subst hu
    rw [cell_of_row _ w.heap.size (0 + i * 1 + 0) _ E (0, 0) (heap_alloc_new w _)]
    simp [hx]
  | j + 1, hu => simp [encI] at hu

end Go.Proofs.YthbnbofoefdneaaDoor

/- Where a draw stands: since w0 nothing that was there has turned but the reader in block b, which has picked at most N numbers. -/
namespace Go.Proofs.YthbnbofoefdneaaDoor
open Go.RowKit
set_option linter.unusedSimpArgs false
set_option linter.unusedVariables false

theorem Own.past {α : Type} {base E k b : Nat} {enc : α → List Value} {w w' : World} {v : Value} {xs : List α} (h : Own base E k enc w v xs) (hg : w.grownBy w' (some b)) (hb : b < base) : Own base E k enc w' v xs :=
  h.growns hg (.inr fun e => by have := h.blk b e; omega)
theorem grown_new {w w' : World} {r : Option Nat} (h : w.grownBy w' r) {a : Addr} (ha : w.heap.size ≤ a.block) (u : Value) : w.grownBy (w'.setCell a u) r :=
  ⟨h.os, h.tape, h.output, by simp only [szS]; exact h.size, fun k hk hne => (Below.heap_setCell _ _ _ _ (by omega)).trans (h.block k hk hne)⟩
theorem grown_drew {w w' : World} {r : Option Nat} (h : w.grownBy w' r) : w.grownBy w'.drew r := ⟨h.os, h.tape, h.output, h.size, h.block⟩
theorem grown_at {w w' : World} {b k : Nat} {A : Obj} (h : w.grownBy w' (some b)) (hx : w.heap[k]? = some A) (hne : k ≠ b) : w'.heap[k]? = some A :=
  (h.block k (heap_lt hx) (by simp; omega)).trans hx
theorem grown_at2 {w w' : World} {row : Option Nat} {k : Nat} {A : Obj} (h : w.grownBy w' row) (hx : w.heap[k]? = some A) (hne : row ≠ some k) : w'.heap[k]? = some A :=
  (h.block k (heap_lt hx) (fun e => hne e.symm)).trans hx
theorem alloc_le (w : World) (o : Obj) : w.heap.size ≤ (w.alloc o).heap.size := by simp only [szA]; omega

theorem lit_at {w : World} {H n E : Nat} {cs : Array Value} {fr : Nat × Nat} {xs : List Int} (h : w.heap[H]? = some (.cells cs E fr)) (hcs : cs = (xs.map (Value.int .i64)).toArray) (hl : n = xs.length := by rfl) (hn : xs.length ≤ 1000 := by decide) : IRow w (.slice (some ⟨H, 0, none⟩) n n) xs := by
  subst hcs hl
  refine ⟨_, _, rfl, Nat.le_refl _, by omega, (fun e => by cases e), fun _ => ⟨H, 0, rfl, heap_lt h, fun i x hx j u hu => ?_⟩⟩
  match j, hu with
  | 0, hu =>
    simp only [encI, List.getElem?_cons_zero, Option.some.injEq] at hu
    subst hu
    rw [cell_of_row _ H (0 + i * 1 + 0) _ E fr h]
    simp [hx]
  | j + 1, hu => simp [encI] at hu
structure Dr (w0 : World) (b N : Nat) (w : World) : Prop where
  g : w0.grownBy w (some b)
  r : Rd w b N
  lt : b < w0.heap.size

theorem Dr.start {w : World} {b N : Nat} (h : Rd w b N) : Dr w b N w := ⟨World.grownBy.refl _ _, h, h.lt⟩
theorem Dr.size {w0 w : World} {b N : Nat} (h : Dr w0 b N w) : w0.heap.size ≤ w.heap.size := h.g.size
theorem Dr.alloc {w0 w : World} {b N : Nat} (h : Dr w0 b N w) (o : Obj) : Dr w0 b N (w.alloc o) := ⟨grown_alloc h.g o, h.r.alloc o, h.lt⟩
theorem Dr.drew {w0 w : World} {b N : Nat} (h : Dr w0 b N w) : Dr w0 b N w.drew := ⟨grown_drew h.g, h.r.off (fun _ _ _ h => h), h.lt⟩
theorem Dr.mono {w0 w : World} {b N M : Nat} (h : Dr w0 b N w) (hN : N ≤ M) : Dr w0 b M w := ⟨h.g, h.r.mono hN, h.lt⟩
theorem Dr.below {w0 w w' : World} {b N : Nat} (h : Dr w0 b N w) (hb : Below w.heap.size w w') : Dr w0 b N w' := ⟨grown_later h.g hb, h.r.below hb, h.lt⟩
theorem Dr.step {w0 w w' : World} {b N M : Nat} (h : Dr w0 b N w) (hr : Rd w' b M) (hg : w.grownBy w' (some b)) : Dr w0 b M w' := ⟨h.g.trans hg, hr, h.lt⟩
theorem Dr.then {w0 w w' : World} {b N M : Nat} (h : Dr w0 b N w) (h' : Dr w b M w') : Dr w0 b M w' := ⟨h.g.trans h'.g, h'.r, h.lt⟩
theorem Dr.set {w0 w : World} {b N : Nat} (h : Dr w0 b N w) {a : Addr} (ha : w0.heap.size ≤ a.block) (u : Value) : Dr w0 b N (w.setCell a u) :=
  ⟨grown_new h.g ha u, h.r.off (fun k A hk hx => (Below.heap_setCell _ _ _ _ (by have := h.lt; omega)).trans hx), h.lt⟩
/-- An owned row is written or appended to. -/
theorem Dr.own {w0 w w' : World} {b N : Nat} {row : Option Nat} (h : Dr w0 b N w) (hg : w.grownBy w' row) (hr : ∀ g, row = some g → w0.heap.size ≤ g) : Dr w0 b N w' :=
  ⟨grown_own h.g hg hr, h.r.off (fun k A hk hx => (hg.block k (heap_lt hx) (fun e => by have := hr k e.symm; have := h.lt; omega)).trans hx), h.lt⟩
theorem Dr.fin {w0 w : World} {b N : Nat} (h : Dr w0 b N w) : Rd w b N ∧ w0.grownBy w (some b) := ⟨h.r, h.g⟩
/-- What a box holds behind a step of the reader. -/
theorem Dr.at_ {w w' : World} {b N k : Nat} {A : Obj} (h : Dr w b N w') (hx : w.heap[k]? = some A) (hne : k ≠ b) : w'.heap[k]? = some A := grown_at h.g hx hne
theorem Dr.keep {α : Type} {base E k b N : Nat} {enc : α → List Value} {w w' : World} {v : Value} {xs : List α} (hd : Dr w b N w') (h : Own base E k enc w v xs) (hb : b < base) : Own base E k enc w' v xs := h.past hd.g hb

/-- pick, in these words. -/
theorem pickD (b N : Nat) (n : Int) (w0 w : World) (h : Dr w0 b N w) (hN : N ≤ 1000000) (hn : n ≤ 1000000) :
    Calls Tryd.prog 27 #[.pointer (some ⟨b, 0, none⟩), .int .i64 n] w fun e w' => ∃ x : Int, e = .returned (.int .i64 x) ∧ 0 ≤ x ∧ (x < n ∨ x = 0) ∧ Dr w b (N + 1) w' :=
  (pick_calls b N n w h.r hN hn).mono fun e w' ⟨x, he, h0, h1, hr, hg⟩ => ⟨x, he, h0, h1, (Dr.start h.r).step hr hg⟩
theorem numD (b N : Nat) (lv : Value) (xs : List Int) (w0 w : World) (h : Dr w0 b N w) (hN : N ≤ 1000000) (hl : IRow w lv xs) (hlen : 0 < xs.length ∧ xs.length ≤ 1000) (hne : lv.ownBlock ≠ some b) :
    Calls Tryd.prog 28 #[.pointer (some ⟨b, 0, none⟩), lv] w fun e w' => ∃ x : Int, e = .returned (.int .i64 x) ∧ x ∈ xs ∧ Dr w b (N + 1) w' :=
  (num_calls b N lv xs w h.r hN hl hlen hne).mono fun e w' ⟨x, he, hx, hr, hg⟩ => ⟨x, he, hx, (Dr.start h.r).step hr hg⟩
end Go.Proofs.YthbnbofoefdneaaDoor

/- append(own, src...) at a step of a region that draws its order. -/
namespace Go.Proofs.YthbnbofoefdneaaDoor
open Go.RowKit
set_option linter.unusedSimpArgs false
set_option linter.unusedVariables false
section
variable {P : Program} (w : World)
theorem run_pushAt {α : Type} {k : Nat} {enc : α → List Value} (hk : ∀ x, (enc x).length = k) (h1 : ∀ x, ∀ u ∈ enc x, u.oneCell' = true) (t ty e : TypeId) (z : Value) (bytes : Nat)
    (ht : P.underlying t = some (.slice e)) (hinfo : (P.info? e).map (fun i => (i.zero, i.size, i.bytes)) = some (some z, k, bytes)) (hzs : z.cells.size = k) (hsz : 0 < k)
    (base : Nat) (v : Value) (ys : List α) (hown : Own base e k enc w v ys) (hbase : base ≤ w.heap.size) (sv : Value) (xs : List α) (hrow : Row k enc w sv xs) (hpos : 0 < xs.length) (hb0 : 0 < bytes) (hbytes : (ys.length + xs.length) * bytes ≤ 140737488355328) :
    ∃ ad cap w', (Builtin.append_ #[t, t] ty #[v, sv]).run P w = .ok (.slice ad (ys.length + xs.length) cap) w' ∧ Own base e k enc w' (.slice ad (ys.length + xs.length) cap) (ys ++ xs) ∧ w.grownBy w' v.ownBlock ∧ ((Value.slice ad (ys.length + xs.length) cap).ownBlock = v.ownBlock ∨ (Value.slice ad (ys.length + xs.length) cap).ownBlock = some w.heap.size) := by
  obtain ⟨i, hi, hz, hsize, hby⟩ := info_parts hinfo
  have hn : ys.length + xs.length ≤ 140737488355328 := Nat.le_trans (Nat.le_mul_of_pos_right _ hb0) hbytes
  have hone : ∀ u ∈ xs.flatMap enc, u.oneCell' = true := fun u hu => by
    obtain ⟨y, _, hu⟩ := List.mem_flatMap.1 hu
    exact h1 y u hu
  obtain ⟨ad, c, rfl, hnone, hcells⟩ := hrow.src hk hsz
  cases ad with
  | none =>
    obtain ⟨rfl, hm⟩ := hnone rfl
    omega
  | some ad =>
    obtain ⟨v', w', hr, a, b, _, hat⟩ := run_append_own_at (P := P) w base t ty e i z k bytes ht hi hz hsize hby hzs hsz _ ys.length (ys.flatMap enc) hown ad xs.length c (xs.flatMap enc) (flat_length hk xs) (hcells ad rfl) hone (by unfold maxLen; omega) (by simpa using hbytes) (by omega)
    have ho : Own base e k enc w' v' (ys ++ xs) := by simpa [Own] using a
    obtain ⟨ad', cap, hv⟩ := ho.form
    rw [List.length_append] at hv
    subst hv
    exact ⟨ad', cap, w', hr, ho, b, hat⟩
theorem step_push {α : Type} {k : Nat} {enc : α → List Value} (hk : ∀ x, (enc x).length = k) (h1 : ∀ x, ∀ u ∈ enc x, u.oneCell' = true)
    {ops : Array Oper} {o : Oper} {a : Act} {K : Act → World → Prop} {Q : Exit → Act → World → Prop} {E : Prop} (hgd : o.guard = none) (s x : Operand) (t : TypeId)
    (ho : o.op = .call { callee := .builtin .append, args := #[s, x], argTypes := #[t, t] })
    (e : Nat) (z : Value) (bytes : Nat) (ht : P.underlying t = some (.slice e)) (hinfo : (P.info? e).map (fun i => (i.zero, i.size, i.bytes)) = some (some z, k, bytes)) (hzs : z.cells.size = k) (hsz : 0 < k)
    (base : Nat) (v : Value) (ys : List α) (hs : a.eval s = v) (hown : Own base e k enc w v ys) (hbase : base ≤ w.heap.size) (sv : Value) (xs : List α) (hx : a.eval x = sv) (hrow : Row k enc w sv xs) (hpos : 0 < xs.length) (hb0 : 0 < bytes) (hbytes : (ys.length + xs.length) * bytes ≤ 140737488355328)
    (h : ∀ ad cap w', Own base e k enc w' (.slice ad (ys.length + xs.length) cap) (ys ++ xs) → w.grownBy w' v.ownBlock → ((Value.slice ad (ys.length + xs.length) cap).ownBlock = v.ownBlock ∨ (Value.slice ad (ys.length + xs.length) cap).ownBlock = some w.heap.size) → K (a.put o.dst (.slice ad (ys.length + xs.length) cap)) w') :
    if Region.wanted o (yielded ops a.tmps) = true then Oper.wp P o a w K Q else E := by
  have hw : Region.wanted o (yielded ops a.tmps) = true := by simp [Region.wanted, hgd]
  rw [if_pos hw]
  obtain ⟨ad, cap, w', hr, h2, h3, h4⟩ := run_pushAt (P := P) w hk h1 t o.type e z bytes ht hinfo hzs hsz base v ys hown hbase sv xs hrow hpos hb0 hbytes
  unfold Oper.wp execOp
  simp only [ho, resolve, invoke, builtin, Sem.run_bind, Sem.run_pure, Result.andThen_ok, List.map_toArray, List.map_cons, List.map_nil, hs, hx, hr]
  exact h ad cap w' h2 h3 h4
end
end Go.Proofs.YthbnbofoefdneaaDoor

/- A call of a Go function at a step of a region that draws its order. -/
namespace Go.Proofs.YthbnbofoefdneaaDoor
open Go.RowKit
set_option linter.unusedSimpArgs false
set_option linter.unusedVariables false
theorem step_fn {P : Program} {ops : Array Oper} {o : Oper} {a : Act} {w : World} {K : Act → World → Prop} {Q : Exit → Act → World → Prop} {E : Prop} (hgd : o.guard = none) (f : Nat) (args : Array Value)
    (ho : (execOp a.eval o).run P w = .ok (.enter f args) w) (h : Calls P f args w fun e w' => ∃ v, e = .returned v ∧ K (a.put o.dst v) w') :
    if Region.wanted o (yielded ops a.tmps) = true then Oper.wp P o a w K Q else E := by
  have hw : Region.wanted o (yielded ops a.tmps) = true := by simp [Region.wanted, hgd]
  rw [if_pos hw]
  unfold Oper.wp
  rw [ho]
  refine Calls.mono h ?_
  rintro e w' ⟨v, rfl, hk⟩
  exact hk
theorem lit_pair {w : World} {H E : Nat} {fr : Nat × Nat} {y z : Int} (h : w.heap[H]? = some (.cells #[.int .i64 y, .int .i64 z] E fr)) : PRow w (.slice (some ⟨H, 0, none⟩) 1 1) [(y, z)] := by
  refine ⟨_, _, rfl, Nat.le_refl _, by decide, (fun e => by cases e), fun _ => ⟨H, 0, rfl, heap_lt h, fun i x hx j u hu => ?_⟩⟩
  match i, hx with
  | i + 1, hx => simp at hx
  | 0, hx =>
    simp only [List.getElem?_cons_zero, Option.some.injEq] at hx
    subst hx
    match j, hu with
    | 0, hu => simp only [encP, List.getElem?_cons_zero, Option.some.injEq] at hu; subst hu; simp [World.cell?, h]
    | 1, hu => simp only [encP, List.getElem?_cons_succ, List.getElem?_cons_zero, Option.some.injEq] at hu; subst hu; simp [World.cell?, h]
    | j + 2, hu => simp [encP] at hu
theorem lit_want {w : World} {H E : Nat} {fr : Nat × Nat} {y : Int} {z : Bool} (h : w.heap[H]? = some (.cells #[.int .i64 y, .bool z] E fr)) : Row 2 (fun x : Int × Bool => [.int .i64 x.1, .bool x.2]) w (.slice (some ⟨H, 0, none⟩) 1 1) [(y, z)] := by
  refine ⟨_, _, rfl, Nat.le_refl _, by decide, (fun e => by cases e), fun _ => ⟨H, 0, rfl, heap_lt h, fun i x hx j u hu => ?_⟩⟩
  match i, hx with
  | i + 1, hx => simp at hx
  | 0, hx =>
    simp only [List.getElem?_cons_zero, Option.some.injEq] at hx
    subst hx
    match j, hu with
    | 0, hu => simp only [List.getElem?_cons_zero, Option.some.injEq] at hu; subst hu; simp [World.cell?, h]
    | 1, hu => simp only [List.getElem?_cons_succ, List.getElem?_cons_zero, Option.some.injEq] at hu; subst hu; simp [World.cell?, h]
    | j + 2, hu => simp at hu
theorem lit_int {w : World} {H E : Nat} {fr : Nat × Nat} {y : Int} (h : w.heap[H]? = some (.cells #[.int .i64 y] E fr)) : IRow w (.slice (some ⟨H, 0, none⟩) 1 1) [y] := by
  refine ⟨_, _, rfl, Nat.le_refl _, by decide, (fun e => by cases e), fun _ => ⟨H, 0, rfl, heap_lt h, fun i x hx j u hu => ?_⟩⟩
  match i, hx with
  | i + 1, hx => simp at hx
  | 0, hx =>
    simp only [List.getElem?_cons_zero, Option.some.injEq] at hx
    subst hx
    match j, hu with
    | 0, hu => simp only [encI, List.getElem?_cons_zero, Option.some.injEq] at hu; subst hu; simp [World.cell?, h]
    | j + 1, hu => simp [encI] at hu
end Go.Proofs.YthbnbofoefdneaaDoor

/- A region that draws its order: one goal for each operation (not one for each order). -/
namespace Go.Proofs.YthbnbofoefdneaaDoor
open Go.RowKit
set_option linter.unusedSimpArgs false
set_option linter.unusedVariables false

/-- The value of number i is v now. -/
def setU (u : Nat → Value) (i : Nat) (v : Value) : Nat → Value := fun j => if j = i then v else u j
theorem setU_same (u : Nat → Value) (i : Nat) (v : Value) : setU u i v i = v := if_pos rfl
theorem setU_ne (u : Nat → Value) {i j : Nat} (v : Value) (h : j ≠ i) : setU u i v j = u j := if_neg h
/-- Only the values of the numbers ds. -/
def mask (ds : List Nat) (u : Nat → Value) : Nat → Value := fun j => if j ∈ ds then u j else undef
theorem mask_setU {ds : List Nat} {u : Nat → Value} {i : Nat} {v : Value} (h : i ∉ ds) : mask ds (setU u i v) = mask ds u := by
  funext j
  unfold mask
  split
  · rename_i hj; exact setU_ne u v (fun e => h (e ▸ hj))
  · rfl

/-- The slot that operation number i writes. -/
def dstOf (ops : Array Oper) (i : Nat) : Option Tmp := (ops[i]?).bind (·.dst)
/-- The frame in which the operations of the list have left the values u. -/
def putAll (ops : Array Oper) (a : Act) (u : Nat → Value) : List Nat → Act
  | [] => a
  | i :: r => (putAll ops a u r).put (dstOf ops i) (u i)
/-- What the slot of number i holds. -/
def slotVal (ops : Array Oper) (a : Act) (i : Nat) : Value :=
  match dstOf ops i with
  | some t => a.tmps.getD t undef
  | none => undef

theorem put_self (a : Act) (d : Option Tmp) : a.put d (match d with | some t => a.tmps.getD t undef | none => undef) = a := by
  cases d with
  | none => rfl
  | some t =>
    show ({ a with tmps := a.tmps.setIfInBounds t (a.tmps.getD t undef) } : Act) = a
    have : a.tmps.setIfInBounds t (a.tmps.getD t undef) = a.tmps := by
      apply Array.ext_getElem?
      intro j
      rw [Array.getElem?_setIfInBounds]
      by_cases h : t = j
      · subst h
        by_cases hl : t < a.tmps.size
        · simp [hl]
        · simp [hl]
      · simp [h]
    rw [this]
theorem putAll_self (ops : Array Oper) (a : Act) : ∀ l, putAll ops a (slotVal ops a) l = a
  | [] => rfl
  | i :: r => by
    show (putAll ops a (slotVal ops a) r).put (dstOf ops i) (slotVal ops a i) = a
    rw [putAll_self ops a r]
    exact put_self a (dstOf ops i)
theorem putAll_off (ops : Array Oper) (a : Act) (u : Nat → Value) (i : Nat) (v : Value) : ∀ l, i ∉ l → putAll ops a (setU u i v) l = putAll ops a u l
  | [], _ => rfl
  | j :: r, h => by
    have h1 : j ≠ i := fun e => h (by rw [e]; exact List.mem_cons_self)
    have h2 : i ∉ r := fun e => h (List.mem_cons_of_mem _ e)
    show (putAll ops a (setU u i v) r).put (dstOf ops j) (setU u i v j) = (putAll ops a u r).put (dstOf ops j) (u j)
    rw [putAll_off ops a u i v r h2, setU_ne u v h1]
theorem put_put (a : Act) (d : Option Tmp) (x y : Value) : (a.put d x).put d y = a.put d y := by
  cases d with
  | none => rfl
  | some t =>
    show ({ a with tmps := (a.tmps.setIfInBounds t x).setIfInBounds t y } : Act) = { a with tmps := a.tmps.setIfInBounds t y }
    have : (a.tmps.setIfInBounds t x).setIfInBounds t y = a.tmps.setIfInBounds t y := by
      apply Array.ext_getElem?
      intro j
      simp only [Array.getElem?_setIfInBounds]
      by_cases h : t = j <;> simp [h]
    rw [this]
/-- The operations' slots differ. -/
def apartB (ops : Array Oper) : List Nat → Bool
  | [] => true
  | i :: r => (r.all fun j => j != i && (dstOf ops i == none || dstOf ops j != dstOf ops i)) && apartB ops r
theorem putAll_put (ops : Array Oper) (a : Act) (u : Nat → Value) (i : Nat) (v : Value) : ∀ l, apartB ops l = true → i ∈ l → (putAll ops a u l).put (dstOf ops i) v = putAll ops a (setU u i v) l
  | [], _, h => by cases h
  | j :: r, hd, h => by
    simp only [apartB, Bool.and_eq_true, List.all_eq_true, Bool.or_eq_true, beq_iff_eq, bne_iff_ne, ne_eq] at hd
    show ((putAll ops a u r).put (dstOf ops j) (u j)).put (dstOf ops i) v = (putAll ops a (setU u i v) r).put (dstOf ops j) (setU u i v j)
    rcases List.mem_cons.1 h with rfl | h'
    · rw [put_put, setU_same, putAll_off ops a u i v r (fun e => (hd.1 i e).1 rfl)]
    · have hne := (hd.1 i h').1
      have hap := (hd.1 i h').2
      rw [setU_ne u v (fun e => hne e.symm), ← putAll_put ops a u i v r hd.2 h']
      rcases hap with h0 | h0
      · rw [h0]; rfl
      · exact Act.put_comm _ _ _ (by intro d h1 h2; exact h0 (by rw [h1, h2]))

/-- What is told of one operation: its number, the earlier ones that it leans on, what holds of its value (u: those earlier ones' values). -/
structure RgOp where
  idx : Nat
  /-- it writes into what the region made (one at the most) -/
  wr : Bool
  deps : List Nat
  F : (Nat → Value) → Value → World → Prop

def RgOp.holds (i : RgOp) (u : Nat → Value) (w : World) : Prop := i.F (mask i.deps u) (u i.idx) w

/-- What holds of number k. -/
def FAt (rs : List RgOp) (k : Nat) (u : Nat → Value) (w : World) : Prop :=
  match rs with
  | [] => True
  | i :: r => if i.idx = k then i.holds u w else FAt r k u w
def FAll (rs : List RgOp) (u : Nat → Value) (w : World) : List Nat → Prop
  | [] => True
  | k :: r => FAt rs k u w ∧ FAll rs u w r

section
variable {P : Program} {md : Region.Mode} {ops : Array Oper} {Q : Exit → Act → World → Prop} {S : World → Prop} {C : Nat → World → Prop} {R : Bool → World → World → Prop} {a : Act} {F0 : Nat} {rs : List RgOp}

def depsOf (rs : List RgOp) (k : Nat) : List Nat :=
  match rs with
  | [] => []
  | i :: r => if i.idx = k then i.deps else depsOf r k
/-- The shape of the region: what is not told of waits for all that is; the slots differ; edges go backwards; what is leant on has come up. -/
def oneB (rs : List RgOp) : Bool := (rs.filter (·.wr)).length ≤ 1
theorem oneB_spec {rs : List RgOp} (h : oneB rs = true) {i k : RgOp} (hi : i ∈ rs) (hk : k ∈ rs) (hw : i.wr = true) (hne : k.idx ≠ i.idx) : k.wr = false := by
  cases hkw : k.wr with
  | false => rfl
  | true =>
    have h1 : i ∈ rs.filter (·.wr) := List.mem_filter.2 ⟨hi, hw⟩
    have h2 : k ∈ rs.filter (·.wr) := List.mem_filter.2 ⟨hk, hkw⟩
    have h3 : (rs.filter (·.wr)).length ≤ 1 := by simpa [oneB] using h
    match hl : rs.filter (·.wr), h1, h2, h3 with
    | [x], h1, h2, _ =>
      rw [hl] at h1 h2
      simp only [List.mem_singleton] at h1 h2
      rw [h1, h2] at hne
      exact absurd rfl hne
    | x :: y :: r, _, _, h3 => rw [hl] at h3; simp at h3
    | [], h1, _, _ => rw [hl] at h1; cases h1
def rgB (md : Region.Mode) (ops : Array Oper) (listed : Array Bool) (F0 : Nat) (ks : List Nat) (ds : List (List Nat)) : Bool :=
  listed.size == ops.size && apartB ops ks && (ks.all fun i => !listed.getD i true) && decide (ks.length ≤ F0) &&
  ((List.range ops.size).all fun i => listed.getD i true || ks.contains i || match ops[i]? with | none => true | some o => ks.all fun k => o.after.any fun e => Region.binds md e && e.on == k) &&
  ((List.range ops.size).all fun i => match ops[i]? with | none => true | some o => o.after.all fun e => !Region.binds md e || decide (e.on < i)) &&
  ((ks.zip ds).all fun (i, d) => match ops[i]? with | none => false | some o => (o.after.all fun e => !Region.binds md e || listed.getD e.on false || ks.contains e.on) && d.all fun j => o.after.any fun e => Region.binds md e && (e.on == j || ((ks.zip ds).any fun (k, dk) => k == e.on && dk.contains j)))
/-- The operations of the list have come up. -/
def listAll (listed : Array Bool) : List Nat → Array Bool
  | [] => listed
  | k :: r => (listAll listed r).setIfInBounds k true
theorem listAll_size (listed : Array Bool) : ∀ ks, (listAll listed ks).size = listed.size
  | [] => rfl
  | k :: r => by simp [listAll, listAll_size listed r]
theorem listAll_get (listed : Array Bool) (i : Nat) : ∀ ks, (listAll listed ks)[i]? = if i ∈ ks ∧ i < listed.size then some true else listed[i]?
  | [] => by simp [listAll]
  | k :: r => by
    show ((listAll listed r).setIfInBounds k true)[i]? = _
    rw [Array.getElem?_setIfInBounds, listAll_get listed i r, listAll_size]
    by_cases h : k = i
    · subst h
      by_cases hl : k < listed.size
      · simp [hl]
      · simp [hl]
    · have h' : ¬ i = k := fun e => h e.symm
      simp [h, h']

/-- The goal of one operation. -/
def RgGoal (P : Program) (ops : Array Oper) (Q : Exit → Act → World → Prop) (S : World → Prop) (C : Nat → World → Prop) (R : Bool → World → World → Prop) (a : Act) (F0 : Nat) (rs : List RgOp) (ks : List Nat) (i : RgOp) : Prop :=
  ((∀ u v w w', R false w w' → i.F u v w → i.F u v w') ∧ (i.wr = false → ∀ u v w w', R true w w' → i.F u v w → i.F u v w')) ∧
  ∃ o, ops[i.idx]? = some o ∧ ∀ f u w, f < F0 → C (f + 1) w → FAll rs u w i.deps → ∀ K : Act → World → Prop,
    Shut (∀ v w', S w' → C f w' → R i.wr w w' → i.F (mask i.deps u) v w' → K ((putAll ops a u ks).put o.dst v) w') →
    if Region.wanted o (yielded ops (putAll ops a u ks).tmps) = true then Oper.wp P o (putAll ops a u ks) w K Q else K ((putAll ops a u ks).put o.dst undef) w

def RgGoals (P : Program) (ops : Array Oper) (Q : Exit → Act → World → Prop) (S : World → Prop) (C : Nat → World → Prop) (R : Bool → World → World → Prop) (a : Act) (F0 : Nat) (rs : List RgOp) (ks : List Nat) : List RgOp → Prop
  | [] => True
  | i :: r => RgGoal P ops Q S C R a F0 rs ks i ∧ RgGoals P ops Q S C R a F0 rs ks r

theorem FAll.at_ {u : Nat → Value} {w : World} : ∀ {l : List Nat}, (∀ k ∈ l, FAt rs k u w) → FAll rs u w l
  | [], _ => trivial
  | k :: _, h => ⟨h k List.mem_cons_self, FAll.at_ fun j hj => h j (List.mem_cons_of_mem _ hj)⟩

theorem FAt.mono {k : Nat} {u u' : Nat → Value} {w w' : World} : ∀ {rs : List RgOp}, (∀ i ∈ rs, i.idx = k → i.holds u w → i.holds u' w') → FAt rs k u w → FAt rs k u' w'
  | [], _, _ => trivial
  | i :: r, h, h1 => by
    unfold FAt at *
    split
    · rename_i e; rw [if_pos e] at h1; exact h i List.mem_cons_self e h1
    · rename_i e; rw [if_neg e] at h1; exact FAt.mono (fun j hj => h j (List.mem_cons_of_mem _ hj)) h1
theorem FAt.of {k : Nat} {u : Nat → Value} {w : World} : ∀ {rs : List RgOp}, (∀ i ∈ rs, i.idx = k → i.holds u w) → FAt rs k u w
  | [], _ => trivial
  | i :: r, h => by
    unfold FAt
    split
    · rename_i e; exact h i List.mem_cons_self e
    · exact FAt.of (fun j hj => h j (List.mem_cons_of_mem _ hj))
theorem RgGoals.mem {ks : List Nat} {i : RgOp} : ∀ {l : List RgOp}, RgGoals P ops Q S C R a F0 rs ks l → i ∈ l → RgGoal P ops Q S C R a F0 rs ks i
  | [], _, h => by cases h
  | j :: r, h, hi => by
    rcases List.mem_cons.1 hi with rfl | hi
    · exact h.1
    · exact h.2.mem hi

theorem filter_less {p q : Nat → Bool} {i : Nat} (h : ∀ x, x ≠ i → q x = p x) : ∀ {l : List Nat}, l.Nodup → i ∈ l → p i = true → q i = false → (l.filter p).length = (l.filter q).length + 1
  | [], _, h1, _, _ => by cases h1
  | j :: r, hn, h1, h2, h3 => by
    obtain ⟨hj, hn'⟩ := List.nodup_cons.1 hn
    rcases List.mem_cons.1 h1 with rfl | h1
    · have : r.filter q = r.filter p := List.filter_congr fun x hx => h x (fun e => hj (e ▸ hx))
      simp only [List.filter_cons, h2, h3, if_true, List.length_cons, Bool.false_eq_true, if_false, this]
    · have ih := filter_less h hn' h1 h2 h3
      have hq := h j (fun e => hj (e ▸ h1))
      simp only [List.filter_cons, hq]
      split
      · rw [List.length_cons, List.length_cons, ih]
      · exact ih
theorem apart_nodup (ops : Array Oper) : ∀ {l : List Nat}, apartB ops l = true → l.Nodup
  | [], _ => List.nodup_nil
  | x :: t, hd => by
    simp only [apartB, Bool.and_eq_true, List.all_eq_true, bne_iff_ne, ne_eq] at hd
    exact List.nodup_cons.2 ⟨fun h => (hd.1 x h).1 rfl, apart_nodup ops hd.2⟩

theorem ready_none {listed : Array Bool} (hsz : listed.size = ops.size) (hback : ∀ i o, ops[i]? = some o → ∀ e ∈ o.after, Region.binds md e = true → e.on < i) (h : Region.ready md ops listed = []) :
    ∀ i, i < ops.size → listed.getD i true = true := by
  intro i
  induction i using Nat.strongRecOn with
  | _ i ih =>
    intro hi
    cases hl : listed.getD i true with
    | true => rfl
    | false =>
      have ho : ops[i]? = some ops[i] := Array.getElem?_eq_getElem hi
      have : i ∈ Region.ready md ops listed := mem_ready.2 ⟨hl, _, ho, fun e he hb => by
        have h1 := hback i _ ho e he hb
        have h2 := ih e.on h1 (by omega)
        have h3 : e.on < listed.size := by omega
        simpa [h3] using h2⟩
      rw [h] at this
      cases this
theorem apart_inj {k r : RgOp} (ops : Array Oper) : ∀ {l : List RgOp}, apartB ops (l.map (·.idx)) = true → k ∈ l → r ∈ l → k.idx = r.idx → k = r
  | [], _, h, _, _ => by cases h
  | x :: t, hd, h1, h2, e => by
    simp only [List.map_cons, apartB, Bool.and_eq_true, List.all_eq_true, bne_iff_ne, ne_eq] at hd
    rcases List.mem_cons.1 h1 with h3 | h3 <;> rcases List.mem_cons.1 h2 with h4 | h4
    · rw [h3, h4]
    · subst h3; exact absurd e.symm (hd.1 _ (List.mem_map.2 ⟨_, h4, rfl⟩)).1
    · subst h4; exact absurd e (hd.1 _ (List.mem_map.2 ⟨_, h3, rfl⟩)).1
    · exact apart_inj ops hd.2 h3 h4 e
theorem getD_false_true {l : Array Bool} {i : Nat} (h : l.getD i false = true) : l.getD i true = true := by
  rcases Nat.lt_or_ge i l.size with h' | h'
  · simpa [h'] using h
  · simp [Array.getElem?_eq_none h'] at h
theorem getD_true_false {l : Array Bool} {i : Nat} (h : l.getD i true = false) : l.getD i false ≠ true := fun e => by
  rw [getD_false_true e] at h; cases h

theorem zip_maps : ∀ rs : List RgOp, (rs.map (·.idx)).zip (rs.map (·.deps)) = rs.map fun r => (r.idx, r.deps)
  | [] => rfl
  | x :: t => by simp [zip_maps t]
theorem rg_aux {listed0 : Array Bool} {X : Nat} (hW : oneB rs = true) (hB : rgB md ops listed0 F0 (rs.map (·.idx)) (rs.map (·.deps)) = true)
    (hG : RgGoals P ops Q S C R a F0 rs (rs.map (·.idx)) rs)
    (hE : ∀ u w, C X w → FAll rs u w (rs.map (·.idx)) → wpAnyH P md ops Q S X (listAll listed0 (rs.map (·.idx))) (putAll ops a u (rs.map (·.idx))) w) :
    ∀ (fuel : Nat) (listed : Array Bool) (u : Nat → Value) (w : World), fuel ≤ F0 → listed.size = ops.size →
      (∀ i, i ∉ rs.map (·.idx) → listed[i]? = listed0[i]?) → fuel = X + ((rs.map (·.idx)).filter fun i => !listed.getD i true).length →
      (∀ i, listed0.getD i false = true → listed.getD i false = true) →
      (∀ k ∈ rs, listed.getD k.idx true = true → ∀ j ∈ k.deps, listed.getD j false = true) → C fuel w → (∀ k ∈ rs, listed.getD k.idx true = true → k.holds u w) →
      wpAnyH P md ops Q S fuel listed (putAll ops a u (rs.map (·.idx))) w := by
  simp only [rgB, Bool.and_eq_true, List.all_eq_true, List.mem_range, beq_iff_eq] at hB
  obtain ⟨⟨⟨⟨⟨⟨hsz0, hap⟩, _⟩, _⟩, hrest⟩, hback0⟩, hdeps0⟩ := hB
  have hnd := apart_nodup ops hap
  have hback : ∀ i o, ops[i]? = some o → ∀ e ∈ o.after, Region.binds md e = true → e.on < i := by
    intro i o ho e he hb
    have h1 := hback0 i (Array.getElem?_eq_some_iff.1 ho).1
    rw [ho] at h1
    have h2 := Array.all_eq_true_iff_forall_mem.1 h1 e he
    simpa [hb] using h2
  rw [zip_maps] at hdeps0
  have hedges : ∀ r ∈ rs, ∃ o, ops[r.idx]? = some o ∧ (∀ e ∈ o.after, Region.binds md e = true → listed0.getD e.on false = true ∨ e.on ∈ rs.map (·.idx)) ∧
      ∀ j ∈ r.deps, ∃ e ∈ o.after, Region.binds md e = true ∧ (e.on = j ∨ ∃ k ∈ rs, k.idx = e.on ∧ j ∈ k.deps) := by
    intro r hr
    have h1 := hdeps0 (r.idx, r.deps) (List.mem_map_of_mem hr)
    cases ho : ops[r.idx]? with
    | none => simp [ho] at h1
    | some o =>
      simp only [ho, Bool.and_eq_true, List.all_eq_true] at h1
      refine ⟨o, rfl, fun e he hb => ?_, fun j hj => ?_⟩
      · have h2 := Array.all_eq_true_iff_forall_mem.1 h1.1 e he
        simp only [hb, Bool.not_true, Bool.false_or, Bool.or_eq_true, List.contains_eq_mem, decide_eq_true_eq] at h2
        exact h2
      · obtain ⟨e, he, h3⟩ := Array.any_eq_true'.1 (h1.2 j hj)
        simp only [Bool.and_eq_true, Bool.or_eq_true, beq_iff_eq, List.any_eq_true, List.mem_map, List.contains_eq_mem, decide_eq_true_eq] at h3
        refine ⟨e, he, h3.1, ?_⟩
        rcases h3.2 with h4 | ⟨x, ⟨k, hk, rfl⟩, h5, h6⟩
        · exact .inl h4
        · exact .inr ⟨k, hk, h5, h6⟩
  -- where all that is told of has come up
  have hend : ∀ (fuel : Nat) (listed : Array Bool) (u : Nat → Value) (w : World), listed.size = ops.size → (∀ i, i ∉ rs.map (·.idx) → listed[i]? = listed0[i]?) →
      fuel = X + ((rs.map (·.idx)).filter fun i => !listed.getD i true).length → (∀ k ∈ rs, listed.getD k.idx true = true) → C fuel w → (∀ k ∈ rs, listed.getD k.idx true = true → k.holds u w) →
      wpAnyH P md ops Q S fuel listed (putAll ops a u (rs.map (·.idx))) w := by
    intro fuel listed u w hsz hoff hfu hall hC hF
    have h0 : ((rs.map (·.idx)).filter fun i => !listed.getD i true) = [] := by
      rw [List.filter_eq_nil_iff]
      intro i hi
      obtain ⟨k, hk, rfl⟩ := List.mem_map.1 hi
      simp [hall k hk]
    have hfx : fuel = X := by rw [hfu, h0]; rfl
    subst hfx
    have hl : listed = listAll listed0 (rs.map (·.idx)) := by
      apply Array.ext_getElem?
      intro i
      rw [listAll_get]
      by_cases hi : i ∈ rs.map (·.idx)
      · by_cases hlt : i < listed0.size
        · rw [if_pos ⟨hi, hlt⟩]
          obtain ⟨k, hk, rfl⟩ := List.mem_map.1 hi
          have h1 := hall k hk
          have h2 : k.idx < listed.size := by omega
          rw [Array.getElem?_eq_getElem h2]
          simpa [h2] using h1
        · rw [if_neg (fun h => hlt h.2), Array.getElem?_eq_none (by omega), Array.getElem?_eq_none (by omega)]
      · rw [if_neg (fun h => hi h.1)]; exact hoff i hi
    rw [hl]
    exact hE u w hC (FAll.at_ fun k _ => FAt.of fun i hi _ => hF i hi (hall i hi))
  intro fuel
  induction fuel with
  | zero =>
    intro listed u w hf hsz hoff hfu _ hcl hC hF
    refine hend 0 listed u w hsz hoff hfu (fun k hk => ?_) hC hF
    cases hl : listed.getD k.idx true with
    | true => rfl
    | false =>
      have hz : ((rs.map (·.idx)).filter fun i => !listed.getD i true).length = 0 := by omega
      have : k.idx ∈ (rs.map (·.idx)).filter fun i => !listed.getD i true := List.mem_filter.2 ⟨List.mem_map_of_mem hk, by rw [hl]; rfl⟩
      rw [List.eq_nil_of_length_eq_zero hz] at this
      cases this
  | succ fuel ih =>
    intro listed u w hf hsz hoff hfu hmono hcl hC hF
    by_cases hall : ∀ k ∈ rs, listed.getD k.idx true = true
    · exact hend (fuel + 1) listed u w hsz hoff hfu hall hC hF
    -- what may come up is told of
    have hready : ∀ i ∈ Region.ready md ops listed, i ∈ rs.map (·.idx) := by
      intro i hi
      obtain ⟨hiun, o, ho, hedge⟩ := mem_ready.1 hi
      refine Classical.byContradiction fun hni => ?_
      have hilt := (Array.getElem?_eq_some_iff.1 ho).1
      have h1 := hrest i hilt
      have h2 : listed0.getD i true = false := by
        have h2 := hoff i hni
        have : i < listed.size := by omega
        have h3 : i < listed0.size := by omega
        simp only [Array.getD_eq_getD_getElem?, ← h2] at hiun ⊢
        exact hiun
      have h3 : (rs.map (·.idx)).contains i = false := by simpa using hni
      simp only [h2, h3, Bool.false_or, ho, List.all_eq_true] at h1
      refine hall fun k hk => ?_
      obtain ⟨e, he, h4⟩ := Array.any_eq_true'.1 (h1 k.idx (List.mem_map_of_mem hk))
      simp only [Bool.and_eq_true, beq_iff_eq] at h4
      have := hedge e he h4.1
      rw [h4.2] at this
      exact getD_false_true this
    refine ⟨fun h0 => ?_, fun i hi => ?_⟩
    · -- the first that has not come up may come up
      exfalso
      have : ∀ n, ∀ k ∈ rs, k.idx = n → listed.getD k.idx true = true := by
        intro n
        induction n using Nat.strongRecOn with
        | _ n ihn =>
          intro k hk hkn
          cases hl : listed.getD k.idx true with
          | true => rfl
          | false =>
            obtain ⟨o, ho, he, _⟩ := hedges k hk
            have : k.idx ∈ Region.ready md ops listed := mem_ready.2 ⟨hl, o, ho, fun e hee hb => by
              rcases he e hee hb with h | h
              · exact hmono _ h
              · obtain ⟨k', hk', e'⟩ := List.mem_map.1 h
                have hlt := hback k.idx o ho e hee hb
                have h5 := ihn k'.idx (by omega) k' hk' rfl
                rw [e'] at h5
                have h6 : k.idx < ops.size := (Array.getElem?_eq_some_iff.1 ho).1
                have h7 : e.on < listed.size := by omega
                simpa [h7] using h5⟩
            rw [h0] at this
            cases this
      exact hall fun k hk => this k.idx k hk rfl
    · obtain ⟨hiun, o, ho, hedge⟩ := mem_ready.1 hi
      have hilt := (Array.getElem?_eq_some_iff.1 ho).1
      obtain ⟨r, hr, hri⟩ := List.mem_map.1 (hready i hi)
      subst hri
      have hdl : ∀ k ∈ rs, k.idx = r.idx → ∀ j ∈ k.deps, listed.getD j false = true := by
        intro k hk hki j hj
        obtain ⟨o', ho', _, hd⟩ := hedges k hk
        rw [hki, ho] at ho'
        cases ho'
        obtain ⟨e, he, hb, h⟩ := hd j hj
        have hle := hedge e he hb
        rcases h with h | ⟨k', hk', h1, h2⟩
        · rw [← h]; exact hle
        · exact hcl k' hk' (by rw [h1]; exact getD_false_true hle) j h2
      obtain ⟨_, o', ho', H⟩ := hG.mem hr
      rw [ho] at ho'
      cases ho'
      have hset : (listed.setIfInBounds r.idx true).getD r.idx true = true := by
        have : r.idx < listed.size := by omega
        simp [this]
      have hback1 : ∀ k, (listed.setIfInBounds r.idx true).getD k true = true → k ≠ r.idx → listed.getD k true = true := fun k h hne => by
        rw [getD_set_ne true (Ne.symm hne)] at h; exact h
      refine wpOp_step ho fun K' hK => H fuel u w (by omega) hC (FAll.at_ fun j hj => FAt.of fun k hk e => hF k hk (by rw [e]; exact getD_false_true (hdl r hr rfl j hj))) K' ?_
      intro v w' hS' hC' hR' hF'
      refine hK _ _ ⟨hS', ?_⟩
      have hd : o.dst = dstOf ops r.idx := by simp [dstOf, ho]
      rw [hd, putAll_put ops a u r.idx v _ hap (List.mem_map_of_mem hr)]
      refine ih _ _ _ (by omega) (by simpa using hsz) ?_ ?_ ?_ ?_ hC' ?_
      · intro j hj
        rw [Array.getElem?_setIfInBounds_ne (fun e => hj (by rw [← e]; exact List.mem_map_of_mem hr))]
        exact hoff j hj
      · have := filter_less (p := fun i => !listed.getD i true) (q := fun i => !(listed.setIfInBounds r.idx true).getD i true) (i := r.idx) (l := rs.map (·.idx))
          (fun x hx => by rw [getD_set_ne true (Ne.symm hx)]) hnd (List.mem_map_of_mem hr) (by rw [hiun]; rfl) (by rw [hset]; rfl)
        omega
      · intro j hj; exact getD_set_true (hmono j hj)
      · intro k hk hkl j hj
        by_cases e : k.idx = r.idx
        · exact getD_set_true (hdl k hk e j hj)
        · exact getD_set_true (hcl k hk (hback1 _ hkl e) j hj)
      · intro k hk hkl
        by_cases e : k.idx = r.idx
        · have := apart_inj ops hap hk hr e
          subst this
          show k.F (mask k.deps (setU u k.idx v)) (setU u k.idx v k.idx) w'
          rw [setU_same, mask_setU (fun h => getD_true_false hiun (hdl k hk rfl _ h))]
          exact hF'
        · have h0 := hback1 _ hkl e
          show k.F (mask k.deps (setU u r.idx v)) (setU u r.idx v k.idx) w'
          rw [setU_ne u v e, mask_setU (fun h => getD_true_false hiun (hcl k hk h0 _ h))]
          cases hrw : r.wr with
          | false => rw [hrw] at hR'; exact (hG.mem hk).1.1 _ _ _ _ hR' (hF k hk h0)
          | true => rw [hrw] at hR'; exact (hG.mem hk).1.2 (oneB_spec hW hr hk hrw e) _ _ _ _ hR' (hF k hk h0)

/-- **The region, operation by operation, up to those that wait for all of these.** -/
theorem wpAnyH_rg {w : World} {fuel : Nat} {listed : Array Bool} (rs : List RgOp) (C : Nat → World → Prop) (R : Bool → World → World → Prop)
    (hW : oneB rs = true) (hB : rgB md ops listed fuel (rs.map (·.idx)) (rs.map (·.deps)) = true) (hC : C fuel w) (hG : RgGoals P ops Q S C R a fuel rs (rs.map (·.idx)) rs)
    (hE : ∀ u w, C (fuel - rs.length) w → FAll rs u w (rs.map (·.idx)) → wpAnyH P md ops Q S (fuel - rs.length) (listAll listed (rs.map (·.idx))) (putAll ops a u (rs.map (·.idx))) w) : wpAnyH P md ops Q S fuel listed a w := by
  have h0 := hB
  simp only [rgB, Bool.and_eq_true, List.all_eq_true, List.mem_range, beq_iff_eq] at h0
  obtain ⟨⟨⟨⟨⟨⟨hsz, _⟩, hun⟩, hlen⟩, _⟩, _⟩, _⟩ := h0
  have hun' : ∀ k ∈ rs, listed.getD k.idx true = false := fun k hk => by
    have := hun k.idx (List.mem_map_of_mem hk)
    simpa using this
  have hlen' : rs.length ≤ fuel := by simpa using hlen
  have hfl : ((rs.map (·.idx)).filter fun i => !listed.getD i true).length = rs.length := by
    rw [List.filter_eq_self.2]
    · simp
    · intro i hi
      obtain ⟨k, hk, rfl⟩ := List.mem_map.1 hi
      rw [hun' k hk]; rfl
  have h1 := rg_aux hW hB hG hE fuel listed (slotVal ops a) w (Nat.le_refl _) hsz (fun _ _ => rfl) (by rw [hfl]; omega) (fun _ h => h)
    (fun k hk hl => by rw [hun' k hk] at hl; cases hl) hC (fun k hk hl => by rw [hun' k hk] at hl; cases hl)
  rw [putAll_self] at h1
  exact h1
/-- The same, from the region's beginning. -/
theorem wp_region_rg {id : Nat} {w : World} (rs : List RgOp) (C : Nat → World → Prop) (R : Bool → World → World → Prop) (hm : P.follows .mixedOrders = true) (hW : oneB rs = true)
    (hB : rgB .any ops (Array.replicate ops.size false) ops.size (rs.map (·.idx)) (rs.map (·.deps)) = true) (hC : C ops.size w.drew)
    (hG : RgGoals P ops Q (fun _ => True) C R a ops.size rs (rs.map (·.idx)) rs)
    (hE : ∀ u w, C (ops.size - rs.length) w → FAll rs u w (rs.map (·.idx)) → wpAnyH P .any ops Q (fun _ => True) (ops.size - rs.length) (listAll (Array.replicate ops.size false) (rs.map (·.idx))) (putAll ops a u (rs.map (·.idx))) w) :
    (Code.region id ops true).wp P Q a w :=
  wp_region_held_drew (S := fun _ => True) hm trivial fun _ => wpAnyH_rg rs C R hW hB hC hG hE

/-! The frames written out by the list of the slots. -/
def putL (a : Act) (u : Nat → Value) : List (Nat × Option Tmp) → Act
  | [] => a
  | (i, d) :: r => (putL a u r).put d (u i)
def dsB (ops : Array Oper) (ds : List (Nat × Option Tmp)) (ks : List Nat) : Bool := ds.map (·.1) == ks && ds.all fun (i, d) => dstOf ops i == d
theorem putL_eq {u : Nat → Value} : ∀ {ds : List (Nat × Option Tmp)}, (∀ x ∈ ds, dstOf ops x.1 = x.2) → putL a u ds = putAll ops a u (ds.map (·.1))
  | [], _ => rfl
  | (i, d) :: r, h => by
    show (putL a u r).put d (u i) = (putAll ops a u (r.map (·.1))).put (dstOf ops i) (u i)
    rw [putL_eq (fun x hx => h x (List.mem_cons_of_mem _ hx)), h (i, d) List.mem_cons_self]
def GoalL (P : Program) (ops : Array Oper) (Q : Exit → Act → World → Prop) (C : Nat → World → Prop) (R : Bool → World → World → Prop) (a : Act) (F0 : Nat) (rs : List RgOp) (ds : List (Nat × Option Tmp)) (i : RgOp) : Prop :=
  ((∀ u v w w', R false w w' → i.F u v w → i.F u v w') ∧ (i.wr = false → ∀ u v w w', R true w w' → i.F u v w → i.F u v w')) ∧
  ∃ o, ops[i.idx]? = some o ∧ ∀ f u w, f < F0 → C (f + 1) w → FAll rs u w i.deps → ∀ K : Act → World → Prop,
    Shut (∀ v w', C f w' → R i.wr w w' → i.F (mask i.deps u) v w' → K ((putL a u ds).put o.dst v) w') →
    if Region.wanted o (yielded ops (putL a u ds).tmps) = true then Oper.wp P o (putL a u ds) w K Q else K ((putL a u ds).put o.dst undef) w
def GoalsL (P : Program) (ops : Array Oper) (Q : Exit → Act → World → Prop) (C : Nat → World → Prop) (R : Bool → World → World → Prop) (a : Act) (F0 : Nat) (rs : List RgOp) (ds : List (Nat × Option Tmp)) : List RgOp → Prop
  | [] => True
  | i :: r => GoalL P ops Q C R a F0 rs ds i ∧ GoalsL P ops Q C R a F0 rs ds r
theorem GoalsL.goals {ds : List (Nat × Option Tmp)} {ks : List Nat} (hd : ∀ u, putL a u ds = putAll ops a u ks) : ∀ {l : List RgOp}, GoalsL P ops Q C R a F0 rs ds l → RgGoals P ops Q (fun _ => True) C R a F0 rs ks l
  | [], _ => trivial
  | i :: r, h => by
    refine ⟨⟨h.1.1, ?_⟩, h.2.goals hd⟩
    obtain ⟨o, ho, H⟩ := h.1.2
    refine ⟨o, ho, fun f u w hf hC hD K hK => ?_⟩
    have h1 := H f u w hf hC hD K (fun v w' hC' hR hF => by rw [hd]; exact hK v w' trivial hC' hR hF)
    rw [hd] at h1
    exact h1
theorem GoalsL.nil {ds : List (Nat × Option Tmp)} : GoalsL P ops Q C R a F0 rs ds [] := trivial
theorem GoalsL.cons {ds : List (Nat × Option Tmp)} {i : RgOp} {r : List RgOp} (h : GoalL P ops Q C R a F0 rs ds i) (t : GoalsL P ops Q C R a F0 rs ds r) : GoalsL P ops Q C R a F0 rs ds (i :: r) := ⟨h, t⟩
/-- A goal that no tactic looks into. -/
structure Closed (p : Prop) : Prop where
  out : p
def nth : List Oper → Nat → Option Oper
  | [], _ => none
  | o :: _, 0 => some o
  | _ :: r, n + 1 => nth r n
theorem nth_eq : ∀ (l : List Oper) (n : Nat), l.toArray[n]? = nth l n
  | [], _ => by simp [nth]
  | o :: r, 0 => by simp [nth]
  | o :: r, n + 1 => by
    have := nth_eq r n
    simp only [List.getElem?_toArray] at this
    simp [nth, this]
theorem GoalL.mk {l : List Oper} {ds : List (Nat × Option Tmp)} {k : Nat} {wr : Bool} {D : List Nat} {F : (Nat → Value) → Value → World → Prop} {o : Oper} (ho : nth l k = some o)
    (hst : (∀ u v w w', R false w w' → F u v w → F u v w') ∧ (wr = false → ∀ u v w w', R true w w' → F u v w → F u v w'))
    (h : ∀ f u w, f < F0 → C (f + 1) w → FAll rs u w D → ∀ K : Act → World → Prop,
      Shut (∀ v w', C f w' → R wr w w' → F (mask D u) v w' → K ((putL a u ds).put o.dst v) w') →
      Closed (if Region.wanted o (yielded l.toArray (putL a u ds).tmps) = true then Oper.wp P o (putL a u ds) w K Q else K ((putL a u ds).put o.dst undef) w)) : GoalL P l.toArray Q C R a F0 rs ds ⟨k, wr, D, F⟩ :=
  ⟨hst, o, by rw [nth_eq]; exact ho, fun f u w hf hC hD K hK => (h f u w hf hC hD K hK).out⟩
/-- **A region that draws its order, operation by operation**, up to those that wait for all of these. -/
theorem wp_region_L {id : Nat} {w : World} (rs : List RgOp) (ds : List (Nat × Option Tmp)) (C : Nat → World → Prop) (R : Bool → World → World → Prop) (hm : P.follows .mixedOrders = true) (hW : oneB rs = true)
    (hB : rgB .any ops (Array.replicate ops.size false) ops.size (rs.map (·.idx)) (rs.map (·.deps)) = true) (hD : dsB ops ds (rs.map (·.idx)) = true) (hC : C ops.size w.drew)
    (hG : GoalsL P ops Q C R a ops.size rs ds rs)
    (hE : ∀ u w, C (ops.size - rs.length) w → FAll rs u w (rs.map (·.idx)) → Closed (wpAnyH P .any ops Q (fun _ => True) (ops.size - rs.length) (listAll (Array.replicate ops.size false) (rs.map (·.idx))) (putL a u ds) w)) :
    (Code.region id ops true).wp P Q a w := by
  simp only [dsB, Bool.and_eq_true, List.all_eq_true, beq_iff_eq] at hD
  have hd : ∀ u, putL a u ds = putAll ops a u (rs.map (·.idx)) := fun u => by
    rw [← hD.1]; exact putL_eq fun x hx => hD.2 x hx
  exact wp_region_rg rs C R hm hW hB hC (hG.goals hd) fun u w hC' hF => by have := (hE u w hC' hF).out; rw [hd] at this; exact this
/-- The one operation that may come up. -/
theorem one_ready {l : List Oper} {fuel i : Nat} {listed : Array Bool} {w : World} {o : Oper} (hr : Region.ready md l.toArray listed = [i]) (ho : nth l i = some o)
    (h : ∀ K : Act → World → Prop, Shut (∀ a w, wpAnyH P md l.toArray Q (fun _ => True) fuel (listed.setIfInBounds i true) a w → K a w) →
      Closed (if Region.wanted o (yielded l.toArray a.tmps) = true then Oper.wp P o a w K Q else K (a.put o.dst undef) w)) : wpAnyH P md l.toArray Q (fun _ => True) (fuel + 1) listed a w :=
  wpAnyH_ready hr (by simp) (AllReadyH.cons (by rw [nth_eq]; exact ho) (fun K hK => (h K (fun a w hW => hK.out a w trivial (fun _ => hW))).out) AllReadyH.nil)
def tget (v : Value) (k : Nat) : Value := match v with | .tuple a => a.getD k undef | _ => undef
end
end Go.Proofs.YthbnbofoefdneaaDoor

/- A store to a struct variable that the region itself made. -/
namespace Go.Proofs.YthbnbofoefdneaaDoor
open Go.RowKit
set_option linter.unusedSimpArgs false
set_option linter.unusedVariables false
/-- A block of type T, number B or later, gets other cells, as many as before; nothing else turns. -/
def BoxW (B : Nat) (T : TypeId) (w w' : World) : Prop := ∃ g cs cs', B ≤ g ∧ w.heap[g]? = some (.cells cs T (0, 0)) ∧ w'.heap[g]? = some (.cells cs' T (0, 0)) ∧ cs'.size = cs.size ∧ w.grownBy w' (some g)
theorem BoxW.size {B : Nat} {T : TypeId} {w w' : World} (h : BoxW B T w w') : w.heap.size ≤ w'.heap.size := by obtain ⟨_, _, _, _, _, _, _, h⟩ := h; exact h.size
theorem Own.boxW {α : Type} {base E k B : Nat} {T : TypeId} {enc : α → List Value} {w w' : World} {v : Value} {xs : List α} (h : Own base E k enc w v xs) (hb : BoxW B T w w') (hT : T ≠ E) : Own base E k enc w' v xs := by
  obtain ⟨g, cs, cs', _, h1, _, _, hg⟩ := hb
  exact h.growns hg (.inr (h.ne h1 hT))
theorem boxW_off {B k : Nat} {T E : TypeId} {cs : Array Value} {fr : Nat × Nat} {w w' : World} (h : w.heap[k]? = some (.cells cs E fr)) (hb : BoxW B T w w') (hT : T ≠ E) : w'.heap[k]? = some (.cells cs E fr) := by
  obtain ⟨g, c1, c2, _, h1, _, _, hg⟩ := hb
  refine (hg.block k (heap_lt h) (fun e => ?_)).trans h
  injection e with e
  subst e
  rw [h1] at h
  injection h with h; injection h with _ h _
  exact hT h
theorem boxW_shape {B k : Nat} {T : TypeId} {cs : Array Value} {w w' : World} (h : w.heap[k]? = some (.cells cs T (0, 0))) (hb : BoxW B T w w') : ∃ cs', w'.heap[k]? = some (.cells cs' T (0, 0)) ∧ cs'.size = cs.size := by
  obtain ⟨g, c1, c2, _, h1, h2, h3, hg⟩ := hb
  by_cases e : k = g
  · subst e
    rw [h1] at h
    injection h with h; injection h with h _ _
    exact ⟨c2, h2, by rw [h3, h]⟩
  · exact ⟨cs, (hg.block k (heap_lt h) (fun e' => e (by injection e'))).trans h, rfl⟩
theorem cells3 {cs : Array Value} (h : cs.size = 3) : ∃ x y z, cs = #[x, y, z] := by
  obtain ⟨l⟩ := cs
  match l, h with
  | [x, y, z], _ => exact ⟨x, y, z, rfl⟩
theorem cells4 {cs : Array Value} (h : cs.size = 4) : ∃ x y z u, cs = #[x, y, z, u] := by
  obtain ⟨l⟩ := cs
  match l, h with
  | [x, y, z, u], _ => exact ⟨x, y, z, u, rfl⟩
theorem cells5 {cs : Array Value} (h : cs.size = 5) : ∃ x y z u v, cs = #[x, y, z, u, v] := by
  obtain ⟨l⟩ := cs
  match l, h with
  | [x, y, z, u, v], _ => exact ⟨x, y, z, u, v, rfl⟩
theorem same_tuple {v : Value} {g g' : Nat} (h : v = .pointer (some ⟨g, 0, none⟩)) (h' : v = .pointer (some ⟨g', 0, none⟩)) : g' = g := by
  rw [h] at h'; injection h' with h'; injection h' with h'; injection h' with h'; exact h'.symm
theorem same_agg {v : Value} {a b : Array Value} (h : v = .agg a) (h' : v = .agg b) : b = a := by
  rw [h] at h'; injection h' with h'; exact h'.symm
end Go.Proofs.YthbnbofoefdneaaDoor

/- The input of a law, a slice of bytes, as a row. -/
namespace Go.Proofs.YthbnbofoefdneaaDoor
open Go.RowKit
set_option linter.unusedSimpArgs false
set_option linter.unusedVariables false
theorem Row.alloc {α : Type} {k : Nat} {enc : α → List Value} {w : World} {v : Value} {xs : List α} (h : Row k enc w v xs) (o : Obj) : Row k enc (w.alloc o) v xs := h.below ((Below.refl _ _).alloc (Nat.le_refl _) o)
theorem bytes_row {w : World} {x : Addr} {len cap : Nat} {zs : List Int} (hl : len ≤ cap) (hm : cap ≤ maxLen) (hz : zs.length = cap) (hcell : ∀ i, i < zs.length → w.cell? (x.add i) = some (.int .u8 (zs.getD i 0))) (hwz : ∀ n ∈ zs, (Lit.int .u8 n).wf = true) :
    ∃ bs, Row 1 encB w (.slice (some x) len cap) bs ∧ ∀ y ∈ bs, 0 ≤ y ∧ y ≤ 255 := by
  have hlen : (zs.take len).length = len := by simp; omega
  refine ⟨zs.take len, ⟨some x, cap, by rw [hlen], by omega, by unfold maxLen at hm; omega, (fun e => by cases e), fun hn => ?_⟩, fun y hy => ?_⟩
  · have h0 := hcell 0 (by omega)
    obtain ⟨b, off, spot⟩ := x
    have hs : spot = none := by simpa [Addr.add] using World.cell?_spot h0
    subst hs
    have hlt : b < w.heap.size := by
      have := World.block_lt_of_cell? w _ h0
      simpa [Addr.add] using this
    refine ⟨b, off, rfl, hlt, fun i y hy j u hu => ?_⟩
    match j, hu with
    | j + 1, hu => simp [encB] at hu
    | 0, hu =>
      simp only [encB, List.getElem?_cons_zero, Option.some.injEq] at hu
      subst hu
      rw [List.getElem?_take] at hy
      split at hy
      · have hi := hcell i (get_lt hy)
        rw [Addr.add_lit] at hi
        rw [Nat.mul_one, Nat.add_zero, hi, List.getD_eq_getElem?_getD, hy]
        rfl
      · cases hy
  · have h := hwz y (List.mem_of_mem_take hy)
    simpa [Lit.wf, IntKind.min, IntKind.max, IntKind.signed, IntKind.bits] using h
end Go.Proofs.YthbnbofoefdneaaDoor

/- Slices of strings. -/
namespace Go.Proofs.YthbnbofoefdneaaDoor
open Go.RowKit
set_option linter.unusedSimpArgs false
set_option linter.unusedVariables false
def encZ (s : ByteArray) : List Value := [.string s]
theorem encZ_len (s : ByteArray) : (encZ s).length = 1 := rfl
theorem one_str (s : ByteArray) : ∀ u ∈ encZ s, u.oneCell' = true := fun u hu => by simp only [encZ, List.mem_cons, List.not_mem_nil, or_false] at hu; subst hu; rfl
def ZRow (w : World) (v : Value) (xs : List ByteArray) : Prop := Row 1 encZ w v xs
theorem ZRow.look {w : World} {v : Value} {xs : List ByteArray} (h : ZRow w v xs) :
    ∃ a cap, v = .slice a xs.length cap ∧ xs.length ≤ cap ∧ cap ≤ 9223372036854775807 ∧
      (0 < xs.length → ∃ b off, a = some ⟨b, off, none⟩ ∧ b < w.heap.size ∧ ∀ i x, xs[i]? = some x → w.cell? ⟨b, off + i, none⟩ = some (.string x)) := by
  obtain ⟨a, cap, e, h1, h2, h3, h4⟩ := h
  refine ⟨a, cap, e, h1, h2, fun hn => ?_⟩
  obtain ⟨b, off, e2, hlt, hc⟩ := h4 hn
  exact ⟨b, off, e2, hlt, fun i x hx => by simpa using hc i x hx 0 _ rfl⟩
theorem info_string : (Tryd.prog.info? 9).map (fun i => (i.zero, i.size, i.bytes)) = some (some (.string ⟨#[]⟩), 1, 16) := by kernel_rfl
theorem info_Ops : (Tryd.prog.info? 74).map (fun i => (i.zero, i.size, i.bytes)) = some (some (.slice none 0 0), 1, 24) := by kernel_rfl
end Go.Proofs.YthbnbofoefdneaaDoor
