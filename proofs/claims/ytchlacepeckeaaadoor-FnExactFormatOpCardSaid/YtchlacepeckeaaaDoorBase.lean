/- Slices that read as lists; slices that a call owns; the laws of append for them. -/
import Derived.Test.YtchlacepeckeaaaDoorRows
import Derived.WalkKit
import Derived.WalkSpells
import Derived.WalkLawsBesides
import Derived.Deep.QuietTactic
import Derived.BigQuiet
import Derived.Lib.Hide
import Derived.Maps.AppendAt
import Derived.Laws.AppendOwnNone
namespace Go.Proofs.YtchlacepeckeaaaDoor
open Go.RowKit
set_option linter.unusedSimpArgs false
set_option linter.unusedVariables false

/-- In w the slice v reads as the list xs: element i lies in k cells, as enc says. -/
def Row {α : Type} (k : Nat) (enc : α → List Value) (w : World) (v : Value) (xs : List α) : Prop :=
  ∃ a cap, v = .slice a xs.length cap ∧ xs.length ≤ cap ∧ cap ≤ 9223372036854775807 ∧ (a = none → cap = 0) ∧
    (0 < xs.length → ∃ b off, a = some ⟨b, off, none⟩ ∧ b < w.heap.size ∧
      ∀ i x, xs[i]? = some x → ∀ j u, (enc x)[j]? = some u → w.cell? ⟨b, off + i * k + j, none⟩ = some u)

def encI (x : Int) : List Value := [.int .i64 x]
def encP (x : Int × Int) : List Value := [.int .i64 x.1, .int .i64 x.2]
/-- A slice of ints. -/
def IRow (w : World) (v : Value) (xs : List Int) : Prop := Row 1 encI w v xs
/-- A slice of structs of two ints. -/
def PRow (w : World) (v : Value) (q : List (Int × Int)) : Prop := Row 2 encP w v q

theorem Row.below {α : Type} {k : Nat} {enc : α → List Value} {w w' : World} {v : Value} {xs : List α} (h : Row k enc w v xs) (hb : Below w.heap.size w w') : Row k enc w' v xs := by
  obtain ⟨a, cap, e, h1, h2, h3, h4⟩ := h
  refine ⟨a, cap, e, h1, h2, h3, fun hn => ?_⟩
  obtain ⟨b, off, e2, hlt, hc⟩ := h4 hn
  exact ⟨b, off, e2, Nat.lt_of_lt_of_le hlt hb.size, fun i x hx j u hu => (hb.cell (p := ⟨b, off + i * k + j, none⟩) hlt).trans (hc i x hx j u hu)⟩
theorem IRow.below {w w' : World} {v : Value} {xs : List Int} (h : IRow w v xs) (hb : Below w.heap.size w w') : IRow w' v xs := Row.below h hb
theorem PRow.below {w w' : World} {v : Value} {q : List (Int × Int)} (h : PRow w v q) (hb : Below w.heap.size w w') : PRow w' v q := Row.below h hb

theorem Row.nil {α : Type} (k : Nat) (enc : α → List Value) (w : World) : Row k enc w (.slice none 0 0) [] :=
  ⟨none, 0, rfl, Nat.le_refl _, by omega, fun _ => rfl, fun h => absurd h (by simp)⟩

/-- What a walk is told of a slice of ints. -/
theorem IRow.look {w : World} {v : Value} {xs : List Int} (h : IRow w v xs) :
    ∃ a cap, v = .slice a xs.length cap ∧ xs.length ≤ cap ∧ cap ≤ 9223372036854775807 ∧
      (0 < xs.length → ∃ b off, a = some ⟨b, off, none⟩ ∧ b < w.heap.size ∧ ∀ i x, xs[i]? = some x → w.cell? ⟨b, off + i, none⟩ = some (.int .i64 x)) := by
  obtain ⟨a, cap, e, h1, h2, h3, h4⟩ := h
  refine ⟨a, cap, e, h1, h2, fun hn => ?_⟩
  obtain ⟨b, off, e2, hlt, hc⟩ := h4 hn
  exact ⟨b, off, e2, hlt, fun i x hx => by simpa using hc i x hx 0 _ rfl⟩
/-- What a walk is told of a slice of pairs. -/
theorem PRow.look {w : World} {v : Value} {q : List (Int × Int)} (h : PRow w v q) :
    ∃ a cap, v = .slice a q.length cap ∧ q.length ≤ cap ∧ cap ≤ 9223372036854775807 ∧
      (0 < q.length → ∃ b off, a = some ⟨b, off, none⟩ ∧ b < w.heap.size ∧
        ∀ i x, q[i]? = some x → w.cell? ⟨b, off + i * 2, none⟩ = some (.int .i64 x.1) ∧ w.cell? ⟨b, off + i * 2 + 1, none⟩ = some (.int .i64 x.2)) := by
  obtain ⟨a, cap, e, h1, h2, h3, h4⟩ := h
  refine ⟨a, cap, e, h1, h2, fun hn => ?_⟩
  obtain ⟨b, off, e2, hlt, hc⟩ := h4 hn
  exact ⟨b, off, e2, hlt, fun i x hx => ⟨by simpa using hc i x hx 0 _ rfl, by simpa using hc i x hx 1 _ rfl⟩⟩

/-- The cells of a row, one behind the other. -/
theorem flat_length {α : Type} {k : Nat} {enc : α → List Value} (hk : ∀ x, (enc x).length = k) (xs : List α) : (xs.flatMap enc).length = xs.length * k := by
  induction xs with
  | nil => simp
  | cons x r ih => simp [hk, ih, Nat.add_mul]; omega
theorem flat_get {α : Type} {k : Nat} {enc : α → List Value} (hk : ∀ x, (enc x).length = k) : ∀ (xs : List α) (i : Nat) (x : α), xs[i]? = some x → ∀ j u, (enc x)[j]? = some u → (xs.flatMap enc)[i * k + j]? = some u
  | [], i, x, h, _, _, _ => by simp at h
  | y :: r, 0, x, h, j, u, hu => by
    simp only [List.getElem?_cons_zero, Option.some.injEq] at h
    subst h
    have hj : j < (enc y).length := by
      rcases Nat.lt_or_ge j (enc y).length with h | h
      · exact h
      · rw [List.getElem?_eq_none h] at hu; cases hu
    simp only [List.flatMap_cons, Nat.zero_mul, Nat.zero_add]
    rw [List.getElem?_append_left hj]; exact hu
  | y :: r, i + 1, x, h, j, u, hu => by
    simp only [List.getElem?_cons_succ] at h
    have ih := flat_get hk r i x h j u hu
    simp only [List.flatMap_cons]
    rw [List.getElem?_append_right (by rw [hk, Nat.add_mul]; omega), hk]
    rw [show (i + 1) * k + j - k = i * k + j by rw [Nat.add_mul]; omega]
    exact ih
theorem flat_get_inv {α : Type} {k : Nat} {enc : α → List Value} (hk : ∀ x, (enc x).length = k) (h0 : 0 < k) {xs : List α} {j : Nat} {u : Value} (h : (xs.flatMap enc)[j]? = some u) :
    ∃ x, xs[j / k]? = some x ∧ (enc x)[j % k]? = some u := by
  have hlt : j < xs.length * k := by
    rw [← flat_length hk xs]
    rcases Nat.lt_or_ge j (xs.flatMap enc).length with h' | h'
    · exact h'
    · rw [List.getElem?_eq_none h'] at h; cases h
  have hd : j / k < xs.length := Nat.div_lt_of_lt_mul (by rw [Nat.mul_comm]; exact hlt)
  have hm : j % k < k := Nat.mod_lt _ h0
  have hx : xs[j / k]? = some xs[j / k] := List.getElem?_eq_getElem hd
  have hu : (enc xs[j / k])[j % k]? = some ((enc xs[j / k])[j % k]'(by rw [hk]; exact hm)) := List.getElem?_eq_getElem _
  have := flat_get hk xs _ _ hx _ _ hu
  rw [show j / k * k + j % k = j by rw [Nat.mul_comm]; exact Nat.div_add_mod j k] at this
  refine ⟨_, hx, ?_⟩
  rw [hu, ← this, h]

/-- The slice v belongs to the call (its block is number base or later) and holds xs. -/
def Own {α : Type} (base : Nat) (E k : Nat) (enc : α → List Value) (w : World) (v : Value) (xs : List α) : Prop :=
  w.ownsRow base E k v xs.length (xs.flatMap enc)

theorem Own.nil {α : Type} (base E k : Nat) (enc : α → List Value) (w : World) : Own base E k enc w (.slice none 0 0) ([] : List α) := World.ownsRow_nil w base E k

theorem Own.row {α : Type} {base E k : Nat} {enc : α → List Value} {w : World} {v : Value} {xs : List α} (hk : ∀ x, (enc x).length = k) (h : Own base E k enc w v xs) : Row k enc w v xs := by
  obtain ⟨h1, h2⟩ := h
  rcases h2 with ⟨rfl, h0⟩ | ⟨g, cap, cur, rfl, hb, hg, hn, hc, hs, ht⟩
  · have : xs = [] := List.eq_nil_of_length_eq_zero h0
    subst this; exact Row.nil k enc w
  · refine ⟨_, _, rfl, hn, by unfold maxLen at hc; omega, fun e => (by cases e), fun _ => ⟨g, 0, rfl, (Array.getElem?_eq_some_iff.1 hg).1, fun i x hx j u hu => ?_⟩⟩
    have h3 := flat_get hk xs i x hx j u hu
    rw [← ht, List.getElem?_take] at h3
    split at h3
    · rw [cell_of_row w g (0 + i * k + j) cur E (0, 0) hg, Nat.zero_add]
      simpa using h3
    · cases h3

theorem Own.kept {α : Type} {base E k : Nat} {enc : α → List Value} {w w' : World} {v : Value} {xs : List α} (h : Own base E k enc w v xs) (hb : Below w.heap.size w w') : Own base E k enc w' v xs := by
  refine ⟨h.1, ?_⟩
  rcases h.2 with h2 | ⟨g, cap, cur, hv, hg, hh, r⟩
  · exact .inl h2
  · exact .inr ⟨g, cap, cur, hv, hg, (hb.block g (Array.getElem?_eq_some_iff.1 hh).1).trans hh, r⟩

/-- The block of an owned slice, if it has one. -/
theorem Own.block {α : Type} {base E k : Nat} {enc : α → List Value} {w : World} {v : Value} {xs : List α} (h : Own base E k enc w v xs) : ∀ g, v.ownBlock = some g → base ≤ g ∧ g < w.heap.size := World.ownsRow.lt h

theorem Own.form {α : Type} {base E k : Nat} {enc : α → List Value} {w : World} {v : Value} {xs : List α} (h : Own base E k enc w v xs) : ∃ ad cap, v = .slice ad xs.length cap := by
  rcases h.2 with ⟨h2, h0⟩ | ⟨g, cap, cur, hv, _⟩
  · exact ⟨none, 0, by rw [h2, h0]⟩
  · exact ⟨_, _, hv⟩

theorem Own.mono {α : Type} {base base' E k : Nat} {enc : α → List Value} {w : World} {v : Value} {xs : List α} (h : Own base E k enc w v xs) (hb : base' ≤ base) : Own base' E k enc w v xs := by
  refine ⟨h.1, ?_⟩
  rcases h.2 with h2 | ⟨g, cap, cur, hv, hg, hh, r⟩
  · exact .inl h2
  · exact .inr ⟨g, cap, cur, hv, by omega, hh, r⟩

theorem Own.set {α : Type} {base E k : Nat} {enc : α → List Value} {w : World} {v : Value} {xs : List α} (h : Own base E k enc w v xs) {a : Addr} (ha : a.block < base) (u : Value) : Own base E k enc (w.setCell a u) v xs := ownsRow_setCell_below h ha u

theorem encI_len (x : Int) : (encI x).length = 1 := rfl
theorem encP_len (x : Int × Int) : (encP x).length = 2 := rfl

/-- What append is told of the slice whose elements it takes. -/
def Src (w : World) (v : Value) (m : Nat) (news : List Value) : Prop :=
  ∃ a c, v = .slice a m c ∧ (a = none → c = 0 ∧ m = 0) ∧ ∀ ad, a = some ad → ∀ j u, news[j]? = some u → w.cell? (ad.add j) = some u

theorem Row.src {α : Type} {k : Nat} {enc : α → List Value} (hk : ∀ x, (enc x).length = k) (h0 : 0 < k) {w : World} {v : Value} {xs : List α} (h : Row k enc w v xs) : Src w v xs.length (xs.flatMap enc) := by
  obtain ⟨a, cap, e, h1, h2, h3, h4⟩ := h
  refine ⟨a, cap, e, fun ha => ⟨h3 ha, by have := h3 ha; omega⟩, fun ad hd j u hu => ?_⟩
  have hlt : j < xs.length * k := by
    rw [← flat_length hk xs]
    rcases Nat.lt_or_ge j (xs.flatMap enc).length with h' | h'
    · exact h'
    · rw [List.getElem?_eq_none h'] at hu; cases hu
  have hn : 0 < xs.length := Nat.pos_of_ne_zero fun e0 => by rw [e0, Nat.zero_mul] at hlt; omega
  obtain ⟨b, off, e2, _, hc⟩ := h4 hn
  rw [e2] at hd
  cases hd
  obtain ⟨x, hx, hu2⟩ := flat_get_inv hk h0 hu
  have := hc _ x hx _ u hu2
  rw [Nat.add_assoc, show j / k * k + j % k = j by rw [Nat.mul_comm]; exact Nat.div_add_mod j k] at this
  rw [Addr.add_lit]; exact this

section
variable {P : Program} (w : World)

/-- append(own, src...), whatever src is. -/
theorem wpList_concat {ops : Array Oper} {rest : List Oper} {o : Oper} {a : Act} {Q : Exit → Act → World → Prop} (hgd : o.guard = none) (s x : Operand) (t : TypeId)
    (ho : o.op = .call { callee := .builtin .append, args := #[s, x], argTypes := #[t, t] })
    (base e : Nat) (z : Value) (size bytes : Nat) (ht : P.underlying t = some (.slice e)) (hinfo : (P.info? e).map (fun i => (i.zero, i.size, i.bytes)) = some (some z, size, bytes)) (hzs : z.cells.size = size) (hsz : 0 < size)
    (v : Value) (n : Nat) (xs : List Value) (hs : a.eval s = v) (hown : w.ownsRow base e size v n xs)
    (sv : Value) (m : Nat) (news : List Value) (hx : a.eval x = sv) (hsrc : Src w sv m news) (hl : news.length = m * size) (h1 : ∀ u ∈ news, u.oneCell' = true)
    (h63 : n + m ≤ 9223372036854775807) (hbytes : (n + m) * bytes ≤ 140737488355328) (hbase : base ≤ w.heap.size)
    (h : ∀ v' w', w'.ownsRow base e size v' (n + m) (xs ++ news) → w.grownBy w' v.ownBlock → (v'.ownBlock = v.ownBlock ∨ v'.ownBlock = some w.heap.size) → wpList P ops Q rest (a.put o.dst v') w') :
    wpList P ops Q (o :: rest) a w := by
  obtain ⟨i, hi, hz, hsize, hby⟩ := info_parts hinfo
  obtain ⟨ad, c, rfl, hnone, hcells⟩ := hsrc
  cases ad with
  | none =>
    obtain ⟨rfl, rfl⟩ := hnone rfl
    have : news = [] := List.eq_nil_of_length_eq_zero (by simpa using hl)
    subst this
    exact wpList_append_own_none hgd s x t ho base e i size ht hi v n xs hs hown hx (h v w (by simpa using hown) (World.grownBy.refl w _) (.inl rfl))
  | some ad =>
    exact wpList_append_own_at w hgd s x t ho base e i z size bytes ht hi hz hsize hby hzs hsz v n xs hs hown ad m c news hx hl (hcells ad rfl) h1 h63 hbytes hbase (fun v' w' a b _ d => h v' w' a b d)

/-- append(own, x) of one element, which lies in the newest block. -/
theorem wpList_push {ops : Array Oper} {rest : List Oper} {o : Oper} {a : Act} {Q : Exit → Act → World → Prop} (hgd : o.guard = none) (s x : Operand) (t : TypeId)
    (ho : o.op = .call { callee := .builtin .append, args := #[s, x], argTypes := #[t, t] })
    (base e : Nat) (z : Value) (size bytes : Nat) (ht : P.underlying t = some (.slice e)) (hinfo : (P.info? e).map (fun i => (i.zero, i.size, i.bytes)) = some (some z, size, bytes)) (hzs : z.cells.size = size) (hsz : 0 < size)
    (v : Value) (n : Nat) (xs : List Value) (hs : a.eval s = v) (hown : w.ownsRow base e size v n xs)
    (news : List Value) (H : Nat) (hx : a.eval x = .slice (some ⟨H, 0, none⟩) 1 1) (hH : w.heap.size = H) (hl : news.length = size) (h1 : ∀ u ∈ news, u.oneCell' = true)
    (hbytes : (n + 1) * bytes ≤ 140737488355328) (hb0 : 0 < bytes) (hbase : base ≤ H)
    (h : ∀ v' w', w'.ownsRow base e size v' (n + 1) (xs ++ news) → (w.alloc (.cells news.toArray e)).grownBy w' v.ownBlock → (v'.ownBlock = v.ownBlock ∨ v'.ownBlock = some (H + 1)) → wpList P ops Q rest (a.put o.dst v') w') :
    wpList P ops Q (o :: rest) a (w.alloc (.cells news.toArray e)) := by
  subst hH
  obtain ⟨i, hi, hz, hsize, hby⟩ := info_parts hinfo
  have hn : n + 1 ≤ 140737488355328 := Nat.le_trans (Nat.le_mul_of_pos_right _ hb0) hbytes
  refine wpList_append_own_at (w.alloc (.cells news.toArray e)) hgd s x t ho base e i z size bytes ht hi hz hsize hby hzs hsz v n xs hs (hown.alloc _) ⟨w.heap.size, 0, none⟩ 1 1 news hx (by omega)
    (fun j u hu => ?_) h1 (by unfold maxLen; omega) hbytes (by simp; omega) (fun v' w' a b _ d => h v' w' a b (by simpa using d))
  rw [Addr.add_lit, cell_of_row _ w.heap.size (0 + j) news.toArray e (0, 0) (heap_alloc_new w _)]
  simpa using hu
end

/-- What a walk wants of a world w1 behind a call: what lay in W lies in w1. -/
theorem after {W w1 : World} (hb : Below W.heap.size W w1) : (∀ b o, b < W.heap.size → w1.cell? ⟨b, o, none⟩ = W.cell? ⟨b, o, none⟩) ∧ (∀ b o, b < W.heap.size → w1.frozen? ⟨b, o, none⟩ = W.frozen? ⟨b, o, none⟩) ∧ W.heap.size ≤ w1.heap.size :=
  ⟨fun b o h => hb.cell (p := ⟨b, o, none⟩) h, fun b o h => hb.frozen (p := ⟨b, o, none⟩) h, hb.size⟩

theorem szA (w : World) (o : Obj) : (w.alloc o).heap.size = w.heap.size + 1 := by simp
theorem szS (w : World) (a : Addr) (u : Value) : (w.setCell a u).heap.size = w.heap.size := by simp [World.setCell]
theorem szD (w : World) : w.drew.heap.size = w.heap.size := rfl
theorem heap_at (w : World) (A : Obj) : (w.alloc A).heap[w.heap.size]? = some A := heap_alloc_new w A
theorem heap_at1 (w : World) (A B : Obj) : ((w.alloc A).alloc B).heap[w.heap.size + 1]? = some B := by
  have := heap_alloc_new (w.alloc A) B
  simpa using this
theorem heap_at2 (w : World) (A B C : Obj) : (((w.alloc A).alloc B).alloc C).heap[w.heap.size + 2]? = some C := by
  have := heap_alloc_new ((w.alloc A).alloc B) C
  simpa using this
theorem heap_lt {w : World} {k : Nat} {A : Obj} (h : w.heap[k]? = some A) : k < w.heap.size := (Array.getElem?_eq_some_iff.1 h).1
theorem heap_up {w : World} {k : Nat} {A B : Obj} (h : w.heap[k]? = some A) : (w.alloc B).heap[k]? = some A := (Below.heap_alloc w B k (heap_lt h)).trans h
theorem below_at {W w1 : World} (hb : Below W.heap.size W w1) {k : Nat} {A : Obj} (h : W.heap[k]? = some A) : w1.heap[k]? = some A := (hb.block k (heap_lt h)).trans h
theorem below_at' {B : Nat} {W w1 : World} (hb : Below B W w1) {k : Nat} {A : Obj} (h : W.heap[k]? = some A) (hk : k < B) : w1.heap[k]? = some A := (hb.block k hk).trans h
section
variable {w : World} {b : Nat} {T : TypeId} {x y z : Value}
theorem box1 (h : w.heap[b]? = some (.cells #[x] T (0, 0))) : w.cell? ⟨b, 0, none⟩ = some x ∧ w.frozen? ⟨b, 0, none⟩ = false :=
  ⟨by simp [World.cell?, h], by simp [World.frozen?, h]⟩
theorem box2 (h : w.heap[b]? = some (.cells #[x, y] T (0, 0))) : w.cell? ⟨b, 0, none⟩ = some x ∧ w.cell? ⟨b, 1, none⟩ = some y ∧ w.frozen? ⟨b, 0, none⟩ = false ∧ w.frozen? ⟨b, 1, none⟩ = false :=
  ⟨by simp [World.cell?, h], by simp [World.cell?, h], by simp [World.frozen?, h], by simp [World.frozen?, h]⟩
theorem box3 (h : w.heap[b]? = some (.cells #[x, y, z] T (0, 0))) : w.cell? ⟨b, 0, none⟩ = some x ∧ w.cell? ⟨b, 1, none⟩ = some y ∧ w.cell? ⟨b, 2, none⟩ = some z ∧
    w.frozen? ⟨b, 0, none⟩ = false ∧ w.frozen? ⟨b, 1, none⟩ = false ∧ w.frozen? ⟨b, 2, none⟩ = false :=
  ⟨by simp [World.cell?, h], by simp [World.cell?, h], by simp [World.cell?, h], by simp [World.frozen?, h], by simp [World.frozen?, h], by simp [World.frozen?, h]⟩
end
/-- A block behind a store into it, and behind a store elsewhere. -/
theorem set_at {w : World} {a : Addr} {b : Nat} {cs : Array Value} {T : TypeId} {fr : Nat × Nat} (h : w.heap[b]? = some (.cells cs T fr)) (ha : a.block = b) (hs : a.spot = none) (u : Value) : (w.setCell a u).heap[b]? = some (.cells (cs.setIfInBounds a.off u) T fr) := by
  subst ha
  simp only [World.setCell, hs]
  rw [Array.getElem?_modify, if_pos rfl, h]
  rfl
theorem set_off {w : World} {a : Addr} {b : Nat} {A : Obj} (h : w.heap[b]? = some A) (ha : a.block ≠ b) (u : Value) : (w.setCell a u).heap[b]? = some A :=
  (Below.heap_setCell w a u b (Ne.symm ha)).trans h

theorem grown_below {base : Nat} {w w' : World} {row : Option Nat} (hg : w.grownBy w' row) (hB : base ≤ w.heap.size) (hr : ∀ k, row = some k → base ≤ k) : Below base w w' :=
  (Below.refl base w).grown hg hB hr

theorem one_int (n : Int) : ∀ u ∈ [Value.int .i64 n], u.oneCell' = true := fun u hu => by simp only [List.mem_singleton] at hu; subst hu; rfl
theorem one_pair (x : Int × Int) : ∀ u ∈ encP x, u.oneCell' = true := fun u hu => by simp only [encP, List.mem_cons, List.not_mem_nil, or_false] at hu; rcases hu with rfl | rfl <;> rfl

/-- A world in which all that lay below block B of w lies as it did. -/
def Later (B : Nat) (w : World) : Type := { x : World // Below B w x }
instance (B : Nat) (w : World) : Nonempty (Later B w) := ⟨⟨w, Below.refl B w⟩⟩
/-- A region that draws its order, whose operations read below block B and whose callees leave all below B as it was and hand back a known value: one walk in the order of the text. -/
theorem wp_region_later {P : Program} {id : Nat} {Q : Exit → Act → World → Prop} {a : Act} {w : World} {l : List Oper} (B : Nat) (hm : P.follows .mixedOrders = true) (hB : Region.lexB .any l.toArray = true)
    (h : wpQuiet P l.toArray (fun w' => ∃ y : Later B w, w' = y.1) (fun a' => ∀ w', (∃ y : Later B w, w' = y.1) → Q .normal a' w') l a) : (Code.region id l.toArray true).wp P Q a w :=
  wp_region_quiet (C := fun w' => ∃ y : Later B w, w' = y.1) hm hB ⟨⟨w.drew, (Below.refl B w).drew⟩, rfl⟩ (by simpa using h)
theorem later_cell {B : Nat} {w : World} {a : Addr} {v : Value} (h : w.cell? a = some v) (ha : a.block < B) : ∀ y : Later B w, y.1.cell? a = some v := fun y => (y.2.cell ha).trans h

theorem later_call {w w' : World} {y : Later w.heap.size w} {v : Value} (h : Below y.1.heap.size y.1 w') : Ending.returned v = .returned v ∧ ∃ z : Later w.heap.size w, w' = z.1 :=
  ⟨rfl, ⟨w', y.2.trans (h.mono y.2.size)⟩, rfl⟩
theorem Row.later {α : Type} {k : Nat} {enc : α → List Value} {w : World} {v : Value} {xs : List α} (h : Row k enc w v xs) (y : Later w.heap.size w) : Row k enc y.1 v xs := h.below y.2
theorem IRow.later {w : World} {v : Value} {xs : List Int} (h : IRow w v xs) (y : Later w.heap.size w) : IRow y.1 v xs := h.below y.2
theorem PRow.later {w : World} {v : Value} {q : List (Int × Int)} (h : PRow w v q) (y : Later w.heap.size w) : PRow y.1 v q := h.below y.2

theorem len_ne {n : Nat} (h : 0 < n) : ((n : Int) == 0) = false := beq_eq_false_iff_ne.2 (by omega)
theorem len_eq {n : Nat} (h : ¬ 0 < n) : ((n : Int) == 0) = true := beq_iff_eq.2 (by omega)

theorem ret_bool {b c : Bool} (h : b = c) : Ending.returned (.bool b) = .returned (.bool c) := by rw [h]
theorem ret_int {b c : Int} (h : b = c) : Ending.returned (.int .i64 b) = .returned (.int .i64 c) := by rw [h]

theorem get_lt {α : Type} {xs : List α} {k : Nat} {x : α} (h : xs[k]? = some x) : k < xs.length := by
  rcases Nat.lt_or_ge k xs.length with h' | h'
  · exact h'
  · rw [List.getElem?_eq_none h'] at h; cases h
theorem get_mem {α : Type} {xs : List α} {k : Nat} {x : α} (h : xs[k]? = some x) : x ∈ xs := List.mem_of_getElem? h
theorem take_snoc {α : Type} {xs : List α} {k : Nat} {x : α} (h : xs[k]? = some x) : xs.take (k + 1) = xs.take k ++ [x] := by
  have hl := get_lt h
  rw [List.getElem?_eq_getElem hl] at h
  cases h
  exact List.take_succ_eq_append_getElem hl
theorem take_all {α : Type} {xs : List α} {k : Nat} (h : xs.length ≤ k) : xs.take k = xs := List.take_of_length_le h
theorem get_ex {α : Type} {xs : List α} {k : Nat} (h : k < xs.length) : ∃ x, xs[k]? = some x := ⟨_, List.getElem?_eq_getElem h⟩

theorem ne_false {α : Type} [DecidableEq α] {p q : List α} {k : Nat} {x y : α} (hx : p[k]? = some x) (hy : q[k]? = some y) (h : x ≠ y) : decide (p = q) = false := by
  simp only [decide_eq_false_iff_not]; intro e; rw [e, hy] at hx; cases hx; exact h rfl
theorem take_eq {α : Type} {p q : List α} {k : Nat} {x y : α} (he : p.take k = q.take k) (hx : p[k]? = some x) (hy : q[k]? = some y) (h : x = y) : p.take (k + 1) = q.take (k + 1) := by
  rw [take_snoc hx, take_snoc hy, he, h]
theorem all_eq {α : Type} [DecidableEq α] {p q : List α} {k : Nat} (hl : p.length = q.length) (hk : p.length ≤ k) (he : p.take k = q.take k) : decide (p = q) = true := by
  rw [take_all hk, take_all (by omega)] at he; simpa using he
theorem len_false {α : Type} [DecidableEq α] {p q : List α} (h : ¬ p.length = q.length) : decide (p = q) = false := by
  simp only [decide_eq_false_iff_not]; intro e; exact h (by rw [e])
theorem len_bne {m n : Nat} (h : m = n) : ((m : Int) != (n : Int)) = false := by simp [h]
theorem len_bne' {m n : Nat} (h : ¬ m = n) : ((m : Int) != (n : Int)) = true := by simp; omega

section
variable {P : Program} (w : World)
/-- append(T(nil), src...): a copy in new memory. -/
theorem wpList_clone {α : Type} {k : Nat} {enc : α → List Value} (hk : ∀ x, (enc x).length = k) (h1 : ∀ x, ∀ u ∈ enc x, u.oneCell' = true)
    {ops : Array Oper} {rest : List Oper} {o : Oper} {a : Act} {Q : Exit → Act → World → Prop} (hgd : o.guard = none) (s x : Operand) (t : TypeId)
    (ho : o.op = .call { callee := .builtin .append, args := #[s, x], argTypes := #[t, t] })
    (e : Nat) (z : Value) (bytes : Nat) (ht : P.underlying t = some (.slice e)) (hinfo : (P.info? e).map (fun i => (i.zero, i.size, i.bytes)) = some (some z, k, bytes)) (hzs : z.cells.size = k) (hsz : 0 < k)
    (hs : a.eval s = .slice none 0 0) (sv : Value) (xs : List α) (hx : a.eval x = sv) (hrow : Row k enc w sv xs) (hb0 : 0 < bytes) (hbytes : xs.length * bytes ≤ 140737488355328)
    (h : ∀ ad cap w', Own w.heap.size e k enc w' (.slice ad xs.length cap) xs → Below w.heap.size w w' → wpList P ops Q rest (a.put o.dst (.slice ad xs.length cap)) w') :
    wpList P ops Q (o :: rest) a w := by
  have hn : xs.length ≤ 140737488355328 := Nat.le_trans (Nat.le_mul_of_pos_right _ hb0) hbytes
  refine wpList_concat w hgd s x t ho w.heap.size e z k bytes ht hinfo hzs hsz (.slice none 0 0) 0 [] hs (World.ownsRow_nil _ _ _ _) sv xs.length (xs.flatMap enc) hx (hrow.src hk hsz)
    (flat_length hk xs) (fun u hu => ?_) (by omega) (by simpa using hbytes) (Nat.le_refl _) (fun v' w' a b _ => by
      have ho : Own w.heap.size e k enc w' v' xs := by simpa [Own] using a
      obtain ⟨ad, cap, rfl⟩ := ho.form
      exact h ad cap w' ho (grown_below b (Nat.le_refl _) (fun g e => by cases e)))
  obtain ⟨y, _, hu⟩ := List.mem_flatMap.1 hu
  exact h1 y u hu
/-- append(T{}, src...): the same behind an empty array. -/
theorem wpList_cloneE {α : Type} {k : Nat} {enc : α → List Value} (hk : ∀ x, (enc x).length = k) (h1 : ∀ x, ∀ u ∈ enc x, u.oneCell' = true)
    {ops : Array Oper} {rest : List Oper} {o : Oper} {a : Act} {Q : Exit → Act → World → Prop} (hgd : o.guard = none) (s x : Operand) (t : TypeId)
    (ho : o.op = .call { callee := .builtin .append, args := #[s, x], argTypes := #[t, t] })
    (e : Nat) (z : Value) (bytes : Nat) (ht : P.underlying t = some (.slice e)) (hinfo : (P.info? e).map (fun i => (i.zero, i.size, i.bytes)) = some (some z, k, bytes)) (hzs : z.cells.size = k) (hsz : 0 < k)
    (H : Nat) (hs : a.eval s = .slice (some ⟨H, 0, none⟩) 0 0) (hH : w.heap.size = H) (sv : Value) (xs : List α) (hx : a.eval x = sv) (hrow : Row k enc w sv xs) (hb0 : 0 < bytes) (hbytes : xs.length * bytes ≤ 140737488355328)
    (h : ∀ ad cap w', Own w.heap.size e k enc w' (.slice ad xs.length cap) xs → Below w.heap.size w w' → wpList P ops Q rest (a.put o.dst (.slice ad xs.length cap)) w') :
    wpList P ops Q (o :: rest) a (w.alloc (.cells #[] e)) := by
  subst hH
  have hn : xs.length ≤ 140737488355328 := Nat.le_trans (Nat.le_mul_of_pos_right _ hb0) hbytes
  have hb : Below w.heap.size w (w.alloc (.cells #[] e)) := (Below.refl _ _).alloc (Nat.le_refl _) _
  refine wpList_concat (w.alloc (.cells #[] e)) hgd s x t ho w.heap.size e z k bytes ht hinfo hzs hsz _ 0 [] hs (World.ownsRow_made w #[] 0 (Nat.le_refl _) (by simp) (by simp)) sv xs.length (xs.flatMap enc) hx ((hrow.below hb).src hk hsz)
    (flat_length hk xs) (fun u hu => ?_) (by omega) (by simpa using hbytes) (by simp) (fun v' w' a b _ => by
      have ho : Own w.heap.size e k enc w' v' xs := by simpa [Own] using a
      obtain ⟨ad, cap, rfl⟩ := ho.form
      exact h ad cap w' ho (hb.trans (grown_below b (by simp) (fun g e => by simp only [Value.ownBlock, Option.some.injEq] at e; omega))))
  obtain ⟨y, _, hu⟩ := List.mem_flatMap.1 hu
  exact h1 y u hu
/-- append(own, x). -/
theorem wpList_snoc {α : Type} {k : Nat} {enc : α → List Value} (hk : ∀ x, (enc x).length = k) (h1 : ∀ x, ∀ u ∈ enc x, u.oneCell' = true)
    {ops : Array Oper} {rest : List Oper} {o : Oper} {a : Act} {Q : Exit → Act → World → Prop} (hgd : o.guard = none) (s x : Operand) (t : TypeId)
    (ho : o.op = .call { callee := .builtin .append, args := #[s, x], argTypes := #[t, t] })
    (e : Nat) (z : Value) (bytes : Nat) (ht : P.underlying t = some (.slice e)) (hinfo : (P.info? e).map (fun i => (i.zero, i.size, i.bytes)) = some (some z, k, bytes)) (hzs : z.cells.size = k) (hsz : 0 < k)
    (base : Nat) (v : Value) (xs : List α) (hs : a.eval s = v) (hown : Own base e k enc w v xs) (y : α) (cs : Array Value) (hcs : cs = (enc y).toArray) (H : Nat) (hx : a.eval x = .slice (some ⟨H, 0, none⟩) 1 1) (hH : w.heap.size = H) (hb0 : 0 < bytes) (hbytes : (xs.length + 1) * bytes ≤ 140737488355328) (hbase : base ≤ H)
    (h : ∀ ad cap w', Own base e k enc w' (.slice ad (xs.length + 1) cap) (xs ++ [y]) → (w.alloc (.cells (enc y).toArray e)).grownBy w' v.ownBlock → ((Value.slice ad (xs.length + 1) cap).ownBlock = v.ownBlock ∨ (Value.slice ad (xs.length + 1) cap).ownBlock = some (H + 1)) → wpList P ops Q rest (a.put o.dst (.slice ad (xs.length + 1) cap)) w') :
    wpList P ops Q (o :: rest) a (w.alloc (.cells cs e)) := by
  subst hcs
  exact wpList_push w hgd s x t ho base e z k bytes ht hinfo hzs hsz v xs.length (xs.flatMap enc) hs hown (enc y) H hx hH (hk y) (h1 y) hbytes hb0 hbase (fun v' w' a b c => by
    have ho : Own base e k enc w' v' (xs ++ [y]) := by simpa [Own] using a
    obtain ⟨ad, cap, hv⟩ := ho.form
    rw [List.length_append, List.length_singleton] at hv
    subst hv
    exact h ad cap w' ho b c)
end
theorem grown_snoc {α : Type} {base e k : Nat} {enc : α → List Value} {w w' : World} {v : Value} {xs : List α} {o : Obj} (hown : Own base e k enc w v xs) (hg : (w.alloc o).grownBy w' v.ownBlock) (hbase : base ≤ w.heap.size) : Below base w w' :=
  ((Below.refl base w).alloc hbase _).trans (grown_below hg (by simp; omega) (fun g e => (hown.block g e).1))
theorem encI_one (x : Int) : ∀ u ∈ encI x, u.oneCell' = true := one_int x

section
variable {P : Program} (w : World)
/-- append(T{}, src...) at a step of a region that draws its order: the empty array is block g. -/
theorem run_cloneAt {α : Type} {k : Nat} {enc : α → List Value} (hk : ∀ x, (enc x).length = k) (h1 : ∀ x, ∀ u ∈ enc x, u.oneCell' = true) (t ty e : TypeId) (z : Value) (bytes : Nat)
    (ht : P.underlying t = some (.slice e)) (hinfo : (P.info? e).map (fun i => (i.zero, i.size, i.bytes)) = some (some z, k, bytes)) (hzs : z.cells.size = k) (hsz : 0 < k)
    (base g : Nat) (hg : w.heap[g]? = some (.cells #[] e (0, 0))) (hbase : base ≤ g) (sv : Value) (xs : List α) (hrow : Row k enc w sv xs) (hb0 : 0 < bytes) (hbytes : xs.length * bytes ≤ 140737488355328) :
    ∃ ad cap w', (Builtin.append_ #[t, t] ty #[.slice (some ⟨g, 0, none⟩) 0 0, sv]).run P w = .ok (.slice ad xs.length cap) w' ∧ Own base e k enc w' (.slice ad xs.length cap) xs ∧ w.grownBy w' (some g) := by
  obtain ⟨i, hi, hz, hsize, hby⟩ := info_parts hinfo
  have hn : xs.length ≤ 140737488355328 := Nat.le_trans (Nat.le_mul_of_pos_right _ hb0) hbytes
  have hlt := heap_lt hg
  have hown : w.ownsRow base e k (.slice (some ⟨g, 0, none⟩) 0 0) 0 [] := ⟨by simp, .inr ⟨g, 0, #[], rfl, hbase, hg, Nat.le_refl _, Nat.zero_le _, by simp, by simp⟩⟩
  have hone : ∀ u ∈ xs.flatMap enc, u.oneCell' = true := fun u hu => by
    obtain ⟨y, _, hu⟩ := List.mem_flatMap.1 hu
    exact h1 y u hu
  obtain ⟨ad, c, rfl, hnone, hcells⟩ := hrow.src hk hsz
  cases ad with
  | none =>
    obtain ⟨rfl, hm⟩ := hnone rfl
    have hx : xs = [] := List.eq_nil_of_length_eq_zero hm
    subst hx
    have hrun := run_append_owned_none (P := P) (w := w) base t ty e i k ht hi _ _ _ hown
    exact ⟨_, _, w, hrun, hown, World.grownBy.refl w _⟩
  | some ad =>
    obtain ⟨v', w', hr, a, b, _, _⟩ := run_append_own_at (P := P) w base t ty e i z k bytes ht hi hz hsize hby hzs hsz _ 0 [] hown ad xs.length c (xs.flatMap enc) (flat_length hk xs) (hcells ad rfl) hone (by unfold maxLen; omega) (by simpa using hbytes) (by omega)
    have ho : Own base e k enc w' v' xs := by simpa [Own] using a
    obtain ⟨ad', cap, rfl⟩ := ho.form
    exact ⟨ad', cap, w', hr, ho, b⟩
theorem step_clone {α : Type} {k : Nat} {enc : α → List Value} (hk : ∀ x, (enc x).length = k) (h1 : ∀ x, ∀ u ∈ enc x, u.oneCell' = true)
    {ops : Array Oper} {o : Oper} {a : Act} {K : Act → World → Prop} {Q : Exit → Act → World → Prop} {E : Prop} (hgd : o.guard = none) (s x : Operand) (t : TypeId)
    (ho : o.op = .call { callee := .builtin .append, args := #[s, x], argTypes := #[t, t] })
    (e : Nat) (z : Value) (bytes : Nat) (ht : P.underlying t = some (.slice e)) (hinfo : (P.info? e).map (fun i => (i.zero, i.size, i.bytes)) = some (some z, k, bytes)) (hzs : z.cells.size = k) (hsz : 0 < k)
    (base g : Nat) (hs : a.eval s = .slice (some ⟨g, 0, none⟩) 0 0) (hg : w.heap[g]? = some (.cells #[] e (0, 0))) (hbase : base ≤ g) (sv : Value) (xs : List α) (hx : a.eval x = sv) (hrow : Row k enc w sv xs) (hb0 : 0 < bytes) (hbytes : xs.length * bytes ≤ 140737488355328)
    (h : ∀ ad cap w', Own base e k enc w' (.slice ad xs.length cap) xs → w.grownBy w' (some g) → K (a.put o.dst (.slice ad xs.length cap)) w') :
    if Region.wanted o (yielded ops a.tmps) = true then Oper.wp P o a w K Q else E := by
  have hw : Region.wanted o (yielded ops a.tmps) = true := by simp [Region.wanted, hgd]
  rw [if_pos hw]
  obtain ⟨ad, cap, w', hr, h2, h3⟩ := run_cloneAt (P := P) w hk h1 t o.type e z bytes ht hinfo hzs hsz base g hg hbase sv xs hrow hb0 hbytes
  unfold Oper.wp execOp
  simp only [ho, resolve, invoke, builtin, Sem.run_bind, Sem.run_pure, Result.andThen_ok, List.map_toArray, List.map_cons, List.map_nil, hs, hx, hr]
  exact h ad cap w' h2 h3
end

/-- Behind 'append(T{}, src...)' within a region that draws. -/
theorem clone_below {W w1 : World} {X : Obj} (hg : (W.alloc X).drew.grownBy w1 (some W.heap.size)) : Below W.heap.size W w1 :=
  (((Below.refl _ _).alloc (Nat.le_refl _) X).drew).trans (grown_below hg (by simp [World.drew]) (fun g e => by cases e; exact Nat.le_refl _))

theorem Own.empty {α : Type} {base E k g : Nat} {enc : α → List Value} {w : World} (hg : w.heap[g]? = some (.cells #[] E (0, 0))) (hb : base ≤ g) : Own base E k enc w (.slice (some ⟨g, 0, none⟩) 0 0) ([] : List α) :=
  ⟨by simp, .inr ⟨g, 0, #[], rfl, hb, hg, Nat.le_refl _, Nat.zero_le _, by simp, by simp⟩⟩

theorem Row.grown {α : Type} {k : Nat} {enc : α → List Value} {w w' : World} {v : Value} {xs : List α} {row : Option Nat} (h : Row k enc w v xs) (hg : w.grownBy w' row) (hne : v.ownBlock = none ∨ v.ownBlock ≠ row) : Row k enc w' v xs := by
  obtain ⟨a, cap, e, h1, h2, h3, h4⟩ := h
  refine ⟨a, cap, e, h1, h2, h3, fun hn => ?_⟩
  obtain ⟨b, off, e2, hlt, hc⟩ := h4 hn
  subst e e2
  have hb := hg.block b hlt (by simpa [Value.ownBlock] using hne)
  exact ⟨b, off, rfl, Nat.lt_of_lt_of_le hlt hg.size, fun i x hx j u hu => (World.cell?_of_block (a := ⟨b, off + i * k + j, none⟩) hb).trans (hc i x hx j u hu)⟩
/-- v[1:], as the walk spells it. -/
theorem Row.tail {α : Type} {k : Nat} {enc : α → List Value} {w : World} {b off cap n : Nat} {x : α} {r : List α} (h : Row k enc w (.slice (some ⟨b, off, none⟩) n cap) (x :: r)) :
    Row k enc w (.slice (if cap = 1 then some ⟨b, off, none⟩ else some ⟨b, off + k, none⟩) r.length (cap - 1)) r := by
  obtain ⟨a, c, e, h1, h2, h3, h4⟩ := h
  simp only [Value.slice.injEq, List.length_cons] at e h1
  obtain ⟨rfl, _, rfl⟩ := e
  refine ⟨_, _, rfl, by omega, by omega, (fun e => by split at e <;> cases e), fun hn => ?_⟩
  obtain ⟨b', off', e2, hlt, hc⟩ := h4 (by simp)
  cases e2
  refine ⟨b, off + k, ?_, hlt, fun i y hy j u hu => ?_⟩
  · rw [if_neg (by omega)]
  · have := hc (i + 1) y (by simpa using hy) j u hu
    rw [show off + k + i * k + j = off + (i + 1) * k + j by rw [Nat.add_mul]; omega]
    exact this
theorem tail_block (k b off n cap : Nat) : (Value.slice (if cap = 1 then some ⟨b, off, none⟩ else some ⟨b, off + k, none⟩) n (cap - 1)).ownBlock = some b := by
  split <;> rfl

theorem grown_of_below {w w' : World} (h : Below w.heap.size w w') (row : Option Nat) : w.grownBy w' row := ⟨h.os, h.tape, h.output, h.size, fun k hk _ => h.block k hk⟩
theorem grown_set {w w' : World} {b : Nat} (h : w.grownBy w' (some b)) {a : Addr} (ha : a.block = b) (u : Value) : w.grownBy (w'.setCell a u) (some b) :=
  ⟨h.os, h.tape, h.output, by rw [szS]; exact h.size, fun k hk hne => (Below.heap_setCell w' a u k (fun e => hne (by rw [e, ha]))).trans (h.block k hk hne)⟩
theorem grown_drewN {w w' : World} {row : Option Nat} (h : w.grownBy w' row) (n : Nat) : w.grownBy (w'.drewN n) row := ⟨h.os, h.tape, h.output, h.size, h.block⟩
theorem grown_alloc {w w' : World} {row : Option Nat} (h : w.grownBy w' row) (o : Obj) : w.grownBy (w'.alloc o) row :=
  h.trans (World.grownBy_alloc w' o row)
theorem grown_later {w w' w2 : World} {b : Nat} (h : w.grownBy w' (some b)) (hb : Below w'.heap.size w' w2) : w.grownBy w2 (some b) := h.trans (grown_of_below hb _)
/-- A row of the call's own is written: nothing that was there at the start but block b has turned. -/
theorem grown_own {w w' w2 : World} {b : Nat} {row : Option Nat} (h : w.grownBy w' (some b)) (hg : w'.grownBy w2 row) (hr : ∀ g, row = some g → w.heap.size ≤ g) : w.grownBy w2 (some b) :=
  ⟨hg.os.trans h.os, hg.tape.trans h.tape, hg.output.trans h.output, Nat.le_trans h.size hg.size, fun k hk hne => (hg.block k (Nat.lt_of_lt_of_le hk h.size) (fun e => by have := hr k e.symm; omega)).trans (h.block k hk hne)⟩
theorem Own.drewN {α : Type} {base E k : Nat} {enc : α → List Value} {w : World} {v : Value} {xs : List α} (h : Own base E k enc w v xs) (n : Nat) : Own base E k enc (w.drewN n) v xs := h
theorem Own.growns {α : Type} {base E k : Nat} {enc : α → List Value} {w w' : World} {v : Value} {xs : List α} {row : Option Nat} (h : Own base E k enc w v xs) (hg : w.grownBy w' row) (hne : v.ownBlock = none ∨ v.ownBlock ≠ row) : Own base E k enc w' v xs := World.ownsRow.kept h hg hne

/-- An owned slice's block is none of another element type. -/
theorem Own.ne {α : Type} {base E k b : Nat} {enc : α → List Value} {w : World} {v : Value} {xs : List α} {cs : Array Value} {T : TypeId} {fr : Nat × Nat} (h : Own base E k enc w v xs) (hb : w.heap[b]? = some (.cells cs T fr)) (hT : T ≠ E) : v.ownBlock ≠ some b := by
  intro e
  rcases h.2 with ⟨rfl, _⟩ | ⟨g, cap, cur, rfl, _, hg, _⟩
  · cases e
  · simp only [Value.ownBlock, Option.some.injEq] at e
    subst e
    rw [hg] at hb
    cases hb
    exact hT rfl
theorem Own.set_off {α : Type} {base E k : Nat} {enc : α → List Value} {w : World} {v : Value} {xs : List α} (h : Own base E k enc w v xs) {a : Addr} (ha : v.ownBlock ≠ some a.block) (u : Value) : Own base E k enc (w.setCell a u) v xs := by
  refine ⟨h.1, ?_⟩
  rcases h.2 with h2 | ⟨g, cap, cur, rfl, hg, hh, r⟩
  · exact .inl h2
  · refine .inr ⟨g, cap, cur, rfl, hg, ?_, r⟩
    rw [Below.heap_setCell _ _ _ _ (fun e => ha (by rw [← e]; rfl))]; exact hh
/-- Two owned slices lie apart. -/
def Apart (v u : Value) : Prop := ∀ k, v.ownBlock = some k → u.ownBlock ≠ some k
theorem Apart.symm {v u : Value} (h : Apart v u) : Apart u v := fun k e1 e2 => h k e2 e1
theorem Apart.nil (u : Value) : Apart (.slice none 0 0) u := fun k e => by cases e
/-- The row v is appended to; u, which lies apart, stays. -/
theorem Own.apart {α : Type} {base E k : Nat} {enc : α → List Value} {w w' : World} {v u : Value} {xs : List α} (h : Own base E k enc w u xs) (hg : w.grownBy w' v.ownBlock) (ha : Apart v u) : Own base E k enc w' u xs :=
  h.growns hg (by
    cases hu : u.ownBlock with
    | none => exact .inl rfl
    | some g => exact .inr fun e => ha g e.symm hu)
/-- .. and lies apart still. -/
theorem Apart.push {v v' u : Value} {n H : Nat} (ha : Apart v u) (hat : v'.ownBlock = v.ownBlock ∨ v'.ownBlock = some n) (hu : ∀ k, u.ownBlock = some k → k < H) (hn : H ≤ n) : Apart v' u := by
  intro k e1 e2
  rcases hat with e | e
  · exact ha k (e ▸ e1) e2
  · have := hu k e2
    rw [e] at e1
    simp only [Option.some.injEq] at e1
    omega
/-- A slice made later lies apart from one that was there. -/
theorem Own.later_apart {α β : Type} {base base' E E' k k' : Nat} {enc : α → List Value} {enc' : β → List Value} {w w' : World} {v u : Value} {xs : List α} {ys : List β} (h : Own base E k enc w u xs) (h' : Own base' E' k' enc' w' v ys) (hb : w.heap.size ≤ base') : Apart v u := by
  intro g e1 e2
  have := (h.block g e2).2
  have := (h'.block g e1).1
  omega
end Go.Proofs.YtchlacepeckeaaaDoor
