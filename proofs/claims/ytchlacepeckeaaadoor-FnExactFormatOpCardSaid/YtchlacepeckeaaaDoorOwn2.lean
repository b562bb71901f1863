/- Owned slices: elements are written one by one; a made slice is filled; the marks of the exact laws. -/
import Derived.Test.YtchlacepeckeaaaDoorBase2
namespace Go.Proofs.YtchlacepeckeaaaDoor
open Go.RowKit
set_option linter.unusedSimpArgs false
set_option linter.unusedVariables false

theorem Own.open {α : Type} {base E k : Nat} {enc : α → List Value} {w : World} {g o n cap : Nat} {s : Option Nat} {xs : List α} (h : Own base E k enc w (.slice (some ⟨g, o, s⟩) n cap) xs) :
    o = 0 ∧ s = none ∧ n = xs.length ∧ base ≤ g ∧ (xs.flatMap enc).length = n * k ∧ ∃ cur, w.heap[g]? = some (.cells cur E (0, 0)) ∧ n ≤ cap ∧ cap ≤ maxLen ∧ cur.size = cap * k ∧ cur.toList.take (n * k) = xs.flatMap enc := by
  obtain ⟨h1, h2⟩ := h
  rcases h2 with ⟨h2, _⟩ | ⟨g', cap', cur, hv, hb, hg, hn, hc, hs, ht⟩
  · cases h2
  · simp only [Value.slice.injEq, Option.some.injEq, Addr.mk.injEq] at hv
    obtain ⟨⟨rfl, rfl, rfl⟩, rfl, rfl⟩ := hv
    exact ⟨rfl, rfl, rfl, hb, h1, cur, hg, hn, hc, hs, ht⟩
theorem Own.shut {α : Type} {base E k : Nat} {enc : α → List Value} {w : World} {g n cap : Nat} {xs : List α} {cur : Array Value} (hn : n = xs.length) (hb : base ≤ g) (hl : (xs.flatMap enc).length = n * k) (hg : w.heap[g]? = some (.cells cur E (0, 0))) (hc : n ≤ cap) (hm : cap ≤ maxLen) (hs : cur.size = cap * k)
    (ht : cur.toList.take (n * k) = xs.flatMap enc) : Own base E k enc w (.slice (some ⟨g, 0, none⟩) n cap) xs := by
  subst hn
  exact ⟨hl, .inr ⟨g, cap, cur, rfl, hb, hg, hc, hm, hs, ht⟩⟩
/-- An owned slice that is not nil lies in a block. -/
theorem Own.addr {α : Type} {base E k : Nat} {enc : α → List Value} {w : World} {v : Value} {xs : List α} (h : Own base E k enc w v xs) (hn : 0 < xs.length) : ∃ g cap, v = .slice (some ⟨g, 0, none⟩) xs.length cap ∧ base ≤ g ∧ g < w.heap.size := by
  rcases h.2 with ⟨_, h0⟩ | ⟨g, cap, cur, hv, hb, hg, _⟩
  · omega
  · exact ⟨g, cap, hv, hb, heap_lt hg⟩
/-- Its cells, up to its capacity, are there and may be written. -/
theorem Own.room {α : Type} {base E k : Nat} {enc : α → List Value} {w : World} {g o n cap : Nat} {s : Option Nat} {xs : List α} (h : Own base E k enc w (.slice (some ⟨g, o, s⟩) n cap) xs) {i : Nat} (hi : i < cap * k) : (∃ u, w.cell? ⟨g, i, none⟩ = some u) ∧ w.frozen? ⟨g, i, none⟩ = false := by
  obtain ⟨_, _, _, _, _, cur, hg, _, _, hs, _⟩ := h.open
  constructor
  · rw [cell_of_row w g i cur E (0, 0) hg]
    exact ⟨_, Array.getElem?_eq_getElem (by omega)⟩
  · simp [World.frozen?, hg]

theorem take_set_next {cs : List Value} {m : Nat} {u : Value} (h : m < cs.length) : (cs.set m u).take (m + 1) = cs.take m ++ [u] := by
  rw [List.take_add_one, List.getElem?_set_self h, List.take_set_of_le (Nat.le_refl _)]
  rfl
/-- One cell behind the last one is written: an element of one cell. -/
theorem Own.next1 {α : Type} {base E : Nat} {enc : α → List Value} {w : World} {g o n cap : Nat} {s : Option Nat} {xs : List α} {x : α} {u : Value} (h : Own base E 1 enc w (.slice (some ⟨g, o, s⟩) n cap) xs) (hn : n < cap) (he : enc x = [u]) : Own base E 1 enc (w.setCell ⟨g, n, none⟩ u) (.slice (some ⟨g, o, s⟩) (n + 1) cap) (xs ++ [x]) := by
  obtain ⟨rfl, rfl, hl, hb, hf, cur, hg, hc, hm, hs, ht⟩ := h.open
  refine Own.shut (cur := cur.setIfInBounds n u) (by simp; omega) hb (by simp [he, hf]) (set_at (a := ⟨g, n, none⟩) hg rfl rfl u) (by omega) hm (by simpa using hs) ?_
  rw [Array.toList_setIfInBounds, Nat.mul_one, take_set_next (by simp; omega), List.flatMap_append]
  simp only [List.flatMap_cons, List.flatMap_nil, List.append_nil, he]
  rw [Nat.mul_one] at ht
  rw [ht]
theorem Own.next2 {α : Type} {base E : Nat} {enc : α → List Value} {w : World} {g o n cap : Nat} {s : Option Nat} {xs : List α} {x : α} {u u' : Value} (h : Own base E 2 enc w (.slice (some ⟨g, o, s⟩) n cap) xs) (hn : n < cap) (he : enc x = [u, u']) : Own base E 2 enc ((w.setCell ⟨g, n * 2, none⟩ u).setCell ⟨g, n * 2 + 1, none⟩ u') (.slice (some ⟨g, o, s⟩) (n + 1) cap) (xs ++ [x]) := by
  obtain ⟨rfl, rfl, hl, hb, hf, cur, hg, hc, hm, hs, ht⟩ := h.open
  refine Own.shut (cur := (cur.setIfInBounds (n * 2) u).setIfInBounds (n * 2 + 1) u') (by simp; omega) hb (by simp [he, hf]; omega) (set_at (a := ⟨g, n * 2 + 1, none⟩) (set_at (a := ⟨g, n * 2, none⟩) hg rfl rfl u) rfl rfl u') (by omega) hm (by simpa using hs) ?_
  have e : (n + 1) * 2 = (n * 2 + 1) + 1 := by omega
  rw [Array.toList_setIfInBounds, Array.toList_setIfInBounds, e, take_set_next (by simp; omega), take_set_next (by simp; omega), List.flatMap_append, ht]
  simp only [List.flatMap_cons, List.flatMap_nil, List.append_nil, he, List.append_assoc, List.singleton_append]
theorem Own.next3 {α : Type} {base E : Nat} {enc : α → List Value} {w : World} {g o n cap : Nat} {s : Option Nat} {xs : List α} {x : α} {u u' u'' : Value} (h : Own base E 3 enc w (.slice (some ⟨g, o, s⟩) n cap) xs) (hn : n < cap) (he : enc x = [u, u', u'']) : Own base E 3 enc (((w.setCell ⟨g, n * 3, none⟩ u).setCell ⟨g, n * 3 + 1, none⟩ u').setCell ⟨g, n * 3 + 2, none⟩ u'') (.slice (some ⟨g, o, s⟩) (n + 1) cap) (xs ++ [x]) := by
  obtain ⟨rfl, rfl, hl, hb, hf, cur, hg, hc, hm, hs, ht⟩ := h.open
  refine Own.shut (cur := ((cur.setIfInBounds (n * 3) u).setIfInBounds (n * 3 + 1) u').setIfInBounds (n * 3 + 2) u'') (by simp; omega) hb (by simp [he, hf]; omega) (set_at (a := ⟨g, n * 3 + 2, none⟩) (set_at (a := ⟨g, n * 3 + 1, none⟩) (set_at (a := ⟨g, n * 3, none⟩) hg rfl rfl u) rfl rfl u') rfl rfl u'') (by omega) hm (by simpa using hs) ?_
  have e : (n + 1) * 3 = ((n * 3 + 1) + 1) + 1 := by omega
  rw [Array.toList_setIfInBounds, Array.toList_setIfInBounds, Array.toList_setIfInBounds, e, take_set_next (by simp; omega), take_set_next (by simp; omega), take_set_next (by simp; omega), List.flatMap_append, ht]
  simp only [List.flatMap_cons, List.flatMap_nil, List.append_nil, he, List.append_assoc, List.singleton_append, List.cons_append, List.nil_append]

/-- The cells of an element are written anew. -/
theorem flat_set {α : Type} {k : Nat} {enc : α → List Value} (hk : ∀ x, (enc x).length = k) : ∀ (xs : List α) (i : Nat) (x : α), i < xs.length → ∀ (m : Nat), m < (xs.flatMap enc).length → ((xs.set i x).flatMap enc)[m]? = if i * k ≤ m ∧ m < i * k + k then (enc x)[m - i * k]? else (xs.flatMap enc)[m]?
  | [], i, x, h, m, hm => by simp at h
  | y :: r, 0, x, h, m, hm => by
    simp only [List.set_cons_zero, List.flatMap_cons, Nat.zero_mul, Nat.zero_le, true_and, Nat.zero_add, Nat.sub_zero]
    split
    · rename_i hlt; rw [List.getElem?_append_left (by rw [hk]; exact hlt)]
    · rename_i hlt
      rw [List.getElem?_append_right (by rw [hk]; omega), List.getElem?_append_right (by rw [hk]; omega), hk, hk]
  | y :: r, i + 1, x, h, m, hm => by
    simp only [List.set_cons_succ, List.flatMap_cons]
    have hmul : (i + 1) * k = i * k + k := Nat.succ_mul _ _
    rcases Nat.lt_or_ge m k with hlt | hge
    · rw [List.getElem?_append_left (by rw [hk]; exact hlt), List.getElem?_append_left (by rw [hk]; exact hlt), if_neg (by omega)]
    · rw [List.getElem?_append_right (by rw [hk]; exact hge), List.getElem?_append_right (by rw [hk]; exact hge), hk]
      have hl : m - k < (r.flatMap enc).length := by simp only [List.flatMap_cons, List.length_append, hk] at hm; omega
      rw [flat_set hk r i x (by simpa using h) (m - k) hl]
      have e : m - (i + 1) * k = m - k - i * k := by omega
      rw [e]
      by_cases hc : i * k ≤ m - k ∧ m - k < i * k + k
      · rw [if_pos hc, if_pos (by omega)]
      · rw [if_neg hc, if_neg (by omega)]
/-- One cell of element i is written: what the slice then holds. -/
theorem Own.put {α : Type} {base E k : Nat} {enc : α → List Value} (hk : ∀ x, (enc x).length = k) {w : World} {g o n cap : Nat} {s : Option Nat} {xs : List α} (h : Own base E k enc w (.slice (some ⟨g, o, s⟩) n cap) xs) {i j : Nat} {x y : α} {u : Value} (hx : xs[i]? = some x) (hj : j < k) (he : enc y = (enc x).set j u) :
    Own base E k enc (w.setCell ⟨g, i * k + j, none⟩ u) (.slice (some ⟨g, o, s⟩) n cap) (xs.set i y) := by
  obtain ⟨rfl, rfl, hl, hb, hf, cur, hg, hc, hm, hs, ht⟩ := h.open
  have hi := get_lt hx
  have hlen : ((xs.set i y).flatMap enc).length = n * k := by rw [flat_length hk, List.length_set, ← hl]
  refine Own.shut (cur := cur.setIfInBounds (i * k + j) u) (by simp; omega) hb hlen (set_at (a := ⟨g, i * k + j, none⟩) hg rfl rfl u) hc hm (by simpa using hs) ?_
  have hik : i * k + k ≤ n * k := by rw [← Nat.succ_mul]; exact Nat.mul_le_mul_right _ (by omega)
  have hcap : n * k ≤ cap * k := Nat.mul_le_mul_right _ hc
  apply List.ext_getElem?
  intro m
  rcases Nat.lt_or_ge m (n * k) with hlt | hge
  · rw [flat_set hk xs i y hi m (by rw [hf]; exact hlt), List.getElem?_take, if_pos hlt, Array.toList_setIfInBounds, List.getElem?_set]
    have h0 : cur.toList[m]? = (xs.flatMap enc)[m]? := by rw [← ht, List.getElem?_take, if_pos hlt]
    by_cases hmj : i * k + j = m
    · rw [if_pos hmj, if_pos (by simp; omega), if_pos (by omega), he, List.getElem?_set, if_pos (by omega), if_pos (by rw [hk]; exact hj)]
    · rw [if_neg hmj, h0]
      split
      · rename_i hr
        rw [he, List.getElem?_set, if_neg (by omega)]
        have h1 := flat_get hk xs i x hx (m - i * k)
        have hlt2 : m - i * k < (enc x).length := by rw [hk]; omega
        have h2 := h1 _ (List.getElem?_eq_getElem hlt2)
        rw [show i * k + (m - i * k) = m by omega] at h2
        rw [h2, List.getElem?_eq_getElem hlt2]
      · rfl
  · rw [List.getElem?_eq_none (by simp; omega), List.getElem?_eq_none (by rw [hlen]; exact hge)]
theorem Own.put1 {α : Type} {base E : Nat} {enc : α → List Value} (hk : ∀ x, (enc x).length = 1) {w : World} {g o n cap : Nat} {s : Option Nat} {xs : List α} (h : Own base E 1 enc w (.slice (some ⟨g, o, s⟩) n cap) xs) {i : Nat} {y : α} {u : Value} (hi : i < xs.length) (he : enc y = [u]) :
    Own base E 1 enc (w.setCell ⟨g, i, none⟩ u) (.slice (some ⟨g, o, s⟩) n cap) (xs.set i y) := by
  obtain ⟨x, hx⟩ := get_ex hi
  have h1 := hk x
  have := h.put hk (j := 0) (u := u) (y := y) hx (by decide) (by
    rw [he]
    match hxx : enc x, h1 with
    | [a], _ => rfl)
  simpa using this

/-- What the exact laws write over slices. -/
def marksI (q : Int) (n : Nat) : List Int := (List.range n).map fun (i : Nat) => q + (i : Int)
def marksP (q : Int) (n : Nat) : List (Int × Int) := (List.range n).map fun (i : Nat) => (q + 2 * (i : Int), q + 2 * (i : Int) + 1)
theorem marksI_len (q : Int) (n : Nat) : (marksI q n).length = n := by simp [marksI]
theorem marksP_len (q : Int) (n : Nat) : (marksP q n).length = n := by simp [marksP]
theorem marksI_get {q : Int} {n i : Nat} (h : i < n) : (marksI q n)[i]? = some (q + i) := by simp [marksI, h]
theorem marksP_get {q : Int} {n i : Nat} (h : i < n) : (marksP q n)[i]? = some (q + 2 * i, q + 2 * i + 1) := by simp [marksP, h]
theorem marksI_succ (q : Int) (n : Nat) : marksI q (n + 1) = marksI q n ++ [q + n] := by simp [marksI, List.range_succ]
theorem marksP_succ (q : Int) (n : Nat) : marksP q (n + 1) = marksP q n ++ [(q + 2 * n, q + 2 * n + 1)] := by simp [marksP, List.range_succ]
theorem set_mid {α : Type} (l r : List α) (x y : α) (i : Nat) (hi : l.length = i) : (l ++ x :: r).set i y = (l ++ [y]) ++ r := by
  subst hi
  rw [List.set_append_right _ _ (Nat.le_refl _), Nat.sub_self]
  simp
theorem drop_get {α : Type} {xs : List α} {i : Nat} {x : α} (h : xs[i]? = some x) : xs.drop i = x :: xs.drop (i + 1) := by
  have hl := get_lt h
  rw [List.drop_eq_getElem_cons hl]
  rw [List.getElem?_eq_getElem hl] at h
  cases h; rfl

def szF (left : Int) (n : Nat) : Int := if (n : Int) ≤ left then left - n else -1
/-- make([]T, n): a row of n zero elements in a new block, of which none is yet spoken of. -/
theorem run_mk {P : Program} (t e : TypeId) (z : Value) (k bytes : Nat) (ht : P.underlying t = some (.slice e)) (hinfo : (P.info? e).map (fun i => (i.zero, i.size, i.bytes)) = some (some z, k, bytes)) (n : Nat) (hb : (bytes : Int) * n ≤ 281474976710656) (hn : n ≤ 1048576) (w : World) :
    (Instr.makeSlice t (.int .i64 (n : Int)) (.int .i64 (n : Int))).run P w = .ok (.slice (some ⟨w.heap.size, 0, none⟩) n n) (w.alloc (.cells (madeCells z.cells (n * k)) e)) := by
  obtain ⟨i, hi, hz, hsize, hby⟩ := info_parts hinfo
  have := run_make w t e i z ht hi hz .i64 .i64 (n : Int) n (by omega) (Int.le_refl _) (by rw [hby]; exact hb) (by omega)
  simpa [hsize] using this
theorem Own.made {α : Type} {e k : Nat} {enc : α → List Value} (w : World) (z : Array Value) (n : Nat) (hn : n ≤ 1048576) : Own w.heap.size e k enc (w.alloc (.cells (madeCells z (n * k)) e)) (.slice (some ⟨w.heap.size, 0, none⟩) 0 n) ([] : List α) :=
  Own.shut rfl (Nat.le_refl _) (by simp) (heap_at w _) (by omega) (by unfold maxLen; omega) (size_madeCells _ _) (by simp)
theorem Own.free {α : Type} {base E k : Nat} {enc : α → List Value} {w : World} {v : Value} {xs : List α} (h : Own base E k enc w v xs) {g o n cap : Nat} {s : Option Nat} (e : v = .slice (some ⟨g, o, s⟩) n cap) (j : Nat) : w.frozen? ⟨g, j, none⟩ = false := by
  subst e
  obtain ⟨_, _, _, _, _, cur, hg, _⟩ := h.open
  simp [World.frozen?, hg]
end Go.Proofs.YtchlacepeckeaaaDoor
