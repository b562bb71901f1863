/- Taking one element out of a list; slices.Delete at []impl.Waiter, over a slice that is owned. -/
import Derived.Test.YtmmkbiljjhigfaaJoin
import Derived.Test.YtmmkbiljjhigfaaSemFind
import Derived.Deep.RegionLaw
import Derived.Shelf.RegionOpenPlain
import Derived.Deep.Upon
namespace Go.Proofs.Ytmmkbiljjhigfaa
open Go.RowKit
set_option linter.unusedSimpArgs false
set_option linter.unusedVariables false

def cut {α : Type} (q : List α) (i : Nat) : List α := q.take i ++ q.drop (i + 1)
theorem cut_len {α : Type} {q : List α} {i : Nat} (h : i < q.length) : (cut q i).length = q.length - 1 := by simp [cut]; omega
theorem Row.head {α : Type} {k : Nat} {enc : α → List Value} {w : World} {a : Option Addr} {n cap : Nat} {q : List α} (h : Row k enc w (.slice a n cap) q) {i : Nat} (hi : i ≤ q.length) : Row k enc w (.slice a i cap) (q.take i) := by
  obtain ⟨a', c, e, h1, h2, h3, h4⟩ := h
  simp only [Value.slice.injEq] at e
  obtain ⟨rfl, rfl, rfl⟩ := e
  have hl : (q.take i).length = i := by simp; omega
  refine ⟨_, _, by rw [hl], by omega, h2, h3, fun hn => ?_⟩
  obtain ⟨b, off, e2, hlt, hc⟩ := h4 (by omega)
  refine ⟨b, off, e2, hlt, fun m x hx j u hu => hc m x ?_ j u hu⟩
  rw [List.getElem?_take] at hx
  split at hx
  · exact hx
  · cases hx
theorem Row.rest {α : Type} {k : Nat} {enc : α → List Value} {w : World} {b off n cap : Nat} {q : List α} (h : Row k enc w (.slice (some ⟨b, off, none⟩) n cap) q) {i : Nat} (hi : i ≤ q.length) :
    Row k enc w (.slice (if cap = i then some ⟨b, off, none⟩ else some ⟨b, off + i * k, none⟩) (q.length - i) (cap - i)) (q.drop i) := by
  obtain ⟨a, c, e, h1, h2, h3, h4⟩ := h
  simp only [Value.slice.injEq] at e
  obtain ⟨rfl, rfl, rfl⟩ := e
  have hl : (q.drop i).length = q.length - i := by simp
  refine ⟨_, _, by rw [hl], by omega, by omega, (fun e => by split at e <;> cases e), fun hn => ?_⟩
  obtain ⟨b', off', e2, hlt, hc⟩ := h4 (by omega)
  cases e2
  refine ⟨b, off + i * k, by rw [if_neg (by omega)], hlt, fun m x hx j u hu => ?_⟩
  have := hc (i + m) x (by simpa using hx) j u hu
  rw [show off + i * k + m * k + j = off + (i + m) * k + j by rw [Nat.add_mul]; omega]
  exact this

theorem heap_setCells {g : Nat} {E : TypeId} : ∀ (vs : List Value) (o : Nat) (w : World) (cur : Array Value), w.heap[g]? = some (.cells cur E (0, 0)) → o + vs.length ≤ cur.size →
    ∃ cur', (w.setCells g o vs).heap[g]? = some (.cells cur' E (0, 0)) ∧ cur'.size = cur.size ∧ cur'.toList.take o = cur.toList.take o ∧ cur'.toList.take (o + vs.length) = cur.toList.take o ++ vs
  | [], o, w, cur, h, _ => ⟨cur, h, rfl, rfl, by simp⟩
  | v :: r, o, w, cur, h, hs => by
    simp only [List.length_cons] at hs
    obtain ⟨c', h1, h2, h3, h4⟩ := heap_setCells r (o + 1) (w.setCell ⟨g, o, none⟩ v) (cur.setIfInBounds o v) (set_at (a := ⟨g, o, none⟩) h rfl rfl v) (by simp; omega)
    have e : (cur.setIfInBounds o v).toList.take (o + 1) = cur.toList.take o ++ [v] := by rw [Array.toList_setIfInBounds, take_set_next (by simp; omega)]
    refine ⟨c', h1, by simpa using h2, ?_, ?_⟩
    · have := congrArg (List.take o) h3
      rw [List.take_take, Nat.min_eq_left (by omega), e] at this
      rw [this, List.take_append_of_le_length (by simp; omega), List.take_of_length_le (by simp; omega)]
    · rw [List.length_cons, show o + (r.length + 1) = o + 1 + r.length by omega, h4, e]
      simp
theorem grown_setCells {w : World} {g : Nat} : ∀ (vs : List Value) (o : Nat) (w' : World), w.grownBy w' (some g) → w.grownBy (w'.setCells g o vs) (some g)
  | [], _, _, h => h
  | _ :: r, _, _, h => grown_setCells r _ _ (grown_set h (by rfl) _)

/-- What Delete leaves. -/
theorem del_own {base E g cap i : Nat} {q : List (Int × Int)} {w : World} {zs : List Value} (h : Own base E 2 encP w (.slice (some ⟨g, 0, none⟩) q.length cap) q) (hi : i < q.length) (hz : zs.length = 2) :
    Own base E 2 encP (((w.setCells g (i * 2) ((q.drop (i + 1)).flatMap encP))).setCells g ((q.length - 1) * 2) zs) (.slice (some ⟨g, 0, none⟩) (q.length - 1) cap) (cut q i) := by
  obtain ⟨_, _, _, hb, hf, cur, hg, hc, hm, hs, ht⟩ := h.open
  have hl : ((q.drop (i + 1)).flatMap encP).length = (q.length - (i + 1)) * 2 := by rw [flat_length encP_len]; simp
  obtain ⟨c1, g1, s1, t1, u1⟩ := heap_setCells _ (i * 2) w cur hg (by rw [hl, hs]; omega)
  obtain ⟨c2, g2, s2, t2, u2⟩ := heap_setCells zs ((q.length - 1) * 2) _ c1 g1 (by rw [hz, s1, hs]; omega)
  have e : cur.toList.take (i * 2) = (q.take i).flatMap encP := by
    have := congrArg (List.take (i * 2)) ht
    rw [List.take_take, Nat.min_eq_left (by omega)] at this
    rw [this]
    have hq : q.flatMap encP = (q.take i).flatMap encP ++ (q.drop i).flatMap encP := by rw [← List.flatMap_append, List.take_append_drop]
    have hl2 : ((q.take i).flatMap encP).length = i * 2 := by rw [flat_length encP_len]; simp; omega
    rw [hq, List.take_append_of_le_length (by omega), List.take_of_length_le (by omega)]
  refine Own.shut (cur := c2) (by rw [cut_len hi]) hb (by rw [flat_length encP_len, cut_len hi]) g2 (by omega) hm (by rw [s2, s1, hs]) ?_
  rw [t2]
  rw [hl, show i * 2 + (q.length - (i + 1)) * 2 = (q.length - 1) * 2 by omega, e] at u1
  rw [u1, cut, List.flatMap_append]

theorem findW_some {t : Int} {q : List (Int × Int)} (h : t ∈ q.map (·.1)) : ∃ k : Nat, k < q.length ∧ findW t q = (k : Int) := by
  have hh : ∀ (q : List (Int × Int)) (n : Nat), t ∈ q.map (·.1) → ∃ k : Nat, k < q.length ∧ findFrom t n q = ((n + k : Nat) : Int) := by
    intro q
    induction q with
    | nil => intro n h; simp at h
    | cons x r ih =>
      intro n h
      by_cases e : x.1 = t
      · exact ⟨0, by simp, by simp [findFrom, e]⟩
      · have h' : t ∈ r.map (·.1) := by
          simp only [List.map_cons, List.mem_cons] at h
          rcases h with h | h
          · exact absurd h.symm e
          · exact h
        obtain ⟨k, h1, h2⟩ := ih (n + 1) h'
        refine ⟨k + 1, by simp; omega, ?_⟩
        rw [findFrom, if_neg e, h2]
        congr 1; omega
  obtain ⟨k, h1, h2⟩ := hh q 0 h
  exact ⟨k, h1, by rw [findW, h2, Nat.zero_add]⟩
end Go.Proofs.Ytmmkbiljjhigfaa
