/- Slices of structs of three ints (operations), and slices of such slices (threads). -/
import Derived.Test.YtchlacepeckeaaaDoorOwn2
import Derived.Test.YtchlacepeckeaaaDoorSpanI
namespace Go.Proofs.YtchlacepeckeaaaDoor
open Go.RowKit
set_option linter.unusedSimpArgs false
set_option linter.unusedVariables false
abbrev OpT := Int × Int × Int
def encT (x : OpT) : List Value := [.int .i64 x.1, .int .i64 x.2.1, .int .i64 x.2.2]
theorem encT_len (x : OpT) : (encT x).length = 3 := rfl
theorem one_trip (x : OpT) : ∀ u ∈ encT x, u.oneCell' = true := fun u hu => by simp only [encT, List.mem_cons, List.not_mem_nil, or_false] at hu; rcases hu with rfl | rfl | rfl <;> rfl
def TRow (w : World) (v : Value) (q : List OpT) : Prop := Row 3 encT w v q
theorem TRow.look {w : World} {v : Value} {q : List OpT} (h : TRow w v q) :
    ∃ a cap, v = .slice a q.length cap ∧ q.length ≤ cap ∧ cap ≤ 9223372036854775807 ∧
      (0 < q.length → ∃ b off, a = some ⟨b, off, none⟩ ∧ b < w.heap.size ∧
        ∀ i x, q[i]? = some x → w.cell? ⟨b, off + i * 3, none⟩ = some (.int .i64 x.1) ∧ w.cell? ⟨b, off + i * 3 + 1, none⟩ = some (.int .i64 x.2.1) ∧ w.cell? ⟨b, off + i * 3 + 2, none⟩ = some (.int .i64 x.2.2)) := by
  obtain ⟨a, cap, e, h1, h2, h3, h4⟩ := h
  refine ⟨a, cap, e, h1, h2, fun hn => ?_⟩
  obtain ⟨b, off, e2, hlt, hc⟩ := h4 hn
  exact ⟨b, off, e2, hlt, fun i x hx => ⟨by simpa using hc i x hx 0 _ rfl, by simpa using hc i x hx 1 _ rfl, by simpa using hc i x hx 2 _ rfl⟩⟩
/-- A slice's three words. -/
abbrev SV := Option Addr × Nat × Nat
def sval (s : SV) : Value := .slice s.1 s.2.1 s.2.2
def encS (s : SV) : List Value := [.slice s.1 s.2.1 s.2.2]
theorem encS_len (x : SV) : (encS x).length = 1 := rfl
theorem one_sv (x : SV) : ∀ u ∈ encS x, u.oneCell' = true := fun u hu => by simp only [encS, List.mem_cons, List.not_mem_nil, or_false] at hu; subst hu; rfl
/-- Each of the slices reads as its list. -/
def Inner (w : World) (us : List SV) (ts : List (List OpT)) : Prop := us.length = ts.length ∧ ∀ (i : Nat) (u : SV) (t : List OpT), us[i]? = some u → ts[i]? = some t → u.2.1 = t.length ∧ TRow w (sval u) t
/-- In w the value v reads as the lists ts. -/
def TTRow (w : World) (v : Value) (ts : List (List OpT)) : Prop := ∃ us, Row 1 encS w v us ∧ Inner w us ts
theorem Inner.below {w w' : World} {us : List SV} {ts : List (List OpT)} (h : Inner w us ts) (hb : Below w.heap.size w w') : Inner w' us ts :=
  ⟨h.1, fun i u t hu ht => ⟨(h.2 i u t hu ht).1, Row.below (h.2 i u t hu ht).2 hb⟩⟩
theorem TTRow.below {w w' : World} {v : Value} {ts : List (List OpT)} (h : TTRow w v ts) (hb : Below w.heap.size w w') : TTRow w' v ts := by
  obtain ⟨us, h1, h2⟩ := h
  exact ⟨us, h1.below hb, h2.below hb⟩
theorem TTRow.look {w : World} {v : Value} {ts : List (List OpT)} (h : TTRow w v ts) :
    ∃ a cap, v = .slice a ts.length cap ∧ ts.length ≤ cap ∧ cap ≤ 9223372036854775807 ∧
      (0 < ts.length → ∃ b off, a = some ⟨b, off, none⟩ ∧ b < w.heap.size ∧
        ∀ i t, ts[i]? = some t → ∃ c d, w.cell? ⟨b, off + i, none⟩ = some (.slice c t.length d) ∧ TRow w (.slice c t.length d) t) := by
  obtain ⟨us, ⟨a, cap, e, h1, h2, h3, h4⟩, hl, hi⟩ := h
  rw [hl] at e h1
  refine ⟨a, cap, e, h1, h2, fun hn => ?_⟩
  obtain ⟨b, off, e2, hlt, hc⟩ := h4 (by omega)
  refine ⟨b, off, e2, hlt, fun i t ht => ?_⟩
  have hilt := get_lt ht
  obtain ⟨u, hu⟩ := get_ex (show i < us.length by omega)
  obtain ⟨k1, k2⟩ := hi i u t hu ht
  obtain ⟨u0, u1, u2⟩ := u
  simp only at k1
  subst k1
  exact ⟨u0, u2, by simpa [encS] using hc i _ hu 0 _ rfl, k2⟩
/-- The slices' blocks lie from lo on. -/
def InnerOwn (lo : Nat) (w : World) (us : List SV) (ts : List (List OpT)) : Prop := us.length = ts.length ∧ ∀ (i : Nat) (u : SV) (t : List OpT), us[i]? = some u → ts[i]? = some t → u.2.1 = t.length ∧ Own lo 24 3 encT w (sval u) t
theorem InnerOwn.inner {lo : Nat} {w : World} {us : List SV} {ts : List (List OpT)} (h : InnerOwn lo w us ts) : Inner w us ts :=
  ⟨h.1, fun i u t hu ht => ⟨(h.2 i u t hu ht).1, (h.2 i u t hu ht).2.row encT_len⟩⟩
theorem InnerOwn.kept {lo : Nat} {w w' : World} {us : List SV} {ts : List (List OpT)} (h : InnerOwn lo w us ts) (hb : Below w.heap.size w w') : InnerOwn lo w' us ts :=
  ⟨h.1, fun i u t hu ht => ⟨(h.2 i u t hu ht).1, (h.2 i u t hu ht).2.kept hb⟩⟩
theorem InnerOwn.set {lo : Nat} {w : World} {us : List SV} {ts : List (List OpT)} (h : InnerOwn lo w us ts) {a : Addr} (ha : a.block < lo) (u : Value) : InnerOwn lo (w.setCell a u) us ts :=
  ⟨h.1, fun i x t hu ht => ⟨(h.2 i x t hu ht).1, (h.2 i x t hu ht).2.set ha u⟩⟩
theorem InnerOwn.nil {lo : Nat} {w : World} : InnerOwn lo w [] [] := ⟨rfl, fun i u t hu _ => by cases hu⟩
theorem InnerOwn.snoc {lo : Nat} {w : World} {us : List SV} {ts : List (List OpT)} {a : Option Addr} {c : Nat} {t : List OpT} (h : InnerOwn lo w us ts) (ht : Own lo 24 3 encT w (.slice a t.length c) t) : InnerOwn lo w (us ++ [(a, t.length, c)]) (ts ++ [t]) := by
  refine ⟨by simp [h.1], fun i u x hu hx => ?_⟩
  rcases Nat.lt_or_ge i us.length with hi | hi
  · rw [List.getElem?_append_left hi] at hu
    rw [List.getElem?_append_left (by rw [← h.1]; exact hi)] at hx
    exact h.2 i u x hu hx
  · rw [List.getElem?_append_right hi] at hu
    rw [List.getElem?_append_right (by rw [← h.1]; exact hi)] at hx
    have e : i - us.length = 0 := by have := get_lt hu; simp at this; omega
    rw [e] at hu
    rw [← h.1, e] at hx
    simp only [List.getElem?_cons_zero, Option.some.injEq] at hu hx
    subst hu hx
    exact ⟨rfl, ht⟩
theorem InnerOwn.mono {lo lo' : Nat} {w : World} {us : List SV} {ts : List (List OpT)} (h : InnerOwn lo w us ts) (hl : lo' ≤ lo) : InnerOwn lo' w us ts :=
  ⟨h.1, fun i u t hu ht => ⟨(h.2 i u t hu ht).1, (h.2 i u t hu ht).2.mono hl⟩⟩
/-- .. and its blocks are the call's own: they lie from lo on. -/
def TTOwn (lo : Nat) (w : World) (v : Value) (ts : List (List OpT)) : Prop := ∃ us, Own lo 53 1 encS w v us ∧ InnerOwn lo w us ts
theorem TTOwn.row {lo : Nat} {w : World} {v : Value} {ts : List (List OpT)} (h : TTOwn lo w v ts) : TTRow w v ts := by
  obtain ⟨us, h1, h2⟩ := h; exact ⟨us, h1.row encS_len, h2.inner⟩
theorem TTOwn.set {lo : Nat} {w : World} {v : Value} {ts : List (List OpT)} (h : TTOwn lo w v ts) {a : Addr} (ha : a.block < lo) (u : Value) : TTOwn lo (w.setCell a u) v ts := by
  obtain ⟨us, h1, h2⟩ := h; exact ⟨us, h1.set ha u, h2.set ha u⟩
theorem TTOwn.mono {lo lo' : Nat} {w : World} {v : Value} {ts : List (List OpT)} (h : TTOwn lo w v ts) (hl : lo' ≤ lo) : TTOwn lo' w v ts := by
  obtain ⟨us, h1, h2⟩ := h; exact ⟨us, h1.mono hl, h2.mono hl⟩
theorem TTOwn.form {lo : Nat} {w : World} {v : Value} {ts : List (List OpT)} (h : TTOwn lo w v ts) : ∃ a c, v = .slice a ts.length c := by
  obtain ⟨us, h1, h2⟩ := h
  obtain ⟨a, c, rfl⟩ := h1.form
  exact ⟨a, c, by rw [h2.1]⟩
end Go.Proofs.YtchlacepeckeaaaDoor
