/- An argument that is a struct of one-cell fields (ints, bools, slices of ints and of pairs), as data. -/
import Derived.Test.YtchlacepeckeaaaDoorSpan
import Derived.Test.YtchlacepeckeaaaDoorWant
import Derived.Deep.Fields
import Derived.Deep.SlicePairs
import Derived.OpenShut
import Derived.ChangeSlices
import Derived.ChangeArms
namespace Go.Proofs.YtchlacepeckeaaaDoor
open Go.RowKit Go.ChangeShapes Go.WideShapes Go.Deep

section
variable {H : Type} {enc : TypeId × Value → H} {P : Program} {w : World} {base : Nat} {spare : Nat → Bool} {held : Bool}
/-- A struct by value: its fields' values, each read by its own type. -/
theorem open_fields {r : Reach} {b0 : Nat} {t : TypeId} {fs : Array Field} {v : Value} {d : DataW H} {p : List MemPlace} (hs : P.underlying t = some (.struct fs)) (hone : oneCellFields P fs = true) (hC : P.cellsOf t = fs.size)
    (hv : Value.okWide P w r b0 t v) (h : DataW.Trod enc P w base spare held t v d p) :
    ∃ (l : List Value) (n : Nat), v = .agg l.toArray ∧ l.length = fs.size ∧ ∀ (j : Nat) (f : Field) (u : Value), fs[j]? = some f → l[j]? = some u → ∃ y, DataW.trod enc P w base spare held n f.type [u] = some y := by
  obtain ⟨cs, rfl, hsz⟩ := okWide_struct hs hv
  obtain ⟨l⟩ := cs
  obtain ⟨fuel, hf⟩ := h
  obtain ⟨xs, n, _, _, _, hlen, hg⟩ := DataW.trod_struct hs hf
  refine ⟨l, n, rfl, by simpa [hC] using hsz, fun j f u hj hu => ?_⟩
  obtain ⟨ho, hk⟩ := hone_of hone j f hj
  have h1 := hg j f hj
  rw [ho, hk] at h1
  have hjl : j < l.length := by
    rcases Nat.lt_or_ge j l.length with h' | h'
    · exact h'
    · rw [List.getElem?_eq_none h'] at hu; cases hu
  have h2 : ((Value.agg l.toArray).cells.toList.drop j).take 1 = [u] := by
    have e : (Value.agg l.toArray).cells.toList = l := by simp [Value.cells]
    rw [e, List.drop_eq_getElem_cons hjl]
    rw [List.getElem?_eq_getElem hjl] at hu
    cases hu
    rfl
  rw [h2] at h1
  have hjf : j < xs.length := by rw [hlen]; exact (Array.getElem?_eq_some_iff.1 hj).1
  rw [List.getElem?_eq_getElem hjf] at h1
  exact ⟨_, h1⟩
theorem arg_int {t : TypeId} {fuel : Nat} {v : Value} {x : DataW H × List MemPlace} (ht : P.underlying t = some (.int .i64)) (h : DataW.trod enc P w base spare held fuel t [v] = some x) : ∃ n : Int, v = .int .i64 n := by
  obtain ⟨n, hn, _⟩ := DataW.trod_int ht h
  exact ⟨n, by simpa using hn⟩
theorem arg_bool {t : TypeId} {fuel : Nat} {v : Value} {x : DataW H × List MemPlace} (ht : P.underlying t = some .bool) (h : DataW.trod enc P w base spare held fuel t [v] = some x) : ∃ n : Bool, v = .bool n := by
  obtain ⟨n, hn, _⟩ := DataW.trod_bool ht h
  exact ⟨n, by simpa using hn⟩
theorem addr_plain {a : Addr} {u : Value} (h : w.cell? (a.add 0) = some u) : ∃ b o, a = ⟨b, o, none⟩ ∧ b < w.heap.size := by
  obtain ⟨b, o, s⟩ := a
  have hs : s = none := by simpa [Addr.add] using World.cell?_spot h
  subst hs
  exact ⟨b, o, rfl, by have := World.block_lt_of_cell? w _ h; simpa [Addr.add] using this⟩
theorem arg_ints {t e : TypeId} {fuel : Nat} {v : Value} {x : DataW H × List MemPlace} (ht : P.underlying t = some (.slice e)) (he : P.underlying e = some (.int .i64)) (hc : P.cellsOf e = 1) (h : DataW.trod enc P w base (fun _ => true) held fuel t [v] = some x) :
    ∃ (a : Option Addr) (p : Nat) (xs : List Int), v = .slice a xs.length p ∧ IRow w (.slice a xs.length p) xs := by
  rcases open_ints ht he hc h with ⟨hcs, _⟩ | ⟨a, len, cap, zs, hcs, _, hl, hm, hz, _, hcell, _⟩
  · simp only [List.cons.injEq, and_true] at hcs
    exact ⟨none, 0, [], hcs, Row.nil 1 encI w⟩
  · simp only [List.cons.injEq, and_true] at hcs
    subst hcs
    simp only [if_true] at hz
    have hlen : (zs.take len).length = len := by simp; omega
    refine ⟨some a, cap, zs.take len, by rw [hlen], some a, cap, rfl, by omega, by unfold maxLen at hm; omega, (fun e => by cases e), fun hn => ?_⟩
    obtain ⟨b, o, rfl, hb⟩ := addr_plain (hcell 0 (by omega))
    refine ⟨b, o, rfl, hb, fun i y hy j u hu => ?_⟩
    match j, hu with
    | j + 1, hu => simp [encI] at hu
    | 0, hu =>
      simp only [encI, List.getElem?_cons_zero, Option.some.injEq] at hu
      subst hu
      rw [List.getElem?_take] at hy
      split at hy
      · have hi := hcell i (get_lt hy)
        rw [Addr.add_lit] at hi
        rw [Nat.mul_one, Nat.add_zero, hi, List.getD_eq_getElem?_getD, hy]
        rfl
      · cases hy
theorem arg_pairs {t e i0 i1 : TypeId} {f0 f1 : Field} {fuel : Nat} {v : Value} {x : DataW H × List MemPlace} (ht : P.underlying t = some (.slice e)) (he : P.underlying e = some (.struct #[f0, f1])) (ce : P.cellsOf e = 2) (o0 : f0.offset = 0) (o1 : f1.offset = 1)
    (c0 : P.cellsOf f0.type = 1) (c1 : P.cellsOf f1.type = 1) (t0 : f0.type = i0) (t1 : f1.type = i1) (h0 : P.underlying i0 = some (.int .i64)) (h1 : P.underlying i1 = some (.int .i64)) (h : DataW.trod enc P w base (fun _ => true) held fuel t [v] = some x) :
    ∃ (a : Option Addr) (p : Nat) (xs : List (Int × Int)), v = .slice a xs.length p ∧ PRow w (.slice a xs.length p) xs := by
  subst t0 t1
  rcases open_slice_pairs ht he ce o0 o1 c0 c1 h with ⟨hcs, _⟩ | ⟨a, len, cap, m, n, V0, V1, D0, D1, P0, P1, hcs, _, hl, hm, hmm, _, hx⟩
  · simp only [List.cons.injEq, and_true] at hcs
    exact ⟨none, 0, [], hcs, Row.nil 2 encP w⟩
  · simp only [List.cons.injEq, and_true] at hcs
    subst hcs
    simp only [if_true] at hmm
    have hlen : ((List.range len).map fun i => (intOf (V0 i), intOf (V1 i))).length = len := by simp
    refine ⟨some a, cap, (List.range len).map fun i => (intOf (V0 i), intOf (V1 i)), by rw [hlen], some a, cap, rfl, by omega, by unfold maxLen at hm; omega, (fun e => by cases e), fun hn => ?_⟩
    rw [hlen] at hn
    obtain ⟨b, o, rfl, hb⟩ := addr_plain (by simpa using (hx 0 (by omega)).1)
    refine ⟨b, o, rfl, hb, fun i y hy j u hu => ?_⟩
    have hi := get_lt hy
    rw [hlen] at hi
    simp only [List.getElem?_map, List.getElem?_range hi, Option.map_some, Option.some.injEq] at hy
    subst hy
    obtain ⟨e0, e1, g0, g1⟩ := hx i (by omega)
    obtain ⟨z0, hz0⟩ := arg_int h0 g0
    obtain ⟨z1, hz1⟩ := arg_int h1 g1
    rw [hz0] at e0
    rw [hz1] at e1
    rw [Addr.add_lit] at e0 e1
    match j, hu with
    | 0, hu => simp only [encP, hz0, hz1, intOf, List.getElem?_cons_zero, Option.some.injEq] at hu; subst hu; simpa using e0
    | 1, hu => simp only [encP, hz0, hz1, intOf, List.getElem?_cons_succ, List.getElem?_cons_zero, Option.some.injEq] at hu; subst hu; simpa [Nat.add_assoc] using e1
    | j + 2, hu => simp [encP] at hu
def boolOf : Value → Bool | .bool b => b | _ => false
theorem arg_wants {t e i0 i1 : TypeId} {f0 f1 : Field} {fuel : Nat} {v : Value} {x : DataW H × List MemPlace} (ht : P.underlying t = some (.slice e)) (he : P.underlying e = some (.struct #[f0, f1])) (ce : P.cellsOf e = 2) (o0 : f0.offset = 0) (o1 : f1.offset = 1)
    (c0 : P.cellsOf f0.type = 1) (c1 : P.cellsOf f1.type = 1) (t0 : f0.type = i0) (t1 : f1.type = i1) (h0 : P.underlying i0 = some (.int .i64)) (h1 : P.underlying i1 = some .bool) (h : DataW.trod enc P w base (fun _ => true) held fuel t [v] = some x) :
    ∃ (a : Option Addr) (p : Nat) (xs : List (Int × Bool)), v = .slice a xs.length p ∧ WRow w (.slice a xs.length p) xs := by
  subst t0 t1
  rcases open_slice_pairs ht he ce o0 o1 c0 c1 h with ⟨hcs, _⟩ | ⟨a, len, cap, m, n, V0, V1, D0, D1, P0, P1, hcs, _, hl, hm, hmm, _, hx⟩
  · simp only [List.cons.injEq, and_true] at hcs
    exact ⟨none, 0, [], hcs, Row.nil 2 encW w⟩
  · simp only [List.cons.injEq, and_true] at hcs
    subst hcs
    simp only [if_true] at hmm
    have hlen : ((List.range len).map fun i => (intOf (V0 i), boolOf (V1 i))).length = len := by simp
    refine ⟨some a, cap, (List.range len).map fun i => (intOf (V0 i), boolOf (V1 i)), by rw [hlen], some a, cap, rfl, by omega, by unfold maxLen at hm; omega, (fun e => by cases e), fun hn => ?_⟩
    rw [hlen] at hn
    obtain ⟨b, o, rfl, hb⟩ := addr_plain (by simpa using (hx 0 (by omega)).1)
    refine ⟨b, o, rfl, hb, fun i y hy j u hu => ?_⟩
    have hi := get_lt hy
    rw [hlen] at hi
    simp only [List.getElem?_map, List.getElem?_range hi, Option.map_some, Option.some.injEq] at hy
    subst hy
    obtain ⟨e0, e1, g0, g1⟩ := hx i (by omega)
    obtain ⟨z0, hz0⟩ := arg_int h0 g0
    obtain ⟨z1, hz1⟩ := arg_bool h1 g1
    rw [hz0] at e0
    rw [hz1] at e1
    rw [Addr.add_lit] at e0 e1
    match j, hu with
    | 0, hu => simp only [encW, hz0, hz1, intOf, boolOf, List.getElem?_cons_zero, Option.some.injEq] at hu; subst hu; simpa using e0
    | 1, hu => simp only [encW, hz0, hz1, intOf, boolOf, List.getElem?_cons_succ, List.getElem?_cons_zero, Option.some.injEq] at hu; subst hu; simpa [Nat.add_assoc] using e1
    | j + 2, hu => simp [encW] at hu
end
end Go.Proofs.YtchlacepeckeaaaDoor
