/- An argument that is a slice of structs of three ints, or a slice of such slices, as data. -/
import Derived.Test.YtobkammimkgnkaaArgs
import Derived.Test.YtobkammimkgnkaaTrip
namespace Go.Proofs.Ytobkammimkgnkaa
open Go.RowKit Go.ChangeShapes Go.WideShapes Go.Deep

section
variable {H : Type} {enc : TypeId × Value → H} {P : Program} {w : World} {base : Nat} {held : Bool}
theorem arg_trips {t e i0 : TypeId} {f0 f1 f2 : Field} {fuel : Nat} {v : Value} {x : DataW H × List MemPlace} (ht : P.underlying t = some (.slice e)) (he : P.underlying e = some (.struct #[f0, f1, f2])) (ce : P.cellsOf e = 3) (o0 : f0.offset = 0) (o1 : f1.offset = 1) (o2 : f2.offset = 2)
    (c0 : P.cellsOf i0 = 1) (t0 : f0.type = i0) (t1 : f1.type = i0) (t2 : f2.type = i0) (h0 : P.underlying i0 = some (.int .i64)) (h : DataW.trod enc P w base (fun _ => true) held fuel t [v] = some x) :
    ∃ (a : Option Addr) (p : Nat) (xs : List OpT), v = .slice a xs.length p ∧ TRow w (.slice a xs.length p) xs := by
  rcases open_slice ht h with ⟨hcs, _⟩ | ⟨a, len, cap, m, n, D, Pl, hcs, _, hl, hm, hmm, _, hx⟩
  · simp only [List.cons.injEq, and_true] at hcs
    exact ⟨none, 0, [], hcs, Row.nil 3 encT w⟩
  · simp only [List.cons.injEq, and_true] at hcs
    subst hcs
    simp only [if_true] at hmm
    have each : ∀ i, i < len → ∃ q : OpT, w.cell? (a.add (i * 3)) = some (.int .i64 q.1) ∧ w.cell? (a.add (i * 3 + 1)) = some (.int .i64 q.2.1) ∧ w.cell? (a.add (i * 3 + 2)) = some (.int .i64 q.2.2) := by
      intro i hi
      obtain ⟨cs', g1, g2⟩ := hx i (by omega)
      rw [ce] at g1
      obtain ⟨_, hlen, hcell⟩ := World.cells?_some g1
      obtain ⟨xs, k, hk, hxy, _, hxl, hf⟩ := DataW.trod_struct he g2
      match xs, hxl, cs', hlen with
      | [y0, y1, y2], _, [v0, v1, v2], _ =>
        have j0 := hf 0 f0 rfl
        have j1 := hf 1 f1 rfl
        have j2 := hf 2 f2 rfl
        rw [t0] at j0
        rw [t1] at j1
        rw [t2] at j2
        simp [o0, o1, o2, c0] at j0 j1 j2
        have e0 := hcell 0 (by omega)
        have e1 := hcell 1 (by omega)
        have e2 := hcell 2 (by omega)
        rw [add_add] at e0 e1 e2
        obtain ⟨z0, hz0⟩ := arg_int h0 j0
        obtain ⟨z1, hz1⟩ := arg_int h0 j1
        obtain ⟨z2, hz2⟩ := arg_int h0 j2
        subst hz0 hz1 hz2
        exact ⟨(z0, z1, z2), by simpa using e0, by simpa using e1, by simpa using e2⟩
    obtain ⟨q, hq⟩ := choose_lt each
    have hlen : ((List.range len).map q).length = len := by simp
    refine ⟨some a, cap, (List.range len).map q, by rw [hlen], some a, cap, rfl, by omega, by unfold maxLen at hm; omega, (fun e => by cases e), fun hn => ?_⟩
    rw [hlen] at hn
    obtain ⟨b, o, rfl, hb⟩ := addr_plain (by simpa using (hq 0 (by omega)).1)
    refine ⟨b, o, rfl, hb, fun i y hy j u hu => ?_⟩
    have hi := get_lt hy
    rw [hlen] at hi
    simp only [List.getElem?_map, List.getElem?_range hi, Option.map_some, Option.some.injEq] at hy
    subst hy
    obtain ⟨e0, e1, e2⟩ := hq i (by omega)
    rw [Addr.add_lit] at e0 e1 e2
    match j, hu with
    | 0, hu => simp only [encT, List.getElem?_cons_zero, Option.some.injEq] at hu; subst hu; simpa using e0
    | 1, hu => simp only [encT, List.getElem?_cons_succ, List.getElem?_cons_zero, Option.some.injEq] at hu; subst hu; simpa [Nat.add_assoc] using e1
    | 2, hu => simp only [encT, List.getElem?_cons_succ, List.getElem?_cons_zero, Option.some.injEq] at hu; subst hu; simpa [Nat.add_assoc] using e2
    | j + 3, hu => simp [encT] at hu
theorem arg_tripss {s t e i0 : TypeId} {f0 f1 f2 : Field} {fuel : Nat} {v : Value} {x : DataW H × List MemPlace} (hs : P.underlying s = some (.slice t)) (ct : P.cellsOf t = 1) (ht : P.underlying t = some (.slice e)) (he : P.underlying e = some (.struct #[f0, f1, f2])) (ce : P.cellsOf e = 3) (o0 : f0.offset = 0) (o1 : f1.offset = 1) (o2 : f2.offset = 2)
    (c0 : P.cellsOf i0 = 1) (t0 : f0.type = i0) (t1 : f1.type = i0) (t2 : f2.type = i0) (h0 : P.underlying i0 = some (.int .i64)) (h : DataW.trod enc P w base (fun _ => true) held fuel s [v] = some x) :
    ∃ (a : Option Addr) (p : Nat) (ts : List (List OpT)), v = .slice a ts.length p ∧ TTRow w (.slice a ts.length p) ts := by
  rcases open_slice hs h with ⟨hcs, _⟩ | ⟨a, len, cap, m, n, D, Pl, hcs, _, hl, hm, hmm, _, hx⟩
  · simp only [List.cons.injEq, and_true] at hcs
    exact ⟨none, 0, [], hcs, [], Row.nil 1 encS w, rfl, fun i u t hu _ => by cases hu⟩
  · simp only [List.cons.injEq, and_true] at hcs
    subst hcs
    simp only [if_true] at hmm
    have each : ∀ i, i < len → ∃ q : SV × List OpT, w.cell? (a.add i) = some (sval q.1) ∧ q.1.2.1 = q.2.length ∧ TRow w (sval q.1) q.2 := by
      intro i hi
      obtain ⟨cs', g1, g2⟩ := hx i (by omega)
      rw [ct, Nat.mul_one] at g1
      obtain ⟨_, hlen, hcell⟩ := World.cells?_some g1
      match cs', hlen with
      | [u], _ =>
        have e0 := hcell 0 (by omega)
        rw [add_add] at e0
        obtain ⟨b, p, xs, rfl, hr⟩ := arg_trips ht he ce o0 o1 o2 c0 t0 t1 t2 h0 g2
        exact ⟨((b, xs.length, p), xs), by simpa [sval] using e0, rfl, hr⟩
    obtain ⟨q, hq⟩ := choose_lt each
    have hlen : ((List.range len).map fun i => (q i).1).length = len := by simp
    have hlen2 : ((List.range len).map fun i => (q i).2).length = len := by simp
    refine ⟨some a, cap, (List.range len).map fun i => (q i).2, by rw [hlen2], (List.range len).map fun i => (q i).1, ⟨some a, cap, by rw [hlen, hlen2], by omega, by unfold maxLen at hm; omega, (fun e => by cases e), fun hn => ?_⟩, by rw [hlen, hlen2], fun i u t hu ht => ?_⟩
    · rw [hlen] at hn
      obtain ⟨b, o, rfl, hb⟩ := addr_plain (by simpa using (hq 0 (by omega)).1)
      refine ⟨b, o, rfl, hb, fun i y hy j u hu => ?_⟩
      have hi := get_lt hy
      rw [hlen] at hi
      simp only [List.getElem?_map, List.getElem?_range hi, Option.map_some, Option.some.injEq] at hy
      subst hy
      have e0 := (hq i (by omega)).1
      rw [Addr.add_lit] at e0
      match j, hu with
      | 0, hu => simp only [encS, List.getElem?_cons_zero, Option.some.injEq] at hu; subst hu; simpa [sval] using e0
      | j + 1, hu => simp [encS] at hu
    · have hi := get_lt hu
      rw [hlen] at hi
      simp only [List.getElem?_map, List.getElem?_range hi, Option.map_some, Option.some.injEq] at hu ht
      subst hu ht
      exact ⟨(hq i (by omega)).2.1, (hq i (by omega)).2.2⟩
end
end Go.Proofs.Ytobkammimkgnkaa
