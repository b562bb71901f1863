/- The input of a law, a slice of bytes, as a row. -/
import Derived.Test.YtbnfhnfnbhigoaaDoorRd
namespace Go.Proofs.YtbnfhnfnbhigoaaDoor
open Go.RowKit
set_option linter.unusedSimpArgs false
set_option linter.unusedVariables false
theorem Row.alloc {α : Type} {k : Nat} {enc : α → List Value} {w : World} {v : Value} {xs : List α} (h : Row k enc w v xs) (o : Obj) : Row k enc (w.alloc o) v xs := h.below ((Below.refl _ _).alloc (Nat.le_refl _) o)
theorem bytes_row {w : World} {x : Addr} {len cap : Nat} {zs : List Int} (hl : len ≤ cap) (hm : cap ≤ maxLen) (hz : zs.length = cap) (hcell : ∀ i, i < zs.length → w.cell? (x.add i) = some (.int .u8 (zs.getD i 0))) (hwz : ∀ n ∈ zs, (Lit.int .u8 n).wf = true) :
    ∃ bs, Row 1 encB w (.slice (some x) len cap) bs ∧ ∀ y ∈ bs, 0 ≤ y ∧ y ≤ 255 := by
  have hlen : (zs.take len).length = len := by simp; omega
  refine ⟨zs.take len, ⟨some x, cap, by rw [hlen], by omega, by unfold maxLen at hm; omega, (fun e => by cases e), fun hn => ?_⟩, fun y hy => ?_⟩
  · have h0 := hcell 0 (by omega)
    obtain ⟨b, off, spot⟩ := x
    have hs : spot = none := by simpa [Addr.add] using World.cell?_spot h0
    subst hs
    have hlt : b < w.heap.size := by
      have := World.block_lt_of_cell? w _ h0
      simpa [Addr.add] using this
    refine ⟨b, off, rfl, hlt, fun i y hy j u hu => ?_⟩
    match j, hu with
    | j + 1, hu => simp [encB] at hu
    | 0, hu =>
      simp only [encB, List.getElem?_cons_zero, Option.some.injEq] at hu
      subst hu
      rw [List.getElem?_take] at hy
      split at hy
      · have hi := hcell i (get_lt hy)
        rw [Addr.add_lit] at hi
        rw [Nat.mul_one, Nat.add_zero, hi, List.getD_eq_getElem?_getD, hy]
        rfl
      · cases hy
  · have h := hwz y (List.mem_of_mem_take hy)
    simpa [Lit.wf, IntKind.min, IntKind.max, IntKind.signed, IntKind.bits] using h
end Go.Proofs.YtbnfhnfnbhigoaaDoor
