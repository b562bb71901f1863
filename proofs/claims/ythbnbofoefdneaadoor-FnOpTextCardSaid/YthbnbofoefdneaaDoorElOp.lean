/- The exact laws' helpers on operations, slices of them and slices of such slices: what they do (made by gen_elop.py). -/
import Derived.Test.YthbnbofoefdneaaDoorG1
namespace Go.Proofs.YthbnbofoefdneaaDoor
open Go.RowKit
set_option linter.unusedSimpArgs false
set_option linter.unusedVariables false
theorem info_Op : (Tryd.prog.info? 23).map (fun i => (i.zero, i.size, i.bytes)) = some (some (.agg #[.int .i64 0, .int .i64 0, .int .i64 0]), 3, 24) := by kernel_rfl
theorem info_OpS : (Tryd.prog.info? 74).map (fun i => (i.zero, i.size, i.bytes)) = some (some (.slice none 0 0), 1, 24) := by kernel_rfl
abbrev opv (x : OpT) : Value := .agg #[.int .i64 x.1, .int .i64 x.2.1, .int .i64 x.2.2]
def ttSum (ts : List (List OpT)) : Nat := (ts.map (·.length)).sum
theorem ttSum_succ {ts : List (List OpT)} {k : Nat} {t : List OpT} (h : ts[k]? = some t) : ttSum (ts.take (k + 1)) = ttSum (ts.take k) + t.length := by
  rw [take_snoc h]; simp [ttSum]
theorem ttSum_take (ts : List (List OpT)) (k : Nat) : ttSum (ts.take k) ≤ ttSum ts := by
  have e : ttSum ts = ttSum (ts.take k) + ttSum (ts.drop k) := by
    unfold ttSum
    rw [← List.sum_append, ← List.map_append, List.take_append_drop]
  omega
def ttLen (ts : List (List OpT)) : Nat := ts.length + ttSum ts
/-- The outer slice takes one more; the inner ones stay. -/
theorem InnerOwn.setOuter {lo lo2 : Nat} {w : World} {us : List SV} {ts : List (List OpT)} {g n cap : Nat} (h : InnerOwn lo w us ts) (ho : Own lo2 74 1 encS w (.slice (some ⟨g, 0, none⟩) n cap) us) (j : Nat) (u : Value) : InnerOwn lo (w.setCell ⟨g, j, none⟩ u) us ts := by
  obtain ⟨_, _, _, _, _, cur, hg, _⟩ := ho.open
  exact ⟨h.1, fun i x t hx ht => ⟨(h.2 i x t hx ht).1, (h.2 i x t hx ht).2.set_off (a := ⟨g, j, none⟩) ((h.2 i x t hx ht).2.ne hg (by decide)) u⟩⟩
theorem eqOp_calls (x y : OpT) (w : World) :
    Calls Tryd.prog 7 #[opv x, opv y] w fun e w' => e = .returned (.bool (decide (x = y))) ∧ Below w.heap.size w w' := by
  obtain ⟨x1, x2, x3⟩ := x
  obtain ⟨y1, y2, y3⟩ := y
  dsimp only [opv]
  by_cases h1 : x1 = y1
  · have d1 : (x1 != y1) = false := by simpa using h1
    have H1 := Lib.hid h1; clear h1
    by_cases h2 : x2 = y2
    · have d2 : (x2 != y2) = false := by simpa using h2
      have H2 := Lib.hid h2; clear h2
      by_cases h3 : x3 = y3
      · have d3 : (x3 != y3) = false := by simpa using h3
        have H3 := Lib.hid h3; clear h3
        go_enter Tryd.func7, Tryd.ntmps7
        go_wp2
        go_ret
        exact ⟨ret_bool (decide_eq_true (by rw [H1.out, H2.out, H3.out])).symm, (by repeat (first | (with_reducible assumption) | (with_reducible exact Below.refl _ _) | (refine Below.setCell ?_ (by first | omega | (simp only [szA, szS, szD, World.heap_drewN] at * <;> omega)) _) | (refine Below.alloc ?_ (by first | omega | (simp only [szA, szS, szD, World.heap_drewN] at * <;> omega)) _) | refine Below.drew ?_))⟩
      · have d3 : (x3 != y3) = true := by simpa using h3
        have H3 := Lib.hid h3; clear h3
        go_enter Tryd.func7, Tryd.ntmps7
        go_wp2
        go_ret
        exact ⟨ret_bool (decide_eq_false (by intro e; simp only [Prod.mk.injEq] at e; exact H3.out e.2.2)).symm, (by repeat (first | (with_reducible assumption) | (with_reducible exact Below.refl _ _) | (refine Below.setCell ?_ (by first | omega | (simp only [szA, szS, szD, World.heap_drewN] at * <;> omega)) _) | (refine Below.alloc ?_ (by first | omega | (simp only [szA, szS, szD, World.heap_drewN] at * <;> omega)) _) | refine Below.drew ?_))⟩
    · have d2 : (x2 != y2) = true := by simpa using h2
      have H2 := Lib.hid h2; clear h2
      go_enter Tryd.func7, Tryd.ntmps7
      go_wp2
      go_ret
      exact ⟨ret_bool (decide_eq_false (by intro e; simp only [Prod.mk.injEq] at e; exact H2.out e.2.1)).symm, (by repeat (first | (with_reducible assumption) | (with_reducible exact Below.refl _ _) | (refine Below.setCell ?_ (by first | omega | (simp only [szA, szS, szD, World.heap_drewN] at * <;> omega)) _) | (refine Below.alloc ?_ (by first | omega | (simp only [szA, szS, szD, World.heap_drewN] at * <;> omega)) _) | refine Below.drew ?_))⟩
  · have d1 : (x1 != y1) = true := by simpa using h1
    have H1 := Lib.hid h1; clear h1
    go_enter Tryd.func7, Tryd.ntmps7
    go_wp2
    go_ret
    exact ⟨ret_bool (decide_eq_false (by intro e; simp only [Prod.mk.injEq] at e; exact H1.out e.1)).symm, (by repeat (first | (with_reducible assumption) | (with_reducible exact Below.refl _ _) | (refine Below.setCell ?_ (by first | omega | (simp only [szA, szS, szD, World.heap_drewN] at * <;> omega)) _) | (refine Below.alloc ?_ (by first | omega | (simp only [szA, szS, szD, World.heap_drewN] at * <;> omega)) _) | refine Below.drew ?_))⟩
end Go.Proofs.YthbnbofoefdneaaDoor
