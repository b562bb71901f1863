/- The exact laws' helpers on operations, slices of them and slices of such slices: what they do (made by gen_elop.py). -/
import Derived.Test.YtchlacepeckeaaaDoorG1
namespace Go.Proofs.YtchlacepeckeaaaDoor
open Go.RowKit
set_option linter.unusedSimpArgs false
set_option linter.unusedVariables false
theorem info_Op : (Tryd.prog.info? 24).map (fun i => (i.zero, i.size, i.bytes)) = some (some (.agg #[.int .i64 0, .int .i64 0, .int .i64 0]), 3, 24) := by kernel_rfl
theorem info_OpS : (Tryd.prog.info? 53).map (fun i => (i.zero, i.size, i.bytes)) = some (some (.slice none 0 0), 1, 24) := by kernel_rfl
abbrev opv (x : OpT) : Value := .agg #[.int .i64 x.1, .int .i64 x.2.1, .int .i64 x.2.2]
def ttSum (ts : List (List OpT)) : Nat := (ts.map (·.length)).sum
theorem ttSum_succ {ts : List (List OpT)} {k : Nat} {t : List OpT} (h : ts[k]? = some t) : ttSum (ts.take (k + 1)) = ttSum (ts.take k) + t.length := by
  rw [take_snoc h]; simp [ttSum]
theorem ttSum_take (ts : List (List OpT)) (k : Nat) : ttSum (ts.take k) ≤ ttSum ts := by
  have e : ttSum ts = ttSum (ts.take k) + ttSum (ts.drop k) := by
    unfold ttSum
    rw [← List.sum_append, ← List.map_append, List.take_append_drop]
  omega
def ttLen (ts : List (List OpT)) : Nat := ts.length + ttSum ts
theorem toOp_calls (x : OpT) (w : World) :
    Calls Tryd.prog 8 #[opv x] w fun e w' => e = .returned (opv x) ∧ Below w.heap.size w w' := by
  go_enter Tryd.func8, Tryd.ntmps8
  go_wp2
  refine bodyPost_ret (v := opv x) (by simp [results, Tryd.results8, go_sem]) rfl ⟨rfl, (by repeat (first | (with_reducible assumption) | (with_reducible exact Below.refl _ _) | (refine Below.setCell ?_ (by first | omega | (simp only [szA, szS, szD, World.heap_drewN] at * <;> omega)) _) | (refine Below.alloc ?_ (by first | omega | (simp only [szA, szS, szD, World.heap_drewN] at * <;> omega)) _) | refine Below.drew ?_))⟩
/-- The outer slice takes one more; the inner ones stay. -/
theorem InnerOwn.setOuter {lo lo2 : Nat} {w : World} {us : List SV} {ts : List (List OpT)} {g n cap : Nat} (h : InnerOwn lo w us ts) (ho : Own lo2 53 1 encS w (.slice (some ⟨g, 0, none⟩) n cap) us) (j : Nat) (u : Value) : InnerOwn lo (w.setCell ⟨g, j, none⟩ u) us ts := by
  obtain ⟨_, _, _, _, _, cur, hg, _⟩ := ho.open
  exact ⟨h.1, fun i x t hx ht => ⟨(h.2 i x t hx ht).1, (h.2 i x t hx ht).2.set_off (a := ⟨g, j, none⟩) ((h.2 i x t hx ht).2.ne hg (by decide)) u⟩⟩
end Go.Proofs.YtchlacepeckeaaaDoor
