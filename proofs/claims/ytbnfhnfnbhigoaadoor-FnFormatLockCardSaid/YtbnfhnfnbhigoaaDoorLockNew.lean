/- impl.NewLock: what it returns. -/
import Derived.Test.YtbnfhnfnbhigoaaDoorLockCopy
namespace Go.Proofs.YtbnfhnfnbhigoaaDoor
open Go.RowKit
set_option linter.unusedSimpArgs false
set_option linter.unusedVariables false
theorem newRow (w : World) : LockRow w (.agg #[.slice none 0 0, .int .i64 (-1), .slice none 0 0]) ⟨[], -1, []⟩ := ⟨_, _, _, _, rfl, Row.nil _ _ _, Row.nil _ _ _⟩
theorem NewLock_calls (w : World) :
    Calls Tryd.prog 17 #[] w fun e w' => e = .returned (.agg #[.slice none 0 0, .int .i64 (-1), .slice none 0 0]) ∧ Below w.heap.size w w' := by
  go_enter Tryd.func17, Tryd.ntmps17
  go_wp2
  refine bodyPost_ret (v := .agg #[.slice none 0 0, .int .i64 (-1), .slice none 0 0]) (by simp [results, Tryd.results17, go_sem]) rfl ⟨rfl, ?_⟩
  repeat (first | (with_reducible exact Below.refl _ _) | (refine Below.setCell ?_ (by first | omega | (simp only [szA, szS, szD, World.heap_drewN] at * <;> omega)) _) | (refine Below.alloc ?_ (by first | omega | (simp only [szA, szS, szD, World.heap_drewN] at * <;> omega)) _))
theorem sNewLock_x (w : World) :
    Calls Tryd.prog 18 #[] w fun e w' => ∃ z0 z1 z2 z3, e = .returned (.agg #[.slice z0 0 z1, .int .i64 (-1), .slice z2 0 z3]) ∧ LockRow w' (.agg #[.slice z0 0 z1, .int .i64 (-1), .slice z2 0 z3]) ⟨[], -1, []⟩ ∧ Below w.heap.size w w' := by
  refine (sNewLock_calls w).mono ?_
  rintro e w' ⟨v, rfl, ho, hb⟩
  have hr := ho.row
  obtain ⟨a0, p0, a2, p2, rfl, _, _⟩ := ho
  exact ⟨a0, p0, a2, p2, rfl, hr, hb⟩
end Go.Proofs.YtbnfhnfnbhigoaaDoor
