/- impl.OpValid: what it returns (made by gen_opvalid.py). -/
import Derived.Test.YthbnbofoefdneaaDoorOpPlain
import Derived.Test.YthbnbofoefdneaaDoorRg2
namespace Go.Proofs.YthbnbofoefdneaaDoor
open Go.RowKit
set_option linter.unusedSimpArgs false
set_option linter.unusedVariables false
theorem onClo_calls (a : Option Addr) (n p b : Nat) (on : Int) (w : World) (h : w.cell? ⟨b, 1, none⟩ = some (.int .i64 on)) :
    Calls Tryd.prog 29 #[.slice a n p, .pointer (some ⟨b, 0, none⟩)] w fun e w' => e = .returned (.bool (onB on n)) ∧ w = w' := by
  by_cases h1 : 0 ≤ on
  · have d1 := decide_eq_true h1
    by_cases h2 : on < n
    · have d2 := decide_eq_true h2
      go_enter Tryd.func29, Tryd.ntmps29
      go_wp2
      go_ret
      exact ⟨ret_bool (onB_yes ⟨h1, h2⟩).symm, rfl⟩
    · have d2 := decide_eq_false h2
      go_enter Tryd.func29, Tryd.ntmps29
      go_wp2
      go_ret
      exact ⟨ret_bool (onB_no (by omega)).symm, rfl⟩
  · have d1 := decide_eq_false h1
    go_enter Tryd.func29, Tryd.ntmps29
    go_wp2
    go_ret
    exact ⟨ret_bool (onB_no (by omega)).symm, rfl⟩
end Go.Proofs.YthbnbofoefdneaaDoor
