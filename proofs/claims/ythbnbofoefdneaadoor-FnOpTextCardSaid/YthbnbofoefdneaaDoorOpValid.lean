/- impl.OpValid: what it returns (made by gen_opvalid.py). -/
import Derived.Test.YthbnbofoefdneaaDoorOpV2
import Derived.Test.YthbnbofoefdneaaDoorOpV3
import Derived.Test.YthbnbofoefdneaaDoorOpVR
namespace Go.Proofs.YthbnbofoefdneaaDoor
open Go.RowKit
set_option linter.unusedSimpArgs false
set_option linter.unusedVariables false
theorem OpValidO (v : Value) (c : ProgD) (x : OpT) (w : World) (h : ProgRow w v c) :
    Calls Tryd.prog 12 #[v, opv x] w fun e w' => e = .returned (.bool (opB c x)) ∧ Below w.heap.size w w' := by
  obtain ⟨k, on, ag⟩ := x
  by_cases h1 : k = 1
  · subst h1; exact OpValid_1 v c on ag w h
  by_cases h2 : k = 2
  · subst h2; exact OpValid_2 v c on ag w h
  by_cases h3 : k = 3
  · subst h3; exact OpValid_3 v c on ag w h
  by_cases h4 : k = 4
  · subst h4; exact OpValid_4 v c on ag w h
  by_cases h5 : k = 5
  · subst h5; exact OpValid_5 v c on ag w h
  by_cases h6 : k = 6
  · subst h6; exact OpValid_6 v c on ag w h
  by_cases h7 : k = 7
  · subst h7; exact OpValid_7 v c on ag w h
  by_cases h8 : k = 8
  · subst h8; exact OpValid_8 v c on ag w h
  by_cases h9 : k = 9
  · subst h9; exact OpValid_9 v c on ag w h
  by_cases h10 : k = 10
  · subst h10; exact OpValid_10 v c on ag w h
  exact OpValid_0 v c k on ag w h (by omega)
end Go.Proofs.YthbnbofoefdneaaDoor
