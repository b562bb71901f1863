/- impl.SemSame: what it returns. -/
import Derived.Test.YtmmkbiljjhigfaaSemValid
import Derived.Test.YtmmkbiljjhigfaaEq
namespace Go.Proofs.Ytmmkbiljjhigfaa
open Go.RowKit
set_option linter.unusedSimpArgs false
set_option linter.unusedVariables false

theorem SemSame_calls (f l g m : Int) (v1 v2 : Value) (p q : List (Int × Int)) (w : World) (h1 : PRow w v1 p) (h2 : PRow w v2 q) :
    Calls Try.prog 35 #[.agg #[.int .i64 f, .int .i64 l, v1], .agg #[.int .i64 g, .int .i64 m, v2]] w fun e w' => e = .returned (.bool (decide ((⟨f, l, p⟩ : SemD) = ⟨g, m, q⟩))) ∧ Below w.heap.size w w' := by
  have hb0 : Below w.heap.size w ((w.alloc (.cells #[.int .i64 f, .int .i64 l, v1] 48)).alloc (.cells #[.int .i64 g, .int .i64 m, v2] 48)) := ((Below.refl _ _).alloc (Nat.le_refl _) _).alloc (by simp) _
  have HB := Lib.hid hb0; clear hb0
  by_cases hf : f = g
  · by_cases hl : l = m
    · have df : (f == g) = true := by simpa using hf
      have dl : (l == m) = true := by simpa using hl
      have HF := Lib.hid hf; clear hf
      have HL := Lib.hid hl; clear hl
      go_enter Try.func35, Try.ntmps35
      go_wp2_with (go_at_call 76; refine (EqualW_calls _ _ p q _ (h1.below HB.out) (h2.below HB.out)).mono ?_; rintro e w' ⟨rfl, hb⟩)
      go_ret
      exact ⟨ret_bool (by simp [HF.out, HL.out]), HB.out.trans (hb.mono HB.out.size)⟩
    · have df : (f == g) = true := by simpa using hf
      have dl : (l == m) = false := by simpa using hl
      have HF := Lib.hid hf; clear hf
      go_enter Try.func35, Try.ntmps35
      go_wp2
      go_ret
      exact ⟨ret_bool (by simp [HF.out, hl]), HB.out⟩
  · have df : (f == g) = false := by simpa using hf
    go_enter Try.func35, Try.ntmps35
    go_wp2
    go_ret
    exact ⟨ret_bool (by simp [hf]), HB.out⟩
end Go.Proofs.Ytmmkbiljjhigfaa
