/- Marking a slice of ints, in the words of the laws. -/
import Derived.Test.YtpgiinklbnlloaaSpan
import Derived.Test.YtpgiinklbnlloaaExI
namespace Go.Proofs.Ytpgiinklbnlloaa
open Go.RowKit
set_option linter.unusedSimpArgs false
set_option linter.unusedVariables false
theorem markIntSO (lo hi : Nat) (v : Value) (xs : List Int) (q : Int) (w : World) (h : LOwn lo hi w v xs) (hn : xs.length ≤ 1048576) (h0 : 0 ≤ q) (h1 : q ≤ 8388608) :
    Calls Try.prog 31 #[v, .int .i64 q] w fun e w' => e = .returned (.int .i64 (q + xs.length)) ∧ LOwn lo hi w' v (marksI q xs.length) ∧ Span lo hi w w' ∧ w.grownBy w' v.ownBlock := by
  refine (markIntS_calls lo v xs q w h.own hn h0 h1).mono ?_
  rintro e w' ⟨rfl, ho, hg⟩
  exact ⟨rfl, LOwn.mk ho h.lt, Span.of_grown hg (fun g e => ⟨(h.own.block g e).1, h.lt g e⟩), hg⟩
end Go.Proofs.Ytpgiinklbnlloaa
