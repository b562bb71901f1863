/- An operation whose guard says yes goes as if it had none. -/
import Derived.Test.YtpgiinklbnlloaaBase
namespace Go.Proofs.Ytpgiinklbnlloaa
theorem wpList_free {P : Program} {ops : Array Oper} {Q : Exit → Act → World → Prop} {a : Act} {w : World} {rest : List Oper} {o : Oper}
    (hw : Region.wanted o (yielded ops a.tmps) = true) (h : wpList P ops Q ({ o with guard := none } :: rest) a w) : wpList P ops Q (o :: rest) a w := by
  have h0 : Region.wanted { o with guard := none } (yielded ops a.tmps) = true := rfl
  unfold wpList at h ⊢
  rw [if_pos h0] at h
  rw [if_pos hw]
  exact h
end Go.Proofs.Ytpgiinklbnlloaa
