/- An argument of the type laws.Chan, as data (made by exproof.py). -/
import Derived.Test.YtpgiinklbnlloaaArgs
import Derived.Test.YtpgiinklbnlloaaStChan
import Derived.KernelRfl
namespace Go.Proofs.Ytpgiinklbnlloaa
open Go.RowKit Go.ChangeShapes Go.WideShapes Go.Deep
set_option maxRecDepth 100000 in
theorem argChan {H : Type} {enc : TypeId × Value → H} {w : World} {base b0 : Nat} {held : Bool} {r : Reach} {v : Value} {d : DataW H} {p : List MemPlace} (hv : Value.okWide Try.prog w r b0 39 v)
    (h : DataW.Trod enc Try.prog w base (fun _ => true) held 39 v d p) : ∃ c : ChanD, ChanRow w v c := by
  obtain ⟨l, n, rfl, hl, hf⟩ := open_fields Try.underlying39 (by kernel_rfl) (by kernel_rfl) hv h
  match l, hl with
  | [v0, v1, v2, v3, v4], _ =>
    obtain ⟨y0, h0⟩ := hf 0 _ v0 rfl rfl
    obtain ⟨y1, h1⟩ := hf 1 _ v1 rfl rfl
    obtain ⟨y2, h2⟩ := hf 2 _ v2 rfl rfl
    obtain ⟨y3, h3⟩ := hf 3 _ v3 rfl rfl
    obtain ⟨y4, h4⟩ := hf 4 _ v4 rfl rfl
    obtain ⟨x0, rfl⟩ := arg_int Try.underlying3 h0
    obtain ⟨a1, p1, x1, rfl, r1⟩ := arg_ints Try.underlying22 Try.underlying3 (by kernel_rfl) h1
    obtain ⟨a2, p2, x2, rfl, r2⟩ := arg_pairs Try.underlying37 Try.underlying84 (by kernel_rfl) rfl rfl (by kernel_rfl) (by kernel_rfl) rfl rfl Try.underlying3 Try.underlying3 h2
    obtain ⟨a3, p3, x3, rfl, r3⟩ := arg_ints Try.underlying22 Try.underlying3 (by kernel_rfl) h3
    obtain ⟨x4, rfl⟩ := arg_bool Try.underlying4 h4
    exact ⟨⟨x0, x1, x2, x3, x4⟩, a1, p1, a2, p2, a3, p3, rfl, r1, r2, r3⟩
end Go.Proofs.Ytpgiinklbnlloaa
