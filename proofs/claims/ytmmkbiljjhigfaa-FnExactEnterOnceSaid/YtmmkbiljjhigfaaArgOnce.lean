/- An argument of the type laws.Once, as data (made by exproof.py). -/
import Derived.Test.YtmmkbiljjhigfaaArgs
import Derived.Test.YtmmkbiljjhigfaaStOnce
import Derived.KernelRfl
namespace Go.Proofs.Ytmmkbiljjhigfaa
open Go.RowKit Go.ChangeShapes Go.WideShapes Go.Deep
set_option maxRecDepth 100000 in
theorem argOnce {H : Type} {enc : TypeId × Value → H} {w : World} {base b0 : Nat} {held : Bool} {r : Reach} {v : Value} {d : DataW H} {p : List MemPlace} (hv : Value.okWide Try.prog w r b0 34 v)
    (h : DataW.Trod enc Try.prog w base (fun _ => true) held 34 v d p) : ∃ c : OnceD, OnceRow w v c := by
  obtain ⟨l, n, rfl, hl, hf⟩ := open_fields Try.underlying34 (by kernel_rfl) (by kernel_rfl) hv h
  match l, hl with
  | [v0, v1, v2, v3], _ =>
    obtain ⟨y0, h0⟩ := hf 0 _ v0 rfl rfl
    obtain ⟨y1, h1⟩ := hf 1 _ v1 rfl rfl
    obtain ⟨y2, h2⟩ := hf 2 _ v2 rfl rfl
    obtain ⟨y3, h3⟩ := hf 3 _ v3 rfl rfl
    obtain ⟨x0, rfl⟩ := arg_int Try.underlying3 h0
    obtain ⟨x1, rfl⟩ := arg_int Try.underlying3 h1
    obtain ⟨x2, rfl⟩ := arg_int Try.underlying3 h2
    obtain ⟨a3, p3, x3, rfl, r3⟩ := arg_ints Try.underlying23 Try.underlying3 (by kernel_rfl) h3
    exact ⟨⟨x0, x1, x2, x3⟩, a3, p3, rfl, r3⟩
end Go.Proofs.Ytmmkbiljjhigfaa
