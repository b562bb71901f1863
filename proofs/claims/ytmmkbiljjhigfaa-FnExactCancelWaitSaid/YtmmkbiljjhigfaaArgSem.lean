/- An argument of the type laws.Sem, as data (made by exproof.py). -/
import Derived.Test.YtmmkbiljjhigfaaArgs
import Derived.Test.YtmmkbiljjhigfaaStSem
import Derived.KernelRfl
namespace Go.Proofs.Ytmmkbiljjhigfaa
open Go.RowKit Go.ChangeShapes Go.WideShapes Go.Deep
set_option maxRecDepth 100000 in
theorem argSem {H : Type} {enc : TypeId × Value → H} {w : World} {base b0 : Nat} {held : Bool} {r : Reach} {v : Value} {d : DataW H} {p : List MemPlace} (hv : Value.okWide Try.prog w r b0 65 v)
    (h : DataW.Trod enc Try.prog w base (fun _ => true) held 65 v d p) : ∃ c : SemD, SemRow w v c := by
  obtain ⟨l, n, rfl, hl, hf⟩ := open_fields Try.underlying65 (by kernel_rfl) (by kernel_rfl) hv h
  match l, hl with
  | [v0, v1, v2], _ =>
    obtain ⟨y0, h0⟩ := hf 0 _ v0 rfl rfl
    obtain ⟨y1, h1⟩ := hf 1 _ v1 rfl rfl
    obtain ⟨y2, h2⟩ := hf 2 _ v2 rfl rfl
    obtain ⟨x0, rfl⟩ := arg_int Try.underlying3 h0
    obtain ⟨x1, rfl⟩ := arg_int Try.underlying3 h1
    obtain ⟨a2, p2, x2, rfl, r2⟩ := arg_pairs Try.underlying63 Try.underlying103 (by kernel_rfl) rfl rfl (by kernel_rfl) (by kernel_rfl) rfl rfl Try.underlying3 Try.underlying3 h2
    exact ⟨⟨x0, x1, x2⟩, a2, p2, rfl, r2⟩
end Go.Proofs.Ytmmkbiljjhigfaa
