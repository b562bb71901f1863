/- An argument of the type laws.Prog, as data (made by exproof.py). -/
import Derived.Test.YtobkammimkgnkaaArgs
import Derived.Test.YtobkammimkgnkaaArgOps
import Derived.Test.YtobkammimkgnkaaStProg
import Derived.KernelRfl
namespace Go.Proofs.Ytobkammimkgnkaa
open Go.RowKit Go.ChangeShapes Go.WideShapes Go.Deep
set_option maxRecDepth 100000 in
theorem argProg {H : Type} {enc : TypeId × Value → H} {w : World} {base b0 : Nat} {held : Bool} {r : Reach} {v : Value} {d : DataW H} {p : List MemPlace} (hv : Value.okWide Try.prog w r b0 25 v)
    (h : DataW.Trod enc Try.prog w base (fun _ => true) held 25 v d p) : ∃ c : ProgD, ProgRow w v c := by
  obtain ⟨l, n, rfl, hl, hf⟩ := open_fields Try.underlying25 (by kernel_rfl) (by kernel_rfl) hv h
  match l, hl with
  | [v0, v1, v2, v3, v4], _ =>
    obtain ⟨y0, h0⟩ := hf 0 _ v0 rfl rfl
    obtain ⟨y1, h1⟩ := hf 1 _ v1 rfl rfl
    obtain ⟨y2, h2⟩ := hf 2 _ v2 rfl rfl
    obtain ⟨y3, h3⟩ := hf 3 _ v3 rfl rfl
    obtain ⟨y4, h4⟩ := hf 4 _ v4 rfl rfl
    obtain ⟨a0, p0, x0, rfl, r0⟩ := arg_ints Try.underlying22 Try.underlying3 (by kernel_rfl) h0
    obtain ⟨a1, p1, x1, rfl, r1⟩ := arg_ints Try.underlying22 Try.underlying3 (by kernel_rfl) h1
    obtain ⟨a2, p2, x2, rfl, r2⟩ := arg_ints Try.underlying22 Try.underlying3 (by kernel_rfl) h2
    obtain ⟨a3, p3, x3, rfl, r3⟩ := arg_ints Try.underlying22 Try.underlying3 (by kernel_rfl) h3
    obtain ⟨a4, p4, x4, rfl, r4⟩ := arg_tripss Try.underlying23 (by kernel_rfl) Try.underlying69 Try.underlying34 (by kernel_rfl) rfl rfl rfl (by kernel_rfl) rfl rfl rfl Try.underlying3 h4
    exact ⟨⟨x0, x1, x2, x3, x4⟩, a0, p0, a1, p1, a2, p2, a3, p3, a4, p4, rfl, r0, r1, r2, r3, r4⟩
end Go.Proofs.Ytobkammimkgnkaa
