/- An argument of the type laws.Op, as data (made by exproof.py). -/
import Derived.Test.YtobkammimkgnkaaArgs
import Derived.Test.YtobkammimkgnkaaTrip
import Derived.KernelRfl
namespace Go.Proofs.Ytobkammimkgnkaa
open Go.RowKit Go.ChangeShapes Go.WideShapes Go.Deep
set_option maxRecDepth 100000 in
theorem argOp {H : Type} {enc : TypeId × Value → H} {w : World} {base b0 : Nat} {held : Bool} {r : Reach} {v : Value} {d : DataW H} {p : List MemPlace} (hv : Value.okWide Try.prog w r b0 34 v)
    (h : DataW.Trod enc Try.prog w base (fun _ => true) held 34 v d p) : ∃ c : Int × Int × Int, v = .agg #[.int .i64 c.1, .int .i64 c.2.1, .int .i64 c.2.2] := by
  obtain ⟨l, n, rfl, hl, hf⟩ := open_fields Try.underlying34 (by kernel_rfl) (by kernel_rfl) hv h
  match l, hl with
  | [v0, v1, v2], _ =>
    obtain ⟨y0, h0⟩ := hf 0 _ v0 rfl rfl
    obtain ⟨y1, h1⟩ := hf 1 _ v1 rfl rfl
    obtain ⟨y2, h2⟩ := hf 2 _ v2 rfl rfl
    obtain ⟨x0, rfl⟩ := arg_int Try.underlying3 h0
    obtain ⟨x1, rfl⟩ := arg_int Try.underlying3 h1
    obtain ⟨x2, rfl⟩ := arg_int Try.underlying3 h2
    exact ⟨(x0, x1, x2), rfl⟩
end Go.Proofs.Ytobkammimkgnkaa
