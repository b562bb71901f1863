/- An argument of the type laws.Lock, as data (made by exproof.py). -/
import Derived.Test.YtbnfhnfnbhigoaaDoorArgs
import Derived.Test.YtbnfhnfnbhigoaaDoorStLock
import Derived.KernelRfl
namespace Go.Proofs.YtbnfhnfnbhigoaaDoor
open Go.RowKit Go.ChangeShapes Go.WideShapes Go.Deep
set_option maxRecDepth 100000 in
theorem argLock {H : Type} {enc : TypeId × Value → H} {w : World} {base b0 : Nat} {held : Bool} {r : Reach} {v : Value} {d : DataW H} {p : List MemPlace} (hv : Value.okWide Tryd.prog w r b0 25 v)
    (h : DataW.Trod enc Tryd.prog w base (fun _ => true) held 25 v d p) : ∃ c : LockD, LockRow w v c := by
  obtain ⟨l, n, rfl, hl, hf⟩ := open_fields Tryd.underlying25 (by kernel_rfl) (by kernel_rfl) hv h
  match l, hl with
  | [v0, v1, v2], _ =>
    obtain ⟨y0, h0⟩ := hf 0 _ v0 rfl rfl
    obtain ⟨y1, h1⟩ := hf 1 _ v1 rfl rfl
    obtain ⟨y2, h2⟩ := hf 2 _ v2 rfl rfl
    obtain ⟨a0, p0, x0, rfl, r0⟩ := arg_ints Tryd.underlying22 Tryd.underlying3 (by kernel_rfl) h0
    obtain ⟨x1, rfl⟩ := arg_int Tryd.underlying3 h1
    obtain ⟨a2, p2, x2, rfl, r2⟩ := arg_wants Tryd.underlying23 Tryd.underlying68 (by kernel_rfl) rfl rfl (by kernel_rfl) (by kernel_rfl) rfl rfl Tryd.underlying3 Tryd.underlying4 h2
    exact ⟨⟨x0, x1, x2⟩, a0, p0, a2, p2, rfl, r0, r2⟩
end Go.Proofs.YtbnfhnfnbhigoaaDoor
