/- An argument of the type laws.Op, as data (made by exproof.py). -/
import Derived.Test.YtchlacepeckeaaaDoorArgs
import Derived.Test.YtchlacepeckeaaaDoorTrip
import Derived.Test.YtchlacepeckeaaaDoorOpText
import Derived.KernelRfl
namespace Go.Proofs.YtchlacepeckeaaaDoor
open Go.RowKit Go.ChangeShapes Go.WideShapes Go.Deep
theorem arg_intB {H : Type} {enc : TypeId × Value → H} {P : Program} {w : World} {base : Nat} {spare : Nat → Bool} {held : Bool} {t : TypeId} {fuel : Nat} {v : Value} {x : DataW H × List MemPlace} (ht : P.underlying t = some (.int .i64)) (h : DataW.trod enc P w base spare held fuel t [v] = some x) : ∃ n : Int, v = .int .i64 n ∧ InB n := by
  obtain ⟨n, hn, _, hw⟩ := DataW.trod_int ht h
  refine ⟨n, by simpa using hn, ?_⟩
  have := hw
  simp [Lit.wf, IntKind.min, IntKind.max, IntKind.signed, IntKind.bits] at this
  unfold InB; omega
set_option maxRecDepth 100000 in
theorem argOpB {H : Type} {enc : TypeId × Value → H} {w : World} {base b0 : Nat} {held : Bool} {r : Reach} {v : Value} {d : DataW H} {p : List MemPlace} (hv : Value.okWide Tryd.prog w r b0 28 v)
    (h : DataW.Trod enc Tryd.prog w base (fun _ => true) held 28 v d p) : ∃ c : Int × Int × Int, v = .agg #[.int .i64 c.1, .int .i64 c.2.1, .int .i64 c.2.2] ∧ InB c.1 ∧ InB c.2.1 ∧ InB c.2.2 := by
  obtain ⟨l, n, rfl, hl, hf⟩ := open_fields Tryd.underlying28 (by kernel_rfl) (by kernel_rfl) hv h
  match l, hl with
  | [v0, v1, v2], _ =>
    obtain ⟨y0, h0⟩ := hf 0 _ v0 rfl rfl
    obtain ⟨y1, h1⟩ := hf 1 _ v1 rfl rfl
    obtain ⟨y2, h2⟩ := hf 2 _ v2 rfl rfl
    obtain ⟨x0, rfl, b0⟩ := arg_intB Tryd.underlying3 h0
    obtain ⟨x1, rfl, b1⟩ := arg_intB Tryd.underlying3 h1
    obtain ⟨x2, rfl, b2⟩ := arg_intB Tryd.underlying3 h2
    exact ⟨(x0, x1, x2), rfl, b0, b1, b2⟩
end Go.Proofs.YtchlacepeckeaaaDoor
