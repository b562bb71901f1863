/-
  No cell of these rows narrows 'for every input' (looked for: loops, veiled, ifaces, maps, wideKeys, modest, calm, conditions, laid).
  DERIVED. THE GIVEN ROWS OF THIS SEAT. 4 by the template 'for every input the law returns true; each argument reads behind the call as it read before'; 0 by the template 'total and deterministic' (their statements: YtbnfhnfnbhigoaaTotals.lean).
  GIVEN WITH THE SEED: the statements are not yours to turn. If you find one false, say at which input.
  Laid BY PROGRAM, IN A SANDBOX (cutbox-rows.mjs): the forced cells as the released guide's own fill.sh prints them over the translation ac85f5e22491a6a0… (all of the seat's roots in one cut). By AI agents, Wed Nov 11 2026. No macro, syntax, notation, axiom, sorry.
-/
import Derived.Test.YtbnfhnfnbhigoaaChecked
import GoSem.Claim
import GoSem.ClaimJoined
import GoSem.ClaimMapViews
import Derived.JoinedTies
import Derived.KernelRfl
namespace Go.Proofs.Ytbnfhnfnbhigoaa
/- THE CELL 'sum', in the pinned program and in every row, IS THE sha256 OF THE DUMP (.gsa) THAT YtbnfhnfnbhigoaaProg.lean LOADS. Nothing in Lean hashes anything: it is a label: what it is worth is what the hold of that sum in a sandbox is worth. -/
noncomputable def Try.pinned : Pinned := { name := "ytbnfhnfnbhigoaa", sum := "ac85f5e22491a6a0fa2ffdd930119166bbe093a529a3ff2ede7fb9e5f235782c", checked := Try.checked }
namespace Rows
def none {H : Type} : Left H := { results := [], args := [] }

/-- 'laws.FnExactLockSame': WHATEVER THE INPUT: true; the input reads as it did. -/
def fnExactLockSameSpec : ChangeSpec := { name := "fnExactLockSame", fn := fun _ => fun
  | [d1, d2] => { results := [.lit (.bool true)], args := [d1, d2] }
  | _ => none }
def fnExactLockSameRow : OpenClaim := { program := "ytbnfhnfnbhigoaa", sum := "ac85f5e22491a6a0fa2ffdd930119166bbe093a529a3ff2ede7fb9e5f235782c", func := "loop.example/waitkit/laws.FnExactLockSame", spec := "fnExactLockSame", apart := false }
def FnExactLockSameSaid : Prop := fnExactLockSameRow.holds Try.pinned (OpenSpec.ofChange fnExactLockSameSpec)

/-- ITS FALSE NEIGHBOUR: 'it returns false'. Refute it at one input. -/
def fnExactLockSameWrong : ChangeSpec := { name := "fnExactLockSame", fn := fun _ => fun
  | [d1, d2] => { results := [.lit (.bool false)], args := [d1, d2] }
  | _ => none }
def FnExactLockSameWrongFalsely : Prop := fnExactLockSameRow.holds Try.pinned (OpenSpec.ofChange fnExactLockSameWrong)

/-- 'laws.FnExactLockValid': WHATEVER THE INPUT: true; the input reads as it did. -/
def fnExactLockValidSpec : ChangeSpec := { name := "fnExactLockValid", fn := fun _ => fun
  | [d] => { results := [.lit (.bool true)], args := [d] }
  | _ => none }
def fnExactLockValidRow : OpenClaim := { program := "ytbnfhnfnbhigoaa", sum := "ac85f5e22491a6a0fa2ffdd930119166bbe093a529a3ff2ede7fb9e5f235782c", func := "loop.example/waitkit/laws.FnExactLockValid", spec := "fnExactLockValid", apart := false }
def FnExactLockValidSaid : Prop := fnExactLockValidRow.holds Try.pinned (OpenSpec.ofChange fnExactLockValidSpec)

/-- ITS FALSE NEIGHBOUR: 'it returns false'. Refute it at one input. -/
def fnExactLockValidWrong : ChangeSpec := { name := "fnExactLockValid", fn := fun _ => fun
  | [d] => { results := [.lit (.bool false)], args := [d] }
  | _ => none }
def FnExactLockValidWrongFalsely : Prop := fnExactLockValidRow.holds Try.pinned (OpenSpec.ofChange fnExactLockValidWrong)

/-- 'laws.FnExactHoldsLock': WHATEVER THE INPUT: true; the input reads as it did. -/
def fnExactHoldsLockSpec : ChangeSpec := { name := "fnExactHoldsLock", fn := fun _ => fun
  | [d1, d2] => { results := [.lit (.bool true)], args := [d1, d2] }
  | _ => none }
def fnExactHoldsLockRow : OpenClaim := { program := "ytbnfhnfnbhigoaa", sum := "ac85f5e22491a6a0fa2ffdd930119166bbe093a529a3ff2ede7fb9e5f235782c", func := "loop.example/waitkit/laws.FnExactHoldsLock", spec := "fnExactHoldsLock", apart := false }
def FnExactHoldsLockSaid : Prop := fnExactHoldsLockRow.holds Try.pinned (OpenSpec.ofChange fnExactHoldsLockSpec)

/-- ITS FALSE NEIGHBOUR: 'it returns false'. Refute it at one input. -/
def fnExactHoldsLockWrong : ChangeSpec := { name := "fnExactHoldsLock", fn := fun _ => fun
  | [d1, d2] => { results := [.lit (.bool false)], args := [d1, d2] }
  | _ => none }
def FnExactHoldsLockWrongFalsely : Prop := fnExactHoldsLockRow.holds Try.pinned (OpenSpec.ofChange fnExactHoldsLockWrong)

/-- 'laws.FnWriterAlone': WHATEVER THE INPUT: true; the input reads as it did. -/
def fnWriterAloneSpec : ChangeSpec := { name := "fnWriterAlone", fn := fun _ => fun
  | [d] => { results := [.lit (.bool true)], args := [d] }
  | _ => none }
def fnWriterAloneRow : OpenClaim := { program := "ytbnfhnfnbhigoaa", sum := "ac85f5e22491a6a0fa2ffdd930119166bbe093a529a3ff2ede7fb9e5f235782c", func := "loop.example/waitkit/laws.FnWriterAlone", spec := "fnWriterAlone", apart := false }
def FnWriterAloneSaid : Prop := fnWriterAloneRow.holds Try.pinned (OpenSpec.ofChange fnWriterAloneSpec)

/-- ITS FALSE NEIGHBOUR: 'it returns false'. Refute it at one input. -/
def fnWriterAloneWrong : ChangeSpec := { name := "fnWriterAlone", fn := fun _ => fun
  | [d] => { results := [.lit (.bool false)], args := [d] }
  | _ => none }
def FnWriterAloneWrongFalsely : Prop := fnWriterAloneRow.holds Try.pinned (OpenSpec.ofChange fnWriterAloneWrong)

/- THE SECOND FORM. 'bulk': how many values and letters a reading holds, each counted each time it is reached (what is shared counts as often as it is met; a slice's spare places count too). A statement '..UptoSaid' is the law's where the arguments, and the package variables that the reading takes, are together of bulk at most 1048576: NARROWER than '..Said'. Prove '..Said' where nothing that the law and all that it calls make is longer than what came in: it says more and counts as full. Else prove '..UptoSaid'. A law counts once. -/
mutual
def uptoBulk {H : Type} : DataW H → Nat
  | .lit (.string bytes) => bytes.length + 1
  | .lit _ => 1
  | .nil => 1
  | .ptr d => uptoBulk d + 1
  | .slice elems spare => uptoBulkAll elems + uptoBulkAll spare + 1
  | .agg parts => uptoBulkAll parts + 1
  | .iface _ d => uptoBulk d + 1
  | .map entries => uptoBulkEntries entries + 1
  | .held _ => 1
def uptoBulkAll {H : Type} : List (DataW H) → Nat
  | [] => 0
  | d :: r => uptoBulk d + uptoBulkAll r
def uptoBulkEntries {H : Type} : List (Lit × DataW H) → Nat
  | [] => 0
  | x :: r => uptoBulkEntry x + uptoBulkEntries r
def uptoBulkEntry {H : Type} : Lit × DataW H → Nat
  | (.string bytes, d) => bytes.length + uptoBulk d + 1
  | (_, d) => uptoBulk d + 1
 end
def uptoSmall : (H : Type) → List (DataW H) → Bool := fun _ ds => decide (uptoBulkAll ds ≤ 1048576)
def OpenSpec.upto (s : _root_.Go.ChangeSpec) : _root_.Go.OpenSpec := { _root_.Go.OpenSpec.ofChange s with cond := some uptoSmall }

/-- 'laws.FnExactLockSame', WHERE WHAT IT READS IS OF BULK AT MOST 1048576: true; the input reads as it did. -/
def fnExactLockSameUptoRow : OpenClaim := { program := "ytbnfhnfnbhigoaa", sum := "ac85f5e22491a6a0fa2ffdd930119166bbe093a529a3ff2ede7fb9e5f235782c", func := "loop.example/waitkit/laws.FnExactLockSame", spec := "fnExactLockSame", apart := false, narrowed := true }
def FnExactLockSameUptoSaid : Prop := fnExactLockSameUptoRow.holds Try.pinned (OpenSpec.upto fnExactLockSameSpec)

/-- 'laws.FnExactLockValid', WHERE WHAT IT READS IS OF BULK AT MOST 1048576: true; the input reads as it did. -/
def fnExactLockValidUptoRow : OpenClaim := { program := "ytbnfhnfnbhigoaa", sum := "ac85f5e22491a6a0fa2ffdd930119166bbe093a529a3ff2ede7fb9e5f235782c", func := "loop.example/waitkit/laws.FnExactLockValid", spec := "fnExactLockValid", apart := false, narrowed := true }
def FnExactLockValidUptoSaid : Prop := fnExactLockValidUptoRow.holds Try.pinned (OpenSpec.upto fnExactLockValidSpec)

/-- 'laws.FnExactHoldsLock', WHERE WHAT IT READS IS OF BULK AT MOST 1048576: true; the input reads as it did. -/
def fnExactHoldsLockUptoRow : OpenClaim := { program := "ytbnfhnfnbhigoaa", sum := "ac85f5e22491a6a0fa2ffdd930119166bbe093a529a3ff2ede7fb9e5f235782c", func := "loop.example/waitkit/laws.FnExactHoldsLock", spec := "fnExactHoldsLock", apart := false, narrowed := true }
def FnExactHoldsLockUptoSaid : Prop := fnExactHoldsLockUptoRow.holds Try.pinned (OpenSpec.upto fnExactHoldsLockSpec)

/-- 'laws.FnWriterAlone', WHERE WHAT IT READS IS OF BULK AT MOST 1048576: true; the input reads as it did. -/
def fnWriterAloneUptoRow : OpenClaim := { program := "ytbnfhnfnbhigoaa", sum := "ac85f5e22491a6a0fa2ffdd930119166bbe093a529a3ff2ede7fb9e5f235782c", func := "loop.example/waitkit/laws.FnWriterAlone", spec := "fnWriterAlone", apart := false, narrowed := true }
def FnWriterAloneUptoSaid : Prop := fnWriterAloneUptoRow.holds Try.pinned (OpenSpec.upto fnWriterAloneSpec)

end Rows
end Go.Proofs.Ytbnfhnfnbhigoaa
