/-
  No cell of these rows narrows 'for every input' (looked for: loops, veiled, ifaces, maps, wideKeys, modest, calm, conditions, laid).
  DERIVED. THE GIVEN ROWS OF THIS SEAT. 10 by the template 'for every input the law returns true; each argument reads behind the call as it read before'; 0 by the template 'total and deterministic' (their statements: YtmmkbiljjhigfaaTotals.lean).
  GIVEN WITH THE SEED: the statements are not yours to turn. If you find one false, say at which input.
  Laid BY PROGRAM, IN A SANDBOX (cutbox-rows.mjs): the forced cells as the released guide's own fill.sh prints them over the translation 353adec3e3852ebf… (all of the seat's roots in one cut). By AI agents, Wed Nov 11 2026. No macro, syntax, notation, axiom, sorry.
-/
import Derived.Test.YtmmkbiljjhigfaaChecked
import GoSem.Claim
import GoSem.ClaimJoined
import GoSem.ClaimMapViews
import Derived.JoinedTies
import Derived.KernelRfl
namespace Go.Proofs.Ytmmkbiljjhigfaa
/- THE CELL 'sum', in the pinned program and in every row, IS THE sha256 OF THE DUMP (.gsa) THAT YtmmkbiljjhigfaaProg.lean LOADS. Nothing in Lean hashes anything: it is a label: what it is worth is what the hold of that sum in a sandbox is worth. -/
noncomputable def Try.pinned : Pinned := { name := "ytmmkbiljjhigfaa", sum := "353adec3e3852ebf58180884130ac426a2ad3ea3c0969fc0b4fddf9f57243ccd", checked := Try.checked }
namespace Rows
def none {H : Type} : Left H := { results := [], args := [] }

/-- 'laws.FnEnterOnce': WHATEVER THE INPUT: true; the input reads as it did. -/
def fnEnterOnceSpec : ChangeSpec := { name := "fnEnterOnce", fn := fun _ => fun
  | [d] => { results := [.lit (.bool true)], args := [d] }
  | _ => none }
def fnEnterOnceRow : OpenClaim := { program := "ytmmkbiljjhigfaa", sum := "353adec3e3852ebf58180884130ac426a2ad3ea3c0969fc0b4fddf9f57243ccd", func := "loop.example/waitkit/laws.FnEnterOnce", spec := "fnEnterOnce", apart := false }
def FnEnterOnceSaid : Prop := fnEnterOnceRow.holds Try.pinned (OpenSpec.ofChange fnEnterOnceSpec)

/-- ITS FALSE NEIGHBOUR: 'it returns false'. Refute it at one input. -/
def fnEnterOnceWrong : ChangeSpec := { name := "fnEnterOnce", fn := fun _ => fun
  | [d] => { results := [.lit (.bool false)], args := [d] }
  | _ => none }
def FnEnterOnceWrongFalsely : Prop := fnEnterOnceRow.holds Try.pinned (OpenSpec.ofChange fnEnterOnceWrong)

/-- 'laws.FnOnceOne': WHATEVER THE INPUT: true; the input reads as it did. -/
def fnOnceOneSpec : ChangeSpec := { name := "fnOnceOne", fn := fun _ => fun
  | [d] => { results := [.lit (.bool true)], args := [d] }
  | _ => none }
def fnOnceOneRow : OpenClaim := { program := "ytmmkbiljjhigfaa", sum := "353adec3e3852ebf58180884130ac426a2ad3ea3c0969fc0b4fddf9f57243ccd", func := "loop.example/waitkit/laws.FnOnceOne", spec := "fnOnceOne", apart := false }
def FnOnceOneSaid : Prop := fnOnceOneRow.holds Try.pinned (OpenSpec.ofChange fnOnceOneSpec)

/-- ITS FALSE NEIGHBOUR: 'it returns false'. Refute it at one input. -/
def fnOnceOneWrong : ChangeSpec := { name := "fnOnceOne", fn := fun _ => fun
  | [d] => { results := [.lit (.bool false)], args := [d] }
  | _ => none }
def FnOnceOneWrongFalsely : Prop := fnOnceOneRow.holds Try.pinned (OpenSpec.ofChange fnOnceOneWrong)

/-- 'laws.FnOnceValid': WHATEVER THE INPUT: true; the input reads as it did. -/
def fnOnceValidSpec : ChangeSpec := { name := "fnOnceValid", fn := fun _ => fun
  | [d] => { results := [.lit (.bool true)], args := [d] }
  | _ => none }
def fnOnceValidRow : OpenClaim := { program := "ytmmkbiljjhigfaa", sum := "353adec3e3852ebf58180884130ac426a2ad3ea3c0969fc0b4fddf9f57243ccd", func := "loop.example/waitkit/laws.FnOnceValid", spec := "fnOnceValid", apart := false }
def FnOnceValidSaid : Prop := fnOnceValidRow.holds Try.pinned (OpenSpec.ofChange fnOnceValidSpec)

/-- ITS FALSE NEIGHBOUR: 'it returns false'. Refute it at one input. -/
def fnOnceValidWrong : ChangeSpec := { name := "fnOnceValid", fn := fun _ => fun
  | [d] => { results := [.lit (.bool false)], args := [d] }
  | _ => none }
def FnOnceValidWrongFalsely : Prop := fnOnceValidRow.holds Try.pinned (OpenSpec.ofChange fnOnceValidWrong)

/-- 'laws.FnExactEnterOnce': WHATEVER THE INPUT: true; the input reads as it did. -/
def fnExactEnterOnceSpec : ChangeSpec := { name := "fnExactEnterOnce", fn := fun _ => fun
  | [d1, d2] => { results := [.lit (.bool true)], args := [d1, d2] }
  | _ => none }
def fnExactEnterOnceRow : OpenClaim := { program := "ytmmkbiljjhigfaa", sum := "353adec3e3852ebf58180884130ac426a2ad3ea3c0969fc0b4fddf9f57243ccd", func := "loop.example/waitkit/laws.FnExactEnterOnce", spec := "fnExactEnterOnce", apart := false }
def FnExactEnterOnceSaid : Prop := fnExactEnterOnceRow.holds Try.pinned (OpenSpec.ofChange fnExactEnterOnceSpec)

/-- ITS FALSE NEIGHBOUR: 'it returns false'. Refute it at one input. -/
def fnExactEnterOnceWrong : ChangeSpec := { name := "fnExactEnterOnce", fn := fun _ => fun
  | [d1, d2] => { results := [.lit (.bool false)], args := [d1, d2] }
  | _ => none }
def FnExactEnterOnceWrongFalsely : Prop := fnExactEnterOnceRow.holds Try.pinned (OpenSpec.ofChange fnExactEnterOnceWrong)

/-- 'laws.FnFinishOnce': WHATEVER THE INPUT: true; the input reads as it did. -/
def fnFinishOnceSpec : ChangeSpec := { name := "fnFinishOnce", fn := fun _ => fun
  | [d] => { results := [.lit (.bool true)], args := [d] }
  | _ => none }
def fnFinishOnceRow : OpenClaim := { program := "ytmmkbiljjhigfaa", sum := "353adec3e3852ebf58180884130ac426a2ad3ea3c0969fc0b4fddf9f57243ccd", func := "loop.example/waitkit/laws.FnFinishOnce", spec := "fnFinishOnce", apart := false }
def FnFinishOnceSaid : Prop := fnFinishOnceRow.holds Try.pinned (OpenSpec.ofChange fnFinishOnceSpec)

/-- ITS FALSE NEIGHBOUR: 'it returns false'. Refute it at one input. -/
def fnFinishOnceWrong : ChangeSpec := { name := "fnFinishOnce", fn := fun _ => fun
  | [d] => { results := [.lit (.bool false)], args := [d] }
  | _ => none }
def FnFinishOnceWrongFalsely : Prop := fnFinishOnceRow.holds Try.pinned (OpenSpec.ofChange fnFinishOnceWrong)

/-- 'laws.FnOnceAgain': WHATEVER THE INPUT: true; the input reads as it did. -/
def fnOnceAgainSpec : ChangeSpec := { name := "fnOnceAgain", fn := fun _ => fun
  | [d] => { results := [.lit (.bool true)], args := [d] }
  | _ => none }
def fnOnceAgainRow : OpenClaim := { program := "ytmmkbiljjhigfaa", sum := "353adec3e3852ebf58180884130ac426a2ad3ea3c0969fc0b4fddf9f57243ccd", func := "loop.example/waitkit/laws.FnOnceAgain", spec := "fnOnceAgain", apart := false }
def FnOnceAgainSaid : Prop := fnOnceAgainRow.holds Try.pinned (OpenSpec.ofChange fnOnceAgainSpec)

/-- ITS FALSE NEIGHBOUR: 'it returns false'. Refute it at one input. -/
def fnOnceAgainWrong : ChangeSpec := { name := "fnOnceAgain", fn := fun _ => fun
  | [d] => { results := [.lit (.bool false)], args := [d] }
  | _ => none }
def FnOnceAgainWrongFalsely : Prop := fnOnceAgainRow.holds Try.pinned (OpenSpec.ofChange fnOnceAgainWrong)

/-- 'laws.FnAcquire': WHATEVER THE INPUT: true; the input reads as it did. -/
def fnAcquireSpec : ChangeSpec := { name := "fnAcquire", fn := fun _ => fun
  | [d] => { results := [.lit (.bool true)], args := [d] }
  | _ => none }
def fnAcquireRow : OpenClaim := { program := "ytmmkbiljjhigfaa", sum := "353adec3e3852ebf58180884130ac426a2ad3ea3c0969fc0b4fddf9f57243ccd", func := "loop.example/waitkit/laws.FnAcquire", spec := "fnAcquire", unfollowed := true, recurses := true, apart := false }
def FnAcquireSaid : Prop := fnAcquireRow.holds Try.pinned (OpenSpec.ofChange fnAcquireSpec)

/-- ITS FALSE NEIGHBOUR: 'it returns false'. Refute it at one input. -/
def fnAcquireWrong : ChangeSpec := { name := "fnAcquire", fn := fun _ => fun
  | [d] => { results := [.lit (.bool false)], args := [d] }
  | _ => none }
def FnAcquireWrongFalsely : Prop := fnAcquireRow.holds Try.pinned (OpenSpec.ofChange fnAcquireWrong)

/-- 'laws.FnCancelAll': WHATEVER THE INPUT: true; the input reads as it did. -/
def fnCancelAllSpec : ChangeSpec := { name := "fnCancelAll", fn := fun _ => fun
  | [d] => { results := [.lit (.bool true)], args := [d] }
  | _ => none }
def fnCancelAllRow : OpenClaim := { program := "ytmmkbiljjhigfaa", sum := "353adec3e3852ebf58180884130ac426a2ad3ea3c0969fc0b4fddf9f57243ccd", func := "loop.example/waitkit/laws.FnCancelAll", spec := "fnCancelAll", unfollowed := true, recurses := true, apart := false }
def FnCancelAllSaid : Prop := fnCancelAllRow.holds Try.pinned (OpenSpec.ofChange fnCancelAllSpec)

/-- ITS FALSE NEIGHBOUR: 'it returns false'. Refute it at one input. -/
def fnCancelAllWrong : ChangeSpec := { name := "fnCancelAll", fn := fun _ => fun
  | [d] => { results := [.lit (.bool false)], args := [d] }
  | _ => none }
def FnCancelAllWrongFalsely : Prop := fnCancelAllRow.holds Try.pinned (OpenSpec.ofChange fnCancelAllWrong)

/-- 'laws.FnCancelWait': WHATEVER THE INPUT: true; the input reads as it did. -/
def fnCancelWaitSpec : ChangeSpec := { name := "fnCancelWait", fn := fun _ => fun
  | [d] => { results := [.lit (.bool true)], args := [d] }
  | _ => none }
def fnCancelWaitRow : OpenClaim := { program := "ytmmkbiljjhigfaa", sum := "353adec3e3852ebf58180884130ac426a2ad3ea3c0969fc0b4fddf9f57243ccd", func := "loop.example/waitkit/laws.FnCancelWait", spec := "fnCancelWait", unfollowed := true, recurses := true, apart := false }
def FnCancelWaitSaid : Prop := fnCancelWaitRow.holds Try.pinned (OpenSpec.ofChange fnCancelWaitSpec)

/-- ITS FALSE NEIGHBOUR: 'it returns false'. Refute it at one input. -/
def fnCancelWaitWrong : ChangeSpec := { name := "fnCancelWait", fn := fun _ => fun
  | [d] => { results := [.lit (.bool false)], args := [d] }
  | _ => none }
def FnCancelWaitWrongFalsely : Prop := fnCancelWaitRow.holds Try.pinned (OpenSpec.ofChange fnCancelWaitWrong)

/-- 'laws.FnExactCancelWait': WHATEVER THE INPUT: true; the input reads as it did. -/
def fnExactCancelWaitSpec : ChangeSpec := { name := "fnExactCancelWait", fn := fun _ => fun
  | [d1, d2] => { results := [.lit (.bool true)], args := [d1, d2] }
  | _ => none }
def fnExactCancelWaitRow : OpenClaim := { program := "ytmmkbiljjhigfaa", sum := "353adec3e3852ebf58180884130ac426a2ad3ea3c0969fc0b4fddf9f57243ccd", func := "loop.example/waitkit/laws.FnExactCancelWait", spec := "fnExactCancelWait", unfollowed := true, recurses := true, apart := false }
def FnExactCancelWaitSaid : Prop := fnExactCancelWaitRow.holds Try.pinned (OpenSpec.ofChange fnExactCancelWaitSpec)

/-- ITS FALSE NEIGHBOUR: 'it returns false'. Refute it at one input. -/
def fnExactCancelWaitWrong : ChangeSpec := { name := "fnExactCancelWait", fn := fun _ => fun
  | [d1, d2] => { results := [.lit (.bool false)], args := [d1, d2] }
  | _ => none }
def FnExactCancelWaitWrongFalsely : Prop := fnExactCancelWaitRow.holds Try.pinned (OpenSpec.ofChange fnExactCancelWaitWrong)

/- THE SECOND FORM. 'bulk': how many values and letters a reading holds, each counted each time it is reached (what is shared counts as often as it is met; a slice's spare places count too). A statement '..UptoSaid' is the law's where the arguments, and the package variables that the reading takes, are together of bulk at most 1048576: NARROWER than '..Said'. Prove '..Said' where nothing that the law and all that it calls make is longer than what came in: it says more and counts as full. Else prove '..UptoSaid'. A law counts once. -/
mutual
def uptoBulk {H : Type} : DataW H → Nat
  | .lit (.string bytes) => bytes.length + 1
  | .lit _ => 1
  | .nil => 1
  | .ptr d => uptoBulk d + 1
  | .slice elems spare => uptoBulkAll elems + uptoBulkAll spare + 1
  | .agg parts => uptoBulkAll parts + 1
  | .iface _ d => uptoBulk d + 1
  | .map entries => uptoBulkEntries entries + 1
  | .held _ => 1
def uptoBulkAll {H : Type} : List (DataW H) → Nat
  | [] => 0
  | d :: r => uptoBulk d + uptoBulkAll r
def uptoBulkEntries {H : Type} : List (Lit × DataW H) → Nat
  | [] => 0
  | x :: r => uptoBulkEntry x + uptoBulkEntries r
def uptoBulkEntry {H : Type} : Lit × DataW H → Nat
  | (.string bytes, d) => bytes.length + uptoBulk d + 1
  | (_, d) => uptoBulk d + 1
 end
def uptoSmall : (H : Type) → List (DataW H) → Bool := fun _ ds => decide (uptoBulkAll ds ≤ 1048576)
def OpenSpec.upto (s : _root_.Go.ChangeSpec) : _root_.Go.OpenSpec := { _root_.Go.OpenSpec.ofChange s with cond := some uptoSmall }

/-- 'laws.FnEnterOnce', WHERE WHAT IT READS IS OF BULK AT MOST 1048576: true; the input reads as it did. -/
def fnEnterOnceUptoRow : OpenClaim := { program := "ytmmkbiljjhigfaa", sum := "353adec3e3852ebf58180884130ac426a2ad3ea3c0969fc0b4fddf9f57243ccd", func := "loop.example/waitkit/laws.FnEnterOnce", spec := "fnEnterOnce", apart := false, narrowed := true }
def FnEnterOnceUptoSaid : Prop := fnEnterOnceUptoRow.holds Try.pinned (OpenSpec.upto fnEnterOnceSpec)

/-- 'laws.FnOnceOne', WHERE WHAT IT READS IS OF BULK AT MOST 1048576: true; the input reads as it did. -/
def fnOnceOneUptoRow : OpenClaim := { program := "ytmmkbiljjhigfaa", sum := "353adec3e3852ebf58180884130ac426a2ad3ea3c0969fc0b4fddf9f57243ccd", func := "loop.example/waitkit/laws.FnOnceOne", spec := "fnOnceOne", apart := false, narrowed := true }
def FnOnceOneUptoSaid : Prop := fnOnceOneUptoRow.holds Try.pinned (OpenSpec.upto fnOnceOneSpec)

/-- 'laws.FnOnceValid', WHERE WHAT IT READS IS OF BULK AT MOST 1048576: true; the input reads as it did. -/
def fnOnceValidUptoRow : OpenClaim := { program := "ytmmkbiljjhigfaa", sum := "353adec3e3852ebf58180884130ac426a2ad3ea3c0969fc0b4fddf9f57243ccd", func := "loop.example/waitkit/laws.FnOnceValid", spec := "fnOnceValid", apart := false, narrowed := true }
def FnOnceValidUptoSaid : Prop := fnOnceValidUptoRow.holds Try.pinned (OpenSpec.upto fnOnceValidSpec)

/-- 'laws.FnExactEnterOnce', WHERE WHAT IT READS IS OF BULK AT MOST 1048576: true; the input reads as it did. -/
def fnExactEnterOnceUptoRow : OpenClaim := { program := "ytmmkbiljjhigfaa", sum := "353adec3e3852ebf58180884130ac426a2ad3ea3c0969fc0b4fddf9f57243ccd", func := "loop.example/waitkit/laws.FnExactEnterOnce", spec := "fnExactEnterOnce", apart := false, narrowed := true }
def FnExactEnterOnceUptoSaid : Prop := fnExactEnterOnceUptoRow.holds Try.pinned (OpenSpec.upto fnExactEnterOnceSpec)

/-- 'laws.FnFinishOnce', WHERE WHAT IT READS IS OF BULK AT MOST 1048576: true; the input reads as it did. -/
def fnFinishOnceUptoRow : OpenClaim := { program := "ytmmkbiljjhigfaa", sum := "353adec3e3852ebf58180884130ac426a2ad3ea3c0969fc0b4fddf9f57243ccd", func := "loop.example/waitkit/laws.FnFinishOnce", spec := "fnFinishOnce", apart := false, narrowed := true }
def FnFinishOnceUptoSaid : Prop := fnFinishOnceUptoRow.holds Try.pinned (OpenSpec.upto fnFinishOnceSpec)

/-- 'laws.FnOnceAgain', WHERE WHAT IT READS IS OF BULK AT MOST 1048576: true; the input reads as it did. -/
def fnOnceAgainUptoRow : OpenClaim := { program := "ytmmkbiljjhigfaa", sum := "353adec3e3852ebf58180884130ac426a2ad3ea3c0969fc0b4fddf9f57243ccd", func := "loop.example/waitkit/laws.FnOnceAgain", spec := "fnOnceAgain", apart := false, narrowed := true }
def FnOnceAgainUptoSaid : Prop := fnOnceAgainUptoRow.holds Try.pinned (OpenSpec.upto fnOnceAgainSpec)

/-- 'laws.FnAcquire', WHERE WHAT IT READS IS OF BULK AT MOST 1048576: true; the input reads as it did. -/
def fnAcquireUptoRow : OpenClaim := { program := "ytmmkbiljjhigfaa", sum := "353adec3e3852ebf58180884130ac426a2ad3ea3c0969fc0b4fddf9f57243ccd", func := "loop.example/waitkit/laws.FnAcquire", spec := "fnAcquire", unfollowed := true, recurses := true, apart := false, narrowed := true }
def FnAcquireUptoSaid : Prop := fnAcquireUptoRow.holds Try.pinned (OpenSpec.upto fnAcquireSpec)

/-- 'laws.FnCancelAll', WHERE WHAT IT READS IS OF BULK AT MOST 1048576: true; the input reads as it did. -/
def fnCancelAllUptoRow : OpenClaim := { program := "ytmmkbiljjhigfaa", sum := "353adec3e3852ebf58180884130ac426a2ad3ea3c0969fc0b4fddf9f57243ccd", func := "loop.example/waitkit/laws.FnCancelAll", spec := "fnCancelAll", unfollowed := true, recurses := true, apart := false, narrowed := true }
def FnCancelAllUptoSaid : Prop := fnCancelAllUptoRow.holds Try.pinned (OpenSpec.upto fnCancelAllSpec)

/-- 'laws.FnCancelWait', WHERE WHAT IT READS IS OF BULK AT MOST 1048576: true; the input reads as it did. -/
def fnCancelWaitUptoRow : OpenClaim := { program := "ytmmkbiljjhigfaa", sum := "353adec3e3852ebf58180884130ac426a2ad3ea3c0969fc0b4fddf9f57243ccd", func := "loop.example/waitkit/laws.FnCancelWait", spec := "fnCancelWait", unfollowed := true, recurses := true, apart := false, narrowed := true }
def FnCancelWaitUptoSaid : Prop := fnCancelWaitUptoRow.holds Try.pinned (OpenSpec.upto fnCancelWaitSpec)

/-- 'laws.FnExactCancelWait', WHERE WHAT IT READS IS OF BULK AT MOST 1048576: true; the input reads as it did. -/
def fnExactCancelWaitUptoRow : OpenClaim := { program := "ytmmkbiljjhigfaa", sum := "353adec3e3852ebf58180884130ac426a2ad3ea3c0969fc0b4fddf9f57243ccd", func := "loop.example/waitkit/laws.FnExactCancelWait", spec := "fnExactCancelWait", unfollowed := true, recurses := true, apart := false, narrowed := true }
def FnExactCancelWaitUptoSaid : Prop := fnExactCancelWaitUptoRow.holds Try.pinned (OpenSpec.upto fnExactCancelWaitSpec)

end Rows
end Go.Proofs.Ytmmkbiljjhigfaa
