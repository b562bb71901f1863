/-
  No cell of these rows narrows 'for every input' (looked for: loops, veiled, ifaces, maps, wideKeys, modest, calm, conditions, laid).
  DERIVED. THE GIVEN ROWS OF THIS SEAT. 12 by the template 'for every input the law returns true; each argument reads behind the call as it read before'; 0 by the template 'total and deterministic' (their statements: YteecnndlaphlpaaTotals.lean).
  GIVEN WITH THE SEED: the statements are not yours to turn. If you find one false, say at which input.
  Laid BY PROGRAM, IN A SANDBOX (cutbox-rows.mjs): the forced cells as the released guide's own fill.sh prints them over the translation 58201e68b4a0f0d4… (all of the seat's roots in one cut). By AI agents, Wed Nov 11 2026. No macro, syntax, notation, axiom, sorry.
-/
import Derived.Test.YteecnndlaphlpaaChecked
import GoSem.Claim
import GoSem.ClaimJoined
import GoSem.ClaimMapViews
import Derived.JoinedTies
import Derived.KernelRfl
namespace Go.Proofs.Yteecnndlaphlpaa
/- THE CELL 'sum', in the pinned program and in every row, IS THE sha256 OF THE DUMP (.gsa) THAT YteecnndlaphlpaaProg.lean LOADS. Nothing in Lean hashes anything: it is a label: what it is worth is what the hold of that sum in a sandbox is worth. -/
noncomputable def Try.pinned : Pinned := { name := "yteecnndlaphlpaa", sum := "58201e68b4a0f0d40df67ac57a48a79f9047ca531275477ba717f054c4ba4395", checked := Try.checked }
namespace Rows
def none {H : Type} : Left H := { results := [], args := [] }

/-- 'laws.FnNewSem': WHATEVER THE INPUT: true; the input reads as it did. -/
def fnNewSemSpec : ChangeSpec := { name := "fnNewSem", fn := fun _ => fun
  | [d] => { results := [.lit (.bool true)], args := [d] }
  | _ => none }
def fnNewSemRow : OpenClaim := { program := "yteecnndlaphlpaa", sum := "58201e68b4a0f0d40df67ac57a48a79f9047ca531275477ba717f054c4ba4395", func := "loop.example/waitkit/laws.FnNewSem", spec := "fnNewSem", unfollowed := true, recurses := true, apart := false }
def FnNewSemSaid : Prop := fnNewSemRow.holds Try.pinned (OpenSpec.ofChange fnNewSemSpec)

/-- ITS FALSE NEIGHBOUR: 'it returns false'. Refute it at one input. -/
def fnNewSemWrong : ChangeSpec := { name := "fnNewSem", fn := fun _ => fun
  | [d] => { results := [.lit (.bool false)], args := [d] }
  | _ => none }
def FnNewSemWrongFalsely : Prop := fnNewSemRow.holds Try.pinned (OpenSpec.ofChange fnNewSemWrong)

/-- 'laws.FnSemLimit': WHATEVER THE INPUT: true; the input reads as it did. -/
def fnSemLimitSpec : ChangeSpec := { name := "fnSemLimit", fn := fun _ => fun
  | [d] => { results := [.lit (.bool true)], args := [d] }
  | _ => none }
def fnSemLimitRow : OpenClaim := { program := "yteecnndlaphlpaa", sum := "58201e68b4a0f0d40df67ac57a48a79f9047ca531275477ba717f054c4ba4395", func := "loop.example/waitkit/laws.FnSemLimit", spec := "fnSemLimit", apart := false }
def FnSemLimitSaid : Prop := fnSemLimitRow.holds Try.pinned (OpenSpec.ofChange fnSemLimitSpec)

/-- ITS FALSE NEIGHBOUR: 'it returns false'. Refute it at one input. -/
def fnSemLimitWrong : ChangeSpec := { name := "fnSemLimit", fn := fun _ => fun
  | [d] => { results := [.lit (.bool false)], args := [d] }
  | _ => none }
def FnSemLimitWrongFalsely : Prop := fnSemLimitRow.holds Try.pinned (OpenSpec.ofChange fnSemLimitWrong)

/-- 'laws.FnExactTryAcquire': WHATEVER THE INPUT: true; the input reads as it did. -/
def fnExactTryAcquireSpec : ChangeSpec := { name := "fnExactTryAcquire", fn := fun _ => fun
  | [d1, d2] => { results := [.lit (.bool true)], args := [d1, d2] }
  | _ => none }
def fnExactTryAcquireRow : OpenClaim := { program := "yteecnndlaphlpaa", sum := "58201e68b4a0f0d40df67ac57a48a79f9047ca531275477ba717f054c4ba4395", func := "loop.example/waitkit/laws.FnExactTryAcquire", spec := "fnExactTryAcquire", apart := false }
def FnExactTryAcquireSaid : Prop := fnExactTryAcquireRow.holds Try.pinned (OpenSpec.ofChange fnExactTryAcquireSpec)

/-- ITS FALSE NEIGHBOUR: 'it returns false'. Refute it at one input. -/
def fnExactTryAcquireWrong : ChangeSpec := { name := "fnExactTryAcquire", fn := fun _ => fun
  | [d1, d2] => { results := [.lit (.bool false)], args := [d1, d2] }
  | _ => none }
def FnExactTryAcquireWrongFalsely : Prop := fnExactTryAcquireRow.holds Try.pinned (OpenSpec.ofChange fnExactTryAcquireWrong)

/-- 'laws.FnAcquireTwo': WHATEVER THE INPUT: true; the input reads as it did. -/
def fnAcquireTwoSpec : ChangeSpec := { name := "fnAcquireTwo", fn := fun _ => fun
  | [d] => { results := [.lit (.bool true)], args := [d] }
  | _ => none }
def fnAcquireTwoRow : OpenClaim := { program := "yteecnndlaphlpaa", sum := "58201e68b4a0f0d40df67ac57a48a79f9047ca531275477ba717f054c4ba4395", func := "loop.example/waitkit/laws.FnAcquireTwo", spec := "fnAcquireTwo", unfollowed := true, recurses := true, apart := false }
def FnAcquireTwoSaid : Prop := fnAcquireTwoRow.holds Try.pinned (OpenSpec.ofChange fnAcquireTwoSpec)

/-- ITS FALSE NEIGHBOUR: 'it returns false'. Refute it at one input. -/
def fnAcquireTwoWrong : ChangeSpec := { name := "fnAcquireTwo", fn := fun _ => fun
  | [d] => { results := [.lit (.bool false)], args := [d] }
  | _ => none }
def FnAcquireTwoWrongFalsely : Prop := fnAcquireTwoRow.holds Try.pinned (OpenSpec.ofChange fnAcquireTwoWrong)

/-- 'laws.FnTryAcquire': WHATEVER THE INPUT: true; the input reads as it did. -/
def fnTryAcquireSpec : ChangeSpec := { name := "fnTryAcquire", fn := fun _ => fun
  | [d] => { results := [.lit (.bool true)], args := [d] }
  | _ => none }
def fnTryAcquireRow : OpenClaim := { program := "yteecnndlaphlpaa", sum := "58201e68b4a0f0d40df67ac57a48a79f9047ca531275477ba717f054c4ba4395", func := "loop.example/waitkit/laws.FnTryAcquire", spec := "fnTryAcquire", apart := false }
def FnTryAcquireSaid : Prop := fnTryAcquireRow.holds Try.pinned (OpenSpec.ofChange fnTryAcquireSpec)

/-- ITS FALSE NEIGHBOUR: 'it returns false'. Refute it at one input. -/
def fnTryAcquireWrong : ChangeSpec := { name := "fnTryAcquire", fn := fun _ => fun
  | [d] => { results := [.lit (.bool false)], args := [d] }
  | _ => none }
def FnTryAcquireWrongFalsely : Prop := fnTryAcquireRow.holds Try.pinned (OpenSpec.ofChange fnTryAcquireWrong)

/-- 'laws.FnExactAcquire': WHATEVER THE INPUT: true; the input reads as it did. -/
def fnExactAcquireSpec : ChangeSpec := { name := "fnExactAcquire", fn := fun _ => fun
  | [d1, d2, d3] => { results := [.lit (.bool true)], args := [d1, d2, d3] }
  | _ => none }
def fnExactAcquireRow : OpenClaim := { program := "yteecnndlaphlpaa", sum := "58201e68b4a0f0d40df67ac57a48a79f9047ca531275477ba717f054c4ba4395", func := "loop.example/waitkit/laws.FnExactAcquire", spec := "fnExactAcquire", unfollowed := true, recurses := true, apart := false }
def FnExactAcquireSaid : Prop := fnExactAcquireRow.holds Try.pinned (OpenSpec.ofChange fnExactAcquireSpec)

/-- ITS FALSE NEIGHBOUR: 'it returns false'. Refute it at one input. -/
def fnExactAcquireWrong : ChangeSpec := { name := "fnExactAcquire", fn := fun _ => fun
  | [d1, d2, d3] => { results := [.lit (.bool false)], args := [d1, d2, d3] }
  | _ => none }
def FnExactAcquireWrongFalsely : Prop := fnExactAcquireRow.holds Try.pinned (OpenSpec.ofChange fnExactAcquireWrong)

/-- 'laws.FnRelease': WHATEVER THE INPUT: true; the input reads as it did. -/
def fnReleaseSpec : ChangeSpec := { name := "fnRelease", fn := fun _ => fun
  | [d] => { results := [.lit (.bool true)], args := [d] }
  | _ => none }
def fnReleaseRow : OpenClaim := { program := "yteecnndlaphlpaa", sum := "58201e68b4a0f0d40df67ac57a48a79f9047ca531275477ba717f054c4ba4395", func := "loop.example/waitkit/laws.FnRelease", spec := "fnRelease", apart := false }
def FnReleaseSaid : Prop := fnReleaseRow.holds Try.pinned (OpenSpec.ofChange fnReleaseSpec)

/-- ITS FALSE NEIGHBOUR: 'it returns false'. Refute it at one input. -/
def fnReleaseWrong : ChangeSpec := { name := "fnRelease", fn := fun _ => fun
  | [d] => { results := [.lit (.bool false)], args := [d] }
  | _ => none }
def FnReleaseWrongFalsely : Prop := fnReleaseRow.holds Try.pinned (OpenSpec.ofChange fnReleaseWrong)

/-- 'laws.FnReleaseAll': WHATEVER THE INPUT: true; the input reads as it did. -/
def fnReleaseAllSpec : ChangeSpec := { name := "fnReleaseAll", fn := fun _ => fun
  | [d] => { results := [.lit (.bool true)], args := [d] }
  | _ => none }
def fnReleaseAllRow : OpenClaim := { program := "yteecnndlaphlpaa", sum := "58201e68b4a0f0d40df67ac57a48a79f9047ca531275477ba717f054c4ba4395", func := "loop.example/waitkit/laws.FnReleaseAll", spec := "fnReleaseAll", apart := false }
def FnReleaseAllSaid : Prop := fnReleaseAllRow.holds Try.pinned (OpenSpec.ofChange fnReleaseAllSpec)

/-- ITS FALSE NEIGHBOUR: 'it returns false'. Refute it at one input. -/
def fnReleaseAllWrong : ChangeSpec := { name := "fnReleaseAll", fn := fun _ => fun
  | [d] => { results := [.lit (.bool false)], args := [d] }
  | _ => none }
def FnReleaseAllWrongFalsely : Prop := fnReleaseAllRow.holds Try.pinned (OpenSpec.ofChange fnReleaseAllWrong)

/-- 'laws.FnReleaseOne': WHATEVER THE INPUT: true; the input reads as it did. -/
def fnReleaseOneSpec : ChangeSpec := { name := "fnReleaseOne", fn := fun _ => fun
  | [d] => { results := [.lit (.bool true)], args := [d] }
  | _ => none }
def fnReleaseOneRow : OpenClaim := { program := "yteecnndlaphlpaa", sum := "58201e68b4a0f0d40df67ac57a48a79f9047ca531275477ba717f054c4ba4395", func := "loop.example/waitkit/laws.FnReleaseOne", spec := "fnReleaseOne", apart := false }
def FnReleaseOneSaid : Prop := fnReleaseOneRow.holds Try.pinned (OpenSpec.ofChange fnReleaseOneSpec)

/-- ITS FALSE NEIGHBOUR: 'it returns false'. Refute it at one input. -/
def fnReleaseOneWrong : ChangeSpec := { name := "fnReleaseOne", fn := fun _ => fun
  | [d] => { results := [.lit (.bool false)], args := [d] }
  | _ => none }
def FnReleaseOneWrongFalsely : Prop := fnReleaseOneRow.holds Try.pinned (OpenSpec.ofChange fnReleaseOneWrong)

/-- 'laws.FnSemOrder': WHATEVER THE INPUT: true; the input reads as it did. -/
def fnSemOrderSpec : ChangeSpec := { name := "fnSemOrder", fn := fun _ => fun
  | [d] => { results := [.lit (.bool true)], args := [d] }
  | _ => none }
def fnSemOrderRow : OpenClaim := { program := "yteecnndlaphlpaa", sum := "58201e68b4a0f0d40df67ac57a48a79f9047ca531275477ba717f054c4ba4395", func := "loop.example/waitkit/laws.FnSemOrder", spec := "fnSemOrder", unfollowed := true, recurses := true, apart := false }
def FnSemOrderSaid : Prop := fnSemOrderRow.holds Try.pinned (OpenSpec.ofChange fnSemOrderSpec)

/-- ITS FALSE NEIGHBOUR: 'it returns false'. Refute it at one input. -/
def fnSemOrderWrong : ChangeSpec := { name := "fnSemOrder", fn := fun _ => fun
  | [d] => { results := [.lit (.bool false)], args := [d] }
  | _ => none }
def FnSemOrderWrongFalsely : Prop := fnSemOrderRow.holds Try.pinned (OpenSpec.ofChange fnSemOrderWrong)

/-- 'laws.FnTryWait': WHATEVER THE INPUT: true; the input reads as it did. -/
def fnTryWaitSpec : ChangeSpec := { name := "fnTryWait", fn := fun _ => fun
  | [d] => { results := [.lit (.bool true)], args := [d] }
  | _ => none }
def fnTryWaitRow : OpenClaim := { program := "yteecnndlaphlpaa", sum := "58201e68b4a0f0d40df67ac57a48a79f9047ca531275477ba717f054c4ba4395", func := "loop.example/waitkit/laws.FnTryWait", spec := "fnTryWait", unfollowed := true, recurses := true, apart := false }
def FnTryWaitSaid : Prop := fnTryWaitRow.holds Try.pinned (OpenSpec.ofChange fnTryWaitSpec)

/-- ITS FALSE NEIGHBOUR: 'it returns false'. Refute it at one input. -/
def fnTryWaitWrong : ChangeSpec := { name := "fnTryWait", fn := fun _ => fun
  | [d] => { results := [.lit (.bool false)], args := [d] }
  | _ => none }
def FnTryWaitWrongFalsely : Prop := fnTryWaitRow.holds Try.pinned (OpenSpec.ofChange fnTryWaitWrong)

/-- 'laws.FnExactRelease': WHATEVER THE INPUT: true; the input reads as it did. -/
def fnExactReleaseSpec : ChangeSpec := { name := "fnExactRelease", fn := fun _ => fun
  | [d1, d2] => { results := [.lit (.bool true)], args := [d1, d2] }
  | _ => none }
def fnExactReleaseRow : OpenClaim := { program := "yteecnndlaphlpaa", sum := "58201e68b4a0f0d40df67ac57a48a79f9047ca531275477ba717f054c4ba4395", func := "loop.example/waitkit/laws.FnExactRelease", spec := "fnExactRelease", apart := false }
def FnExactReleaseSaid : Prop := fnExactReleaseRow.holds Try.pinned (OpenSpec.ofChange fnExactReleaseSpec)

/-- ITS FALSE NEIGHBOUR: 'it returns false'. Refute it at one input. -/
def fnExactReleaseWrong : ChangeSpec := { name := "fnExactRelease", fn := fun _ => fun
  | [d1, d2] => { results := [.lit (.bool false)], args := [d1, d2] }
  | _ => none }
def FnExactReleaseWrongFalsely : Prop := fnExactReleaseRow.holds Try.pinned (OpenSpec.ofChange fnExactReleaseWrong)

/- THE SECOND FORM. 'bulk': how many values and letters a reading holds, each counted each time it is reached (what is shared counts as often as it is met; a slice's spare places count too). A statement '..UptoSaid' is the law's where the arguments, and the package variables that the reading takes, are together of bulk at most 1048576: NARROWER than '..Said'. Prove '..Said' where nothing that the law and all that it calls make is longer than what came in: it says more and counts as full. Else prove '..UptoSaid'. A law counts once. -/
mutual
def uptoBulk {H : Type} : DataW H → Nat
  | .lit (.string bytes) => bytes.length + 1
  | .lit _ => 1
  | .nil => 1
  | .ptr d => uptoBulk d + 1
  | .slice elems spare => uptoBulkAll elems + uptoBulkAll spare + 1
  | .agg parts => uptoBulkAll parts + 1
  | .iface _ d => uptoBulk d + 1
  | .map entries => uptoBulkEntries entries + 1
  | .held _ => 1
def uptoBulkAll {H : Type} : List (DataW H) → Nat
  | [] => 0
  | d :: r => uptoBulk d + uptoBulkAll r
def uptoBulkEntries {H : Type} : List (Lit × DataW H) → Nat
  | [] => 0
  | x :: r => uptoBulkEntry x + uptoBulkEntries r
def uptoBulkEntry {H : Type} : Lit × DataW H → Nat
  | (.string bytes, d) => bytes.length + uptoBulk d + 1
  | (_, d) => uptoBulk d + 1
 end
def uptoSmall : (H : Type) → List (DataW H) → Bool := fun _ ds => decide (uptoBulkAll ds ≤ 1048576)
def OpenSpec.upto (s : _root_.Go.ChangeSpec) : _root_.Go.OpenSpec := { _root_.Go.OpenSpec.ofChange s with cond := some uptoSmall }

/-- 'laws.FnNewSem', WHERE WHAT IT READS IS OF BULK AT MOST 1048576: true; the input reads as it did. -/
def fnNewSemUptoRow : OpenClaim := { program := "yteecnndlaphlpaa", sum := "58201e68b4a0f0d40df67ac57a48a79f9047ca531275477ba717f054c4ba4395", func := "loop.example/waitkit/laws.FnNewSem", spec := "fnNewSem", unfollowed := true, recurses := true, apart := false, narrowed := true }
def FnNewSemUptoSaid : Prop := fnNewSemUptoRow.holds Try.pinned (OpenSpec.upto fnNewSemSpec)

/-- 'laws.FnSemLimit', WHERE WHAT IT READS IS OF BULK AT MOST 1048576: true; the input reads as it did. -/
def fnSemLimitUptoRow : OpenClaim := { program := "yteecnndlaphlpaa", sum := "58201e68b4a0f0d40df67ac57a48a79f9047ca531275477ba717f054c4ba4395", func := "loop.example/waitkit/laws.FnSemLimit", spec := "fnSemLimit", apart := false, narrowed := true }
def FnSemLimitUptoSaid : Prop := fnSemLimitUptoRow.holds Try.pinned (OpenSpec.upto fnSemLimitSpec)

/-- 'laws.FnExactTryAcquire', WHERE WHAT IT READS IS OF BULK AT MOST 1048576: true; the input reads as it did. -/
def fnExactTryAcquireUptoRow : OpenClaim := { program := "yteecnndlaphlpaa", sum := "58201e68b4a0f0d40df67ac57a48a79f9047ca531275477ba717f054c4ba4395", func := "loop.example/waitkit/laws.FnExactTryAcquire", spec := "fnExactTryAcquire", apart := false, narrowed := true }
def FnExactTryAcquireUptoSaid : Prop := fnExactTryAcquireUptoRow.holds Try.pinned (OpenSpec.upto fnExactTryAcquireSpec)

/-- 'laws.FnAcquireTwo', WHERE WHAT IT READS IS OF BULK AT MOST 1048576: true; the input reads as it did. -/
def fnAcquireTwoUptoRow : OpenClaim := { program := "yteecnndlaphlpaa", sum := "58201e68b4a0f0d40df67ac57a48a79f9047ca531275477ba717f054c4ba4395", func := "loop.example/waitkit/laws.FnAcquireTwo", spec := "fnAcquireTwo", unfollowed := true, recurses := true, apart := false, narrowed := true }
def FnAcquireTwoUptoSaid : Prop := fnAcquireTwoUptoRow.holds Try.pinned (OpenSpec.upto fnAcquireTwoSpec)

/-- 'laws.FnTryAcquire', WHERE WHAT IT READS IS OF BULK AT MOST 1048576: true; the input reads as it did. -/
def fnTryAcquireUptoRow : OpenClaim := { program := "yteecnndlaphlpaa", sum := "58201e68b4a0f0d40df67ac57a48a79f9047ca531275477ba717f054c4ba4395", func := "loop.example/waitkit/laws.FnTryAcquire", spec := "fnTryAcquire", apart := false, narrowed := true }
def FnTryAcquireUptoSaid : Prop := fnTryAcquireUptoRow.holds Try.pinned (OpenSpec.upto fnTryAcquireSpec)

/-- 'laws.FnExactAcquire', WHERE WHAT IT READS IS OF BULK AT MOST 1048576: true; the input reads as it did. -/
def fnExactAcquireUptoRow : OpenClaim := { program := "yteecnndlaphlpaa", sum := "58201e68b4a0f0d40df67ac57a48a79f9047ca531275477ba717f054c4ba4395", func := "loop.example/waitkit/laws.FnExactAcquire", spec := "fnExactAcquire", unfollowed := true, recurses := true, apart := false, narrowed := true }
def FnExactAcquireUptoSaid : Prop := fnExactAcquireUptoRow.holds Try.pinned (OpenSpec.upto fnExactAcquireSpec)

/-- 'laws.FnRelease', WHERE WHAT IT READS IS OF BULK AT MOST 1048576: true; the input reads as it did. -/
def fnReleaseUptoRow : OpenClaim := { program := "yteecnndlaphlpaa", sum := "58201e68b4a0f0d40df67ac57a48a79f9047ca531275477ba717f054c4ba4395", func := "loop.example/waitkit/laws.FnRelease", spec := "fnRelease", apart := false, narrowed := true }
def FnReleaseUptoSaid : Prop := fnReleaseUptoRow.holds Try.pinned (OpenSpec.upto fnReleaseSpec)

/-- 'laws.FnReleaseAll', WHERE WHAT IT READS IS OF BULK AT MOST 1048576: true; the input reads as it did. -/
def fnReleaseAllUptoRow : OpenClaim := { program := "yteecnndlaphlpaa", sum := "58201e68b4a0f0d40df67ac57a48a79f9047ca531275477ba717f054c4ba4395", func := "loop.example/waitkit/laws.FnReleaseAll", spec := "fnReleaseAll", apart := false, narrowed := true }
def FnReleaseAllUptoSaid : Prop := fnReleaseAllUptoRow.holds Try.pinned (OpenSpec.upto fnReleaseAllSpec)

/-- 'laws.FnReleaseOne', WHERE WHAT IT READS IS OF BULK AT MOST 1048576: true; the input reads as it did. -/
def fnReleaseOneUptoRow : OpenClaim := { program := "yteecnndlaphlpaa", sum := "58201e68b4a0f0d40df67ac57a48a79f9047ca531275477ba717f054c4ba4395", func := "loop.example/waitkit/laws.FnReleaseOne", spec := "fnReleaseOne", apart := false, narrowed := true }
def FnReleaseOneUptoSaid : Prop := fnReleaseOneUptoRow.holds Try.pinned (OpenSpec.upto fnReleaseOneSpec)

/-- 'laws.FnSemOrder', WHERE WHAT IT READS IS OF BULK AT MOST 1048576: true; the input reads as it did. -/
def fnSemOrderUptoRow : OpenClaim := { program := "yteecnndlaphlpaa", sum := "58201e68b4a0f0d40df67ac57a48a79f9047ca531275477ba717f054c4ba4395", func := "loop.example/waitkit/laws.FnSemOrder", spec := "fnSemOrder", unfollowed := true, recurses := true, apart := false, narrowed := true }
def FnSemOrderUptoSaid : Prop := fnSemOrderUptoRow.holds Try.pinned (OpenSpec.upto fnSemOrderSpec)

/-- 'laws.FnTryWait', WHERE WHAT IT READS IS OF BULK AT MOST 1048576: true; the input reads as it did. -/
def fnTryWaitUptoRow : OpenClaim := { program := "yteecnndlaphlpaa", sum := "58201e68b4a0f0d40df67ac57a48a79f9047ca531275477ba717f054c4ba4395", func := "loop.example/waitkit/laws.FnTryWait", spec := "fnTryWait", unfollowed := true, recurses := true, apart := false, narrowed := true }
def FnTryWaitUptoSaid : Prop := fnTryWaitUptoRow.holds Try.pinned (OpenSpec.upto fnTryWaitSpec)

/-- 'laws.FnExactRelease', WHERE WHAT IT READS IS OF BULK AT MOST 1048576: true; the input reads as it did. -/
def fnExactReleaseUptoRow : OpenClaim := { program := "yteecnndlaphlpaa", sum := "58201e68b4a0f0d40df67ac57a48a79f9047ca531275477ba717f054c4ba4395", func := "loop.example/waitkit/laws.FnExactRelease", spec := "fnExactRelease", apart := false, narrowed := true }
def FnExactReleaseUptoSaid : Prop := fnExactReleaseUptoRow.holds Try.pinned (OpenSpec.upto fnExactReleaseSpec)

end Rows
end Go.Proofs.Yteecnndlaphlpaa
