/-
  No cell of these rows narrows 'for every input' (looked for: loops, veiled, ifaces, maps, wideKeys, modest, calm, conditions, laid).
  DERIVED. THE GIVEN ROWS OF THIS SEAT. 11 by the template 'for every input the law returns true; each argument reads behind the call as it read before'; 0 by the template 'total and deterministic' (their statements: YtpgiinklbnlloaaTotals.lean).
  GIVEN WITH THE SEED: the statements are not yours to turn. If you find one false, say at which input.
  Laid BY PROGRAM, IN A SANDBOX (cutbox-rows.mjs): the forced cells as the released guide's own fill.sh prints them over the translation 3744d27e06cef82b… (all of the seat's roots in one cut). By AI agents, Wed Nov 11 2026. No macro, syntax, notation, axiom, sorry.
-/
import Derived.Test.YtpgiinklbnlloaaChecked
import GoSem.Claim
import GoSem.ClaimJoined
import GoSem.ClaimMapViews
import Derived.JoinedTies
import Derived.KernelRfl
namespace Go.Proofs.Ytpgiinklbnlloaa
/- THE CELL 'sum', in the pinned program and in every row, IS THE sha256 OF THE DUMP (.gsa) THAT YtpgiinklbnlloaaProg.lean LOADS. Nothing in Lean hashes anything: it is a label: what it is worth is what the hold of that sum in a sandbox is worth. -/
noncomputable def Try.pinned : Pinned := { name := "ytpgiinklbnlloaa", sum := "3744d27e06cef82bf58a4b0d24d5fe840476b89ebada3e8b4041fa7000343ae9", checked := Try.checked }
namespace Rows
def none {H : Type} : Left H := { results := [], args := [] }

/-- 'laws.FnExactNewChan': WHATEVER THE INPUT: true; the input reads as it did. -/
def fnExactNewChanSpec : ChangeSpec := { name := "fnExactNewChan", fn := fun _ => fun
  | [d] => { results := [.lit (.bool true)], args := [d] }
  | _ => none }
def fnExactNewChanRow : OpenClaim := { program := "ytpgiinklbnlloaa", sum := "3744d27e06cef82bf58a4b0d24d5fe840476b89ebada3e8b4041fa7000343ae9", func := "loop.example/waitkit/laws.FnExactNewChan", spec := "fnExactNewChan", apart := false }
def FnExactNewChanSaid : Prop := fnExactNewChanRow.holds Try.pinned (OpenSpec.ofChange fnExactNewChanSpec)

/-- ITS FALSE NEIGHBOUR: 'it returns false'. Refute it at one input. -/
def fnExactNewChanWrong : ChangeSpec := { name := "fnExactNewChan", fn := fun _ => fun
  | [d] => { results := [.lit (.bool false)], args := [d] }
  | _ => none }
def FnExactNewChanWrongFalsely : Prop := fnExactNewChanRow.holds Try.pinned (OpenSpec.ofChange fnExactNewChanWrong)

/-- 'laws.FnNewChan': WHATEVER THE INPUT: true; the input reads as it did. -/
def fnNewChanSpec : ChangeSpec := { name := "fnNewChan", fn := fun _ => fun
  | [d] => { results := [.lit (.bool true)], args := [d] }
  | _ => none }
def fnNewChanRow : OpenClaim := { program := "ytpgiinklbnlloaa", sum := "3744d27e06cef82bf58a4b0d24d5fe840476b89ebada3e8b4041fa7000343ae9", func := "loop.example/waitkit/laws.FnNewChan", spec := "fnNewChan", apart := false }
def FnNewChanSaid : Prop := fnNewChanRow.holds Try.pinned (OpenSpec.ofChange fnNewChanSpec)

/-- ITS FALSE NEIGHBOUR: 'it returns false'. Refute it at one input. -/
def fnNewChanWrong : ChangeSpec := { name := "fnNewChan", fn := fun _ => fun
  | [d] => { results := [.lit (.bool false)], args := [d] }
  | _ => none }
def FnNewChanWrongFalsely : Prop := fnNewChanRow.holds Try.pinned (OpenSpec.ofChange fnNewChanWrong)

/-- 'laws.FnExactChanSame': WHATEVER THE INPUT: true; the input reads as it did. -/
def fnExactChanSameSpec : ChangeSpec := { name := "fnExactChanSame", fn := fun _ => fun
  | [d1, d2] => { results := [.lit (.bool true)], args := [d1, d2] }
  | _ => none }
def fnExactChanSameRow : OpenClaim := { program := "ytpgiinklbnlloaa", sum := "3744d27e06cef82bf58a4b0d24d5fe840476b89ebada3e8b4041fa7000343ae9", func := "loop.example/waitkit/laws.FnExactChanSame", spec := "fnExactChanSame", apart := false }
def FnExactChanSameSaid : Prop := fnExactChanSameRow.holds Try.pinned (OpenSpec.ofChange fnExactChanSameSpec)

/-- ITS FALSE NEIGHBOUR: 'it returns false'. Refute it at one input. -/
def fnExactChanSameWrong : ChangeSpec := { name := "fnExactChanSame", fn := fun _ => fun
  | [d1, d2] => { results := [.lit (.bool false)], args := [d1, d2] }
  | _ => none }
def FnExactChanSameWrongFalsely : Prop := fnExactChanSameRow.holds Try.pinned (OpenSpec.ofChange fnExactChanSameWrong)

/-- 'laws.FnExactChanValid': WHATEVER THE INPUT: true; the input reads as it did. -/
def fnExactChanValidSpec : ChangeSpec := { name := "fnExactChanValid", fn := fun _ => fun
  | [d] => { results := [.lit (.bool true)], args := [d] }
  | _ => none }
def fnExactChanValidRow : OpenClaim := { program := "ytpgiinklbnlloaa", sum := "3744d27e06cef82bf58a4b0d24d5fe840476b89ebada3e8b4041fa7000343ae9", func := "loop.example/waitkit/laws.FnExactChanValid", spec := "fnExactChanValid", apart := false }
def FnExactChanValidSaid : Prop := fnExactChanValidRow.holds Try.pinned (OpenSpec.ofChange fnExactChanValidSpec)

/-- ITS FALSE NEIGHBOUR: 'it returns false'. Refute it at one input. -/
def fnExactChanValidWrong : ChangeSpec := { name := "fnExactChanValid", fn := fun _ => fun
  | [d] => { results := [.lit (.bool false)], args := [d] }
  | _ => none }
def FnExactChanValidWrongFalsely : Prop := fnExactChanValidRow.holds Try.pinned (OpenSpec.ofChange fnExactChanValidWrong)

/-- 'laws.FnChanSides': WHATEVER THE INPUT: true; the input reads as it did. -/
def fnChanSidesSpec : ChangeSpec := { name := "fnChanSides", fn := fun _ => fun
  | [d] => { results := [.lit (.bool true)], args := [d] }
  | _ => none }
def fnChanSidesRow : OpenClaim := { program := "ytpgiinklbnlloaa", sum := "3744d27e06cef82bf58a4b0d24d5fe840476b89ebada3e8b4041fa7000343ae9", func := "loop.example/waitkit/laws.FnChanSides", spec := "fnChanSides", apart := false }
def FnChanSidesSaid : Prop := fnChanSidesRow.holds Try.pinned (OpenSpec.ofChange fnChanSidesSpec)

/-- ITS FALSE NEIGHBOUR: 'it returns false'. Refute it at one input. -/
def fnChanSidesWrong : ChangeSpec := { name := "fnChanSides", fn := fun _ => fun
  | [d] => { results := [.lit (.bool false)], args := [d] }
  | _ => none }
def FnChanSidesWrongFalsely : Prop := fnChanSidesRow.holds Try.pinned (OpenSpec.ofChange fnChanSidesWrong)

/-- 'laws.FnExactPendingOf': WHATEVER THE INPUT: true; the input reads as it did. -/
def fnExactPendingOfSpec : ChangeSpec := { name := "fnExactPendingOf", fn := fun _ => fun
  | [d] => { results := [.lit (.bool true)], args := [d] }
  | _ => none }
def fnExactPendingOfRow : OpenClaim := { program := "ytpgiinklbnlloaa", sum := "3744d27e06cef82bf58a4b0d24d5fe840476b89ebada3e8b4041fa7000343ae9", func := "loop.example/waitkit/laws.FnExactPendingOf", spec := "fnExactPendingOf", apart := false }
def FnExactPendingOfSaid : Prop := fnExactPendingOfRow.holds Try.pinned (OpenSpec.ofChange fnExactPendingOfSpec)

/-- ITS FALSE NEIGHBOUR: 'it returns false'. Refute it at one input. -/
def fnExactPendingOfWrong : ChangeSpec := { name := "fnExactPendingOf", fn := fun _ => fun
  | [d] => { results := [.lit (.bool false)], args := [d] }
  | _ => none }
def FnExactPendingOfWrongFalsely : Prop := fnExactPendingOfRow.holds Try.pinned (OpenSpec.ofChange fnExactPendingOfWrong)

/-- 'laws.FnChanSame': WHATEVER THE INPUT: true; the input reads as it did. -/
def fnChanSameSpec : ChangeSpec := { name := "fnChanSame", fn := fun _ => fun
  | [d] => { results := [.lit (.bool true)], args := [d] }
  | _ => none }
def fnChanSameRow : OpenClaim := { program := "ytpgiinklbnlloaa", sum := "3744d27e06cef82bf58a4b0d24d5fe840476b89ebada3e8b4041fa7000343ae9", func := "loop.example/waitkit/laws.FnChanSame", spec := "fnChanSame", apart := false }
def FnChanSameSaid : Prop := fnChanSameRow.holds Try.pinned (OpenSpec.ofChange fnChanSameSpec)

/-- ITS FALSE NEIGHBOUR: 'it returns false'. Refute it at one input. -/
def fnChanSameWrong : ChangeSpec := { name := "fnChanSame", fn := fun _ => fun
  | [d] => { results := [.lit (.bool false)], args := [d] }
  | _ => none }
def FnChanSameWrongFalsely : Prop := fnChanSameRow.holds Try.pinned (OpenSpec.ofChange fnChanSameWrong)

/-- 'laws.FnRoomless': WHATEVER THE INPUT: true; the input reads as it did. -/
def fnRoomlessSpec : ChangeSpec := { name := "fnRoomless", fn := fun _ => fun
  | [d] => { results := [.lit (.bool true)], args := [d] }
  | _ => none }
def fnRoomlessRow : OpenClaim := { program := "ytpgiinklbnlloaa", sum := "3744d27e06cef82bf58a4b0d24d5fe840476b89ebada3e8b4041fa7000343ae9", func := "loop.example/waitkit/laws.FnRoomless", spec := "fnRoomless", apart := false }
def FnRoomlessSaid : Prop := fnRoomlessRow.holds Try.pinned (OpenSpec.ofChange fnRoomlessSpec)

/-- ITS FALSE NEIGHBOUR: 'it returns false'. Refute it at one input. -/
def fnRoomlessWrong : ChangeSpec := { name := "fnRoomless", fn := fun _ => fun
  | [d] => { results := [.lit (.bool false)], args := [d] }
  | _ => none }
def FnRoomlessWrongFalsely : Prop := fnRoomlessRow.holds Try.pinned (OpenSpec.ofChange fnRoomlessWrong)

/-- 'laws.FnGetWake': WHATEVER THE INPUT: true; the input reads as it did. -/
def fnGetWakeSpec : ChangeSpec := { name := "fnGetWake", fn := fun _ => fun
  | [d] => { results := [.lit (.bool true)], args := [d] }
  | _ => none }
def fnGetWakeRow : OpenClaim := { program := "ytpgiinklbnlloaa", sum := "3744d27e06cef82bf58a4b0d24d5fe840476b89ebada3e8b4041fa7000343ae9", func := "loop.example/waitkit/laws.FnGetWake", spec := "fnGetWake", apart := false }
def FnGetWakeSaid : Prop := fnGetWakeRow.holds Try.pinned (OpenSpec.ofChange fnGetWakeSpec)

/-- ITS FALSE NEIGHBOUR: 'it returns false'. Refute it at one input. -/
def fnGetWakeWrong : ChangeSpec := { name := "fnGetWake", fn := fun _ => fun
  | [d] => { results := [.lit (.bool false)], args := [d] }
  | _ => none }
def FnGetWakeWrongFalsely : Prop := fnGetWakeRow.holds Try.pinned (OpenSpec.ofChange fnGetWakeWrong)

/-- 'laws.FnExactCloseChan': WHATEVER THE INPUT: true; the input reads as it did. -/
def fnExactCloseChanSpec : ChangeSpec := { name := "fnExactCloseChan", fn := fun _ => fun
  | [d] => { results := [.lit (.bool true)], args := [d] }
  | _ => none }
def fnExactCloseChanRow : OpenClaim := { program := "ytpgiinklbnlloaa", sum := "3744d27e06cef82bf58a4b0d24d5fe840476b89ebada3e8b4041fa7000343ae9", func := "loop.example/waitkit/laws.FnExactCloseChan", spec := "fnExactCloseChan", apart := false }
def FnExactCloseChanSaid : Prop := fnExactCloseChanRow.holds Try.pinned (OpenSpec.ofChange fnExactCloseChanSpec)

/-- ITS FALSE NEIGHBOUR: 'it returns false'. Refute it at one input. -/
def fnExactCloseChanWrong : ChangeSpec := { name := "fnExactCloseChan", fn := fun _ => fun
  | [d] => { results := [.lit (.bool false)], args := [d] }
  | _ => none }
def FnExactCloseChanWrongFalsely : Prop := fnExactCloseChanRow.holds Try.pinned (OpenSpec.ofChange fnExactCloseChanWrong)

/-- 'laws.FnSendChan': WHATEVER THE INPUT: true; the input reads as it did. -/
def fnSendChanSpec : ChangeSpec := { name := "fnSendChan", fn := fun _ => fun
  | [d] => { results := [.lit (.bool true)], args := [d] }
  | _ => none }
def fnSendChanRow : OpenClaim := { program := "ytpgiinklbnlloaa", sum := "3744d27e06cef82bf58a4b0d24d5fe840476b89ebada3e8b4041fa7000343ae9", func := "loop.example/waitkit/laws.FnSendChan", spec := "fnSendChan", apart := false }
def FnSendChanSaid : Prop := fnSendChanRow.holds Try.pinned (OpenSpec.ofChange fnSendChanSpec)

/-- ITS FALSE NEIGHBOUR: 'it returns false'. Refute it at one input. -/
def fnSendChanWrong : ChangeSpec := { name := "fnSendChan", fn := fun _ => fun
  | [d] => { results := [.lit (.bool false)], args := [d] }
  | _ => none }
def FnSendChanWrongFalsely : Prop := fnSendChanRow.holds Try.pinned (OpenSpec.ofChange fnSendChanWrong)

/- THE SECOND FORM. 'bulk': how many values and letters a reading holds, each counted each time it is reached (what is shared counts as often as it is met; a slice's spare places count too). A statement '..UptoSaid' is the law's where the arguments, and the package variables that the reading takes, are together of bulk at most 1048576: NARROWER than '..Said'. Prove '..Said' where nothing that the law and all that it calls make is longer than what came in: it says more and counts as full. Else prove '..UptoSaid'. A law counts once. -/
mutual
def uptoBulk {H : Type} : DataW H → Nat
  | .lit (.string bytes) => bytes.length + 1
  | .lit _ => 1
  | .nil => 1
  | .ptr d => uptoBulk d + 1
  | .slice elems spare => uptoBulkAll elems + uptoBulkAll spare + 1
  | .agg parts => uptoBulkAll parts + 1
  | .iface _ d => uptoBulk d + 1
  | .map entries => uptoBulkEntries entries + 1
  | .held _ => 1
def uptoBulkAll {H : Type} : List (DataW H) → Nat
  | [] => 0
  | d :: r => uptoBulk d + uptoBulkAll r
def uptoBulkEntries {H : Type} : List (Lit × DataW H) → Nat
  | [] => 0
  | x :: r => uptoBulkEntry x + uptoBulkEntries r
def uptoBulkEntry {H : Type} : Lit × DataW H → Nat
  | (.string bytes, d) => bytes.length + uptoBulk d + 1
  | (_, d) => uptoBulk d + 1
 end
def uptoSmall : (H : Type) → List (DataW H) → Bool := fun _ ds => decide (uptoBulkAll ds ≤ 1048576)
def OpenSpec.upto (s : _root_.Go.ChangeSpec) : _root_.Go.OpenSpec := { _root_.Go.OpenSpec.ofChange s with cond := some uptoSmall }

/-- 'laws.FnExactNewChan', WHERE WHAT IT READS IS OF BULK AT MOST 1048576: true; the input reads as it did. -/
def fnExactNewChanUptoRow : OpenClaim := { program := "ytpgiinklbnlloaa", sum := "3744d27e06cef82bf58a4b0d24d5fe840476b89ebada3e8b4041fa7000343ae9", func := "loop.example/waitkit/laws.FnExactNewChan", spec := "fnExactNewChan", apart := false, narrowed := true }
def FnExactNewChanUptoSaid : Prop := fnExactNewChanUptoRow.holds Try.pinned (OpenSpec.upto fnExactNewChanSpec)

/-- 'laws.FnNewChan', WHERE WHAT IT READS IS OF BULK AT MOST 1048576: true; the input reads as it did. -/
def fnNewChanUptoRow : OpenClaim := { program := "ytpgiinklbnlloaa", sum := "3744d27e06cef82bf58a4b0d24d5fe840476b89ebada3e8b4041fa7000343ae9", func := "loop.example/waitkit/laws.FnNewChan", spec := "fnNewChan", apart := false, narrowed := true }
def FnNewChanUptoSaid : Prop := fnNewChanUptoRow.holds Try.pinned (OpenSpec.upto fnNewChanSpec)

/-- 'laws.FnExactChanSame', WHERE WHAT IT READS IS OF BULK AT MOST 1048576: true; the input reads as it did. -/
def fnExactChanSameUptoRow : OpenClaim := { program := "ytpgiinklbnlloaa", sum := "3744d27e06cef82bf58a4b0d24d5fe840476b89ebada3e8b4041fa7000343ae9", func := "loop.example/waitkit/laws.FnExactChanSame", spec := "fnExactChanSame", apart := false, narrowed := true }
def FnExactChanSameUptoSaid : Prop := fnExactChanSameUptoRow.holds Try.pinned (OpenSpec.upto fnExactChanSameSpec)

/-- 'laws.FnExactChanValid', WHERE WHAT IT READS IS OF BULK AT MOST 1048576: true; the input reads as it did. -/
def fnExactChanValidUptoRow : OpenClaim := { program := "ytpgiinklbnlloaa", sum := "3744d27e06cef82bf58a4b0d24d5fe840476b89ebada3e8b4041fa7000343ae9", func := "loop.example/waitkit/laws.FnExactChanValid", spec := "fnExactChanValid", apart := false, narrowed := true }
def FnExactChanValidUptoSaid : Prop := fnExactChanValidUptoRow.holds Try.pinned (OpenSpec.upto fnExactChanValidSpec)

/-- 'laws.FnChanSides', WHERE WHAT IT READS IS OF BULK AT MOST 1048576: true; the input reads as it did. -/
def fnChanSidesUptoRow : OpenClaim := { program := "ytpgiinklbnlloaa", sum := "3744d27e06cef82bf58a4b0d24d5fe840476b89ebada3e8b4041fa7000343ae9", func := "loop.example/waitkit/laws.FnChanSides", spec := "fnChanSides", apart := false, narrowed := true }
def FnChanSidesUptoSaid : Prop := fnChanSidesUptoRow.holds Try.pinned (OpenSpec.upto fnChanSidesSpec)

/-- 'laws.FnExactPendingOf', WHERE WHAT IT READS IS OF BULK AT MOST 1048576: true; the input reads as it did. -/
def fnExactPendingOfUptoRow : OpenClaim := { program := "ytpgiinklbnlloaa", sum := "3744d27e06cef82bf58a4b0d24d5fe840476b89ebada3e8b4041fa7000343ae9", func := "loop.example/waitkit/laws.FnExactPendingOf", spec := "fnExactPendingOf", apart := false, narrowed := true }
def FnExactPendingOfUptoSaid : Prop := fnExactPendingOfUptoRow.holds Try.pinned (OpenSpec.upto fnExactPendingOfSpec)

/-- 'laws.FnChanSame', WHERE WHAT IT READS IS OF BULK AT MOST 1048576: true; the input reads as it did. -/
def fnChanSameUptoRow : OpenClaim := { program := "ytpgiinklbnlloaa", sum := "3744d27e06cef82bf58a4b0d24d5fe840476b89ebada3e8b4041fa7000343ae9", func := "loop.example/waitkit/laws.FnChanSame", spec := "fnChanSame", apart := false, narrowed := true }
def FnChanSameUptoSaid : Prop := fnChanSameUptoRow.holds Try.pinned (OpenSpec.upto fnChanSameSpec)

/-- 'laws.FnRoomless', WHERE WHAT IT READS IS OF BULK AT MOST 1048576: true; the input reads as it did. -/
def fnRoomlessUptoRow : OpenClaim := { program := "ytpgiinklbnlloaa", sum := "3744d27e06cef82bf58a4b0d24d5fe840476b89ebada3e8b4041fa7000343ae9", func := "loop.example/waitkit/laws.FnRoomless", spec := "fnRoomless", apart := false, narrowed := true }
def FnRoomlessUptoSaid : Prop := fnRoomlessUptoRow.holds Try.pinned (OpenSpec.upto fnRoomlessSpec)

/-- 'laws.FnGetWake', WHERE WHAT IT READS IS OF BULK AT MOST 1048576: true; the input reads as it did. -/
def fnGetWakeUptoRow : OpenClaim := { program := "ytpgiinklbnlloaa", sum := "3744d27e06cef82bf58a4b0d24d5fe840476b89ebada3e8b4041fa7000343ae9", func := "loop.example/waitkit/laws.FnGetWake", spec := "fnGetWake", apart := false, narrowed := true }
def FnGetWakeUptoSaid : Prop := fnGetWakeUptoRow.holds Try.pinned (OpenSpec.upto fnGetWakeSpec)

/-- 'laws.FnExactCloseChan', WHERE WHAT IT READS IS OF BULK AT MOST 1048576: true; the input reads as it did. -/
def fnExactCloseChanUptoRow : OpenClaim := { program := "ytpgiinklbnlloaa", sum := "3744d27e06cef82bf58a4b0d24d5fe840476b89ebada3e8b4041fa7000343ae9", func := "loop.example/waitkit/laws.FnExactCloseChan", spec := "fnExactCloseChan", apart := false, narrowed := true }
def FnExactCloseChanUptoSaid : Prop := fnExactCloseChanUptoRow.holds Try.pinned (OpenSpec.upto fnExactCloseChanSpec)

/-- 'laws.FnSendChan', WHERE WHAT IT READS IS OF BULK AT MOST 1048576: true; the input reads as it did. -/
def fnSendChanUptoRow : OpenClaim := { program := "ytpgiinklbnlloaa", sum := "3744d27e06cef82bf58a4b0d24d5fe840476b89ebada3e8b4041fa7000343ae9", func := "loop.example/waitkit/laws.FnSendChan", spec := "fnSendChan", apart := false, narrowed := true }
def FnSendChanUptoSaid : Prop := fnSendChanUptoRow.holds Try.pinned (OpenSpec.upto fnSendChanSpec)

end Rows
end Go.Proofs.Ytpgiinklbnlloaa
