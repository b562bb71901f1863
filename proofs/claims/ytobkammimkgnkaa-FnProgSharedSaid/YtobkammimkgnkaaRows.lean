/-
  No cell of these rows narrows 'for every input' (looked for: loops, veiled, ifaces, maps, wideKeys, modest, calm, conditions, laid).
  DERIVED. THE GIVEN ROWS OF THIS SEAT. 9 by the template 'for every input the law returns true; each argument reads behind the call as it read before'; 0 by the template 'total and deterministic' (their statements: YtobkammimkgnkaaTotals.lean).
  GIVEN WITH THE SEED: the statements are not yours to turn. If you find one false, say at which input.
  Laid BY PROGRAM, IN A SANDBOX (cutbox-rows.mjs): the forced cells as the released guide's own fill.sh prints them over the translation 00c9ca9d1f5884fa… (all of the seat's roots in one cut). By AI agents, Wed Nov 11 2026. No macro, syntax, notation, axiom, sorry.
-/
import Derived.Test.YtobkammimkgnkaaChecked
import GoSem.Claim
import GoSem.ClaimJoined
import GoSem.ClaimMapViews
import Derived.JoinedTies
import Derived.KernelRfl
namespace Go.Proofs.Ytobkammimkgnkaa
/- THE CELL 'sum', in the pinned program and in every row, IS THE sha256 OF THE DUMP (.gsa) THAT YtobkammimkgnkaaProg.lean LOADS. Nothing in Lean hashes anything: it is a label: what it is worth is what the hold of that sum in a sandbox is worth. -/
noncomputable def Try.pinned : Pinned := { name := "ytobkammimkgnkaa", sum := "00c9ca9d1f5884fa3e743e57d451b893d19fec1a4257d3bf87a3e639ed4f6f7c", checked := Try.checked }
namespace Rows
def none {H : Type} : Left H := { results := [], args := [] }

/-- 'laws.FnExactProgSame': WHATEVER THE INPUT: true; the input reads as it did. -/
def fnExactProgSameSpec : ChangeSpec := { name := "fnExactProgSame", fn := fun _ => fun
  | [d1, d2] => { results := [.lit (.bool true)], args := [d1, d2] }
  | _ => none }
def fnExactProgSameRow : OpenClaim := { program := "ytobkammimkgnkaa", sum := "00c9ca9d1f5884fa3e743e57d451b893d19fec1a4257d3bf87a3e639ed4f6f7c", func := "loop.example/waitkit/laws.FnExactProgSame", spec := "fnExactProgSame", unfollowed := true, recurses := true, apart := false }
def FnExactProgSameSaid : Prop := fnExactProgSameRow.holds Try.pinned (OpenSpec.ofChange fnExactProgSameSpec)

/-- ITS FALSE NEIGHBOUR: 'it returns false'. Refute it at one input. -/
def fnExactProgSameWrong : ChangeSpec := { name := "fnExactProgSame", fn := fun _ => fun
  | [d1, d2] => { results := [.lit (.bool false)], args := [d1, d2] }
  | _ => none }
def FnExactProgSameWrongFalsely : Prop := fnExactProgSameRow.holds Try.pinned (OpenSpec.ofChange fnExactProgSameWrong)

/-- 'laws.FnExactOpValid': WHATEVER THE INPUT: true; the input reads as it did. -/
def fnExactOpValidSpec : ChangeSpec := { name := "fnExactOpValid", fn := fun _ => fun
  | [d1, d2] => { results := [.lit (.bool true)], args := [d1, d2] }
  | _ => none }
def fnExactOpValidRow : OpenClaim := { program := "ytobkammimkgnkaa", sum := "00c9ca9d1f5884fa3e743e57d451b893d19fec1a4257d3bf87a3e639ed4f6f7c", func := "loop.example/waitkit/laws.FnExactOpValid", spec := "fnExactOpValid", unfollowed := true, recurses := true, apart := false }
def FnExactOpValidSaid : Prop := fnExactOpValidRow.holds Try.pinned (OpenSpec.ofChange fnExactOpValidSpec)

/-- ITS FALSE NEIGHBOUR: 'it returns false'. Refute it at one input. -/
def fnExactOpValidWrong : ChangeSpec := { name := "fnExactOpValid", fn := fun _ => fun
  | [d1, d2] => { results := [.lit (.bool false)], args := [d1, d2] }
  | _ => none }
def FnExactOpValidWrongFalsely : Prop := fnExactOpValidRow.holds Try.pinned (OpenSpec.ofChange fnExactOpValidWrong)

/-- 'laws.FnExactProgValid': WHATEVER THE INPUT: true; the input reads as it did. -/
def fnExactProgValidSpec : ChangeSpec := { name := "fnExactProgValid", fn := fun _ => fun
  | [d] => { results := [.lit (.bool true)], args := [d] }
  | _ => none }
def fnExactProgValidRow : OpenClaim := { program := "ytobkammimkgnkaa", sum := "00c9ca9d1f5884fa3e743e57d451b893d19fec1a4257d3bf87a3e639ed4f6f7c", func := "loop.example/waitkit/laws.FnExactProgValid", spec := "fnExactProgValid", unfollowed := true, recurses := true, apart := false }
def FnExactProgValidSaid : Prop := fnExactProgValidRow.holds Try.pinned (OpenSpec.ofChange fnExactProgValidSpec)

/-- ITS FALSE NEIGHBOUR: 'it returns false'. Refute it at one input. -/
def fnExactProgValidWrong : ChangeSpec := { name := "fnExactProgValid", fn := fun _ => fun
  | [d] => { results := [.lit (.bool false)], args := [d] }
  | _ => none }
def FnExactProgValidWrongFalsely : Prop := fnExactProgValidRow.holds Try.pinned (OpenSpec.ofChange fnExactProgValidWrong)

/-- 'laws.FnExactSizeOf': WHATEVER THE INPUT: true; the input reads as it did. -/
def fnExactSizeOfSpec : ChangeSpec := { name := "fnExactSizeOf", fn := fun _ => fun
  | [d] => { results := [.lit (.bool true)], args := [d] }
  | _ => none }
def fnExactSizeOfRow : OpenClaim := { program := "ytobkammimkgnkaa", sum := "00c9ca9d1f5884fa3e743e57d451b893d19fec1a4257d3bf87a3e639ed4f6f7c", func := "loop.example/waitkit/laws.FnExactSizeOf", spec := "fnExactSizeOf", unfollowed := true, recurses := true, apart := false }
def FnExactSizeOfSaid : Prop := fnExactSizeOfRow.holds Try.pinned (OpenSpec.ofChange fnExactSizeOfSpec)

/-- ITS FALSE NEIGHBOUR: 'it returns false'. Refute it at one input. -/
def fnExactSizeOfWrong : ChangeSpec := { name := "fnExactSizeOf", fn := fun _ => fun
  | [d] => { results := [.lit (.bool false)], args := [d] }
  | _ => none }
def FnExactSizeOfWrongFalsely : Prop := fnExactSizeOfRow.holds Try.pinned (OpenSpec.ofChange fnExactSizeOfWrong)

/-- 'laws.FnOpShared': WHATEVER THE INPUT: true; the input reads as it did. -/
def fnOpSharedSpec : ChangeSpec := { name := "fnOpShared", fn := fun _ => fun
  | [d] => { results := [.lit (.bool true)], args := [d] }
  | _ => none }
def fnOpSharedRow : OpenClaim := { program := "ytobkammimkgnkaa", sum := "00c9ca9d1f5884fa3e743e57d451b893d19fec1a4257d3bf87a3e639ed4f6f7c", func := "loop.example/waitkit/laws.FnOpShared", spec := "fnOpShared", unfollowed := true, recurses := true, apart := false }
def FnOpSharedSaid : Prop := fnOpSharedRow.holds Try.pinned (OpenSpec.ofChange fnOpSharedSpec)

/-- ITS FALSE NEIGHBOUR: 'it returns false'. Refute it at one input. -/
def fnOpSharedWrong : ChangeSpec := { name := "fnOpShared", fn := fun _ => fun
  | [d] => { results := [.lit (.bool false)], args := [d] }
  | _ => none }
def FnOpSharedWrongFalsely : Prop := fnOpSharedRow.holds Try.pinned (OpenSpec.ofChange fnOpSharedWrong)

/-- 'laws.FnProgThread': WHATEVER THE INPUT: true; the input reads as it did. -/
def fnProgThreadSpec : ChangeSpec := { name := "fnProgThread", fn := fun _ => fun
  | [d] => { results := [.lit (.bool true)], args := [d] }
  | _ => none }
def fnProgThreadRow : OpenClaim := { program := "ytobkammimkgnkaa", sum := "00c9ca9d1f5884fa3e743e57d451b893d19fec1a4257d3bf87a3e639ed4f6f7c", func := "loop.example/waitkit/laws.FnProgThread", spec := "fnProgThread", unfollowed := true, recurses := true, apart := false }
def FnProgThreadSaid : Prop := fnProgThreadRow.holds Try.pinned (OpenSpec.ofChange fnProgThreadSpec)

/-- ITS FALSE NEIGHBOUR: 'it returns false'. Refute it at one input. -/
def fnProgThreadWrong : ChangeSpec := { name := "fnProgThread", fn := fun _ => fun
  | [d] => { results := [.lit (.bool false)], args := [d] }
  | _ => none }
def FnProgThreadWrongFalsely : Prop := fnProgThreadRow.holds Try.pinned (OpenSpec.ofChange fnProgThreadWrong)

/-- 'laws.FnProgOps': WHATEVER THE INPUT: true; the input reads as it did. -/
def fnProgOpsSpec : ChangeSpec := { name := "fnProgOps", fn := fun _ => fun
  | [d] => { results := [.lit (.bool true)], args := [d] }
  | _ => none }
def fnProgOpsRow : OpenClaim := { program := "ytobkammimkgnkaa", sum := "00c9ca9d1f5884fa3e743e57d451b893d19fec1a4257d3bf87a3e639ed4f6f7c", func := "loop.example/waitkit/laws.FnProgOps", spec := "fnProgOps", unfollowed := true, recurses := true, apart := false }
def FnProgOpsSaid : Prop := fnProgOpsRow.holds Try.pinned (OpenSpec.ofChange fnProgOpsSpec)

/-- ITS FALSE NEIGHBOUR: 'it returns false'. Refute it at one input. -/
def fnProgOpsWrong : ChangeSpec := { name := "fnProgOps", fn := fun _ => fun
  | [d] => { results := [.lit (.bool false)], args := [d] }
  | _ => none }
def FnProgOpsWrongFalsely : Prop := fnProgOpsRow.holds Try.pinned (OpenSpec.ofChange fnProgOpsWrong)

/-- 'laws.FnSizeAdd': WHATEVER THE INPUT: true; the input reads as it did. -/
def fnSizeAddSpec : ChangeSpec := { name := "fnSizeAdd", fn := fun _ => fun
  | [d] => { results := [.lit (.bool true)], args := [d] }
  | _ => none }
def fnSizeAddRow : OpenClaim := { program := "ytobkammimkgnkaa", sum := "00c9ca9d1f5884fa3e743e57d451b893d19fec1a4257d3bf87a3e639ed4f6f7c", func := "loop.example/waitkit/laws.FnSizeAdd", spec := "fnSizeAdd", unfollowed := true, recurses := true, apart := false }
def FnSizeAddSaid : Prop := fnSizeAddRow.holds Try.pinned (OpenSpec.ofChange fnSizeAddSpec)

/-- ITS FALSE NEIGHBOUR: 'it returns false'. Refute it at one input. -/
def fnSizeAddWrong : ChangeSpec := { name := "fnSizeAdd", fn := fun _ => fun
  | [d] => { results := [.lit (.bool false)], args := [d] }
  | _ => none }
def FnSizeAddWrongFalsely : Prop := fnSizeAddRow.holds Try.pinned (OpenSpec.ofChange fnSizeAddWrong)

/-- 'laws.FnProgShared': WHATEVER THE INPUT: true; the input reads as it did. -/
def fnProgSharedSpec : ChangeSpec := { name := "fnProgShared", fn := fun _ => fun
  | [d] => { results := [.lit (.bool true)], args := [d] }
  | _ => none }
def fnProgSharedRow : OpenClaim := { program := "ytobkammimkgnkaa", sum := "00c9ca9d1f5884fa3e743e57d451b893d19fec1a4257d3bf87a3e639ed4f6f7c", func := "loop.example/waitkit/laws.FnProgShared", spec := "fnProgShared", unfollowed := true, recurses := true, apart := false }
def FnProgSharedSaid : Prop := fnProgSharedRow.holds Try.pinned (OpenSpec.ofChange fnProgSharedSpec)

/-- ITS FALSE NEIGHBOUR: 'it returns false'. Refute it at one input. -/
def fnProgSharedWrong : ChangeSpec := { name := "fnProgShared", fn := fun _ => fun
  | [d] => { results := [.lit (.bool false)], args := [d] }
  | _ => none }
def FnProgSharedWrongFalsely : Prop := fnProgSharedRow.holds Try.pinned (OpenSpec.ofChange fnProgSharedWrong)

/- THE SECOND FORM. 'bulk': how many values and letters a reading holds, each counted each time it is reached (what is shared counts as often as it is met; a slice's spare places count too). A statement '..UptoSaid' is the law's where the arguments, and the package variables that the reading takes, are together of bulk at most 1048576: NARROWER than '..Said'. Prove '..Said' where nothing that the law and all that it calls make is longer than what came in: it says more and counts as full. Else prove '..UptoSaid'. A law counts once. -/
mutual
def uptoBulk {H : Type} : DataW H → Nat
  | .lit (.string bytes) => bytes.length + 1
  | .lit _ => 1
  | .nil => 1
  | .ptr d => uptoBulk d + 1
  | .slice elems spare => uptoBulkAll elems + uptoBulkAll spare + 1
  | .agg parts => uptoBulkAll parts + 1
  | .iface _ d => uptoBulk d + 1
  | .map entries => uptoBulkEntries entries + 1
  | .held _ => 1
def uptoBulkAll {H : Type} : List (DataW H) → Nat
  | [] => 0
  | d :: r => uptoBulk d + uptoBulkAll r
def uptoBulkEntries {H : Type} : List (Lit × DataW H) → Nat
  | [] => 0
  | x :: r => uptoBulkEntry x + uptoBulkEntries r
def uptoBulkEntry {H : Type} : Lit × DataW H → Nat
  | (.string bytes, d) => bytes.length + uptoBulk d + 1
  | (_, d) => uptoBulk d + 1
 end
def uptoSmall : (H : Type) → List (DataW H) → Bool := fun _ ds => decide (uptoBulkAll ds ≤ 1048576)
def OpenSpec.upto (s : _root_.Go.ChangeSpec) : _root_.Go.OpenSpec := { _root_.Go.OpenSpec.ofChange s with cond := some uptoSmall }

/-- 'laws.FnExactProgSame', WHERE WHAT IT READS IS OF BULK AT MOST 1048576: true; the input reads as it did. -/
def fnExactProgSameUptoRow : OpenClaim := { program := "ytobkammimkgnkaa", sum := "00c9ca9d1f5884fa3e743e57d451b893d19fec1a4257d3bf87a3e639ed4f6f7c", func := "loop.example/waitkit/laws.FnExactProgSame", spec := "fnExactProgSame", unfollowed := true, recurses := true, apart := false, narrowed := true }
def FnExactProgSameUptoSaid : Prop := fnExactProgSameUptoRow.holds Try.pinned (OpenSpec.upto fnExactProgSameSpec)

/-- 'laws.FnExactOpValid', WHERE WHAT IT READS IS OF BULK AT MOST 1048576: true; the input reads as it did. -/
def fnExactOpValidUptoRow : OpenClaim := { program := "ytobkammimkgnkaa", sum := "00c9ca9d1f5884fa3e743e57d451b893d19fec1a4257d3bf87a3e639ed4f6f7c", func := "loop.example/waitkit/laws.FnExactOpValid", spec := "fnExactOpValid", unfollowed := true, recurses := true, apart := false, narrowed := true }
def FnExactOpValidUptoSaid : Prop := fnExactOpValidUptoRow.holds Try.pinned (OpenSpec.upto fnExactOpValidSpec)

/-- 'laws.FnExactProgValid', WHERE WHAT IT READS IS OF BULK AT MOST 1048576: true; the input reads as it did. -/
def fnExactProgValidUptoRow : OpenClaim := { program := "ytobkammimkgnkaa", sum := "00c9ca9d1f5884fa3e743e57d451b893d19fec1a4257d3bf87a3e639ed4f6f7c", func := "loop.example/waitkit/laws.FnExactProgValid", spec := "fnExactProgValid", unfollowed := true, recurses := true, apart := false, narrowed := true }
def FnExactProgValidUptoSaid : Prop := fnExactProgValidUptoRow.holds Try.pinned (OpenSpec.upto fnExactProgValidSpec)

/-- 'laws.FnExactSizeOf', WHERE WHAT IT READS IS OF BULK AT MOST 1048576: true; the input reads as it did. -/
def fnExactSizeOfUptoRow : OpenClaim := { program := "ytobkammimkgnkaa", sum := "00c9ca9d1f5884fa3e743e57d451b893d19fec1a4257d3bf87a3e639ed4f6f7c", func := "loop.example/waitkit/laws.FnExactSizeOf", spec := "fnExactSizeOf", unfollowed := true, recurses := true, apart := false, narrowed := true }
def FnExactSizeOfUptoSaid : Prop := fnExactSizeOfUptoRow.holds Try.pinned (OpenSpec.upto fnExactSizeOfSpec)

/-- 'laws.FnOpShared', WHERE WHAT IT READS IS OF BULK AT MOST 1048576: true; the input reads as it did. -/
def fnOpSharedUptoRow : OpenClaim := { program := "ytobkammimkgnkaa", sum := "00c9ca9d1f5884fa3e743e57d451b893d19fec1a4257d3bf87a3e639ed4f6f7c", func := "loop.example/waitkit/laws.FnOpShared", spec := "fnOpShared", unfollowed := true, recurses := true, apart := false, narrowed := true }
def FnOpSharedUptoSaid : Prop := fnOpSharedUptoRow.holds Try.pinned (OpenSpec.upto fnOpSharedSpec)

/-- 'laws.FnProgThread', WHERE WHAT IT READS IS OF BULK AT MOST 1048576: true; the input reads as it did. -/
def fnProgThreadUptoRow : OpenClaim := { program := "ytobkammimkgnkaa", sum := "00c9ca9d1f5884fa3e743e57d451b893d19fec1a4257d3bf87a3e639ed4f6f7c", func := "loop.example/waitkit/laws.FnProgThread", spec := "fnProgThread", unfollowed := true, recurses := true, apart := false, narrowed := true }
def FnProgThreadUptoSaid : Prop := fnProgThreadUptoRow.holds Try.pinned (OpenSpec.upto fnProgThreadSpec)

/-- 'laws.FnProgOps', WHERE WHAT IT READS IS OF BULK AT MOST 1048576: true; the input reads as it did. -/
def fnProgOpsUptoRow : OpenClaim := { program := "ytobkammimkgnkaa", sum := "00c9ca9d1f5884fa3e743e57d451b893d19fec1a4257d3bf87a3e639ed4f6f7c", func := "loop.example/waitkit/laws.FnProgOps", spec := "fnProgOps", unfollowed := true, recurses := true, apart := false, narrowed := true }
def FnProgOpsUptoSaid : Prop := fnProgOpsUptoRow.holds Try.pinned (OpenSpec.upto fnProgOpsSpec)

/-- 'laws.FnSizeAdd', WHERE WHAT IT READS IS OF BULK AT MOST 1048576: true; the input reads as it did. -/
def fnSizeAddUptoRow : OpenClaim := { program := "ytobkammimkgnkaa", sum := "00c9ca9d1f5884fa3e743e57d451b893d19fec1a4257d3bf87a3e639ed4f6f7c", func := "loop.example/waitkit/laws.FnSizeAdd", spec := "fnSizeAdd", unfollowed := true, recurses := true, apart := false, narrowed := true }
def FnSizeAddUptoSaid : Prop := fnSizeAddUptoRow.holds Try.pinned (OpenSpec.upto fnSizeAddSpec)

/-- 'laws.FnProgShared', WHERE WHAT IT READS IS OF BULK AT MOST 1048576: true; the input reads as it did. -/
def fnProgSharedUptoRow : OpenClaim := { program := "ytobkammimkgnkaa", sum := "00c9ca9d1f5884fa3e743e57d451b893d19fec1a4257d3bf87a3e639ed4f6f7c", func := "loop.example/waitkit/laws.FnProgShared", spec := "fnProgShared", unfollowed := true, recurses := true, apart := false, narrowed := true }
def FnProgSharedUptoSaid : Prop := fnProgSharedUptoRow.holds Try.pinned (OpenSpec.upto fnProgSharedSpec)

end Rows
end Go.Proofs.Ytobkammimkgnkaa
