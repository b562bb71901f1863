/-
  DERIVED. GIVEN WITH THE SEED: THE CARDS: each row of YtchlacepeckeaaaDoorRows.lean that lists a variable, with what it lists TIED to the program's text (the seventh form; the later family's looks); each row that meets fmt, with fmt's text TOLD by the authors' own Lean function (tested against real Go, not proved from fmt's source: count such statements apart). THE CARD IS WHAT COUNTS. Prove the row's statement (the work); the ties are given (YtchlacepeckeaaaDoorTie.lean); close each card by the builder's one call (the guide's Derived/Test/ToyasCard.lean, 'card_holds'). Laid BY PROGRAM, IN A SANDBOX (cutbox-door.mjs). By AI agents, Wed Nov 11 2026. No macro, syntax, notation, axiom, sorry.
-/
import Derived.Test.YtchlacepeckeaaaDoorRows
import GoSem.ClaimSeven
namespace Go.Proofs.YtchlacepeckeaaaDoor
namespace Rows

/-- THE TIED CARD OF 'laws.FnOpWords'. -/
def fnOpWordsCard : Claim7 := { stood := { row := fnOpWordsRow, standIns := [], harness := (true, "f5e670082ce57336d95b5716a4c65a16a916412c9ecc9c8c8c26618e569ae501"), looks := false }, kinds := [], alts := [], laidByText := true, laidKinds := [.data, .data, .data, .data], laidTests := true, laidLooks := .later }
def FnOpWordsCardSaid : Prop := Claim7.holds Tryd.pinned (.plain (OpenSpec.ofChange fnOpWordsSpec)) fnOpWordsCard

/-- THE TIED CARD OF 'laws.FnExactFormatOp'. -/
def fnExactFormatOpCard : Claim7 := { stood := { row := fnExactFormatOpRow, standIns := [], harness := (true, "f5e670082ce57336d95b5716a4c65a16a916412c9ecc9c8c8c26618e569ae501"), looks := false }, kinds := [], alts := [], laidByText := true, laidKinds := [.data, .data, .data, .data], laidTests := true, laidLooks := .later }
def FnExactFormatOpCardSaid : Prop := Claim7.holds Tryd.pinned (.plain (OpenSpec.ofChange fnExactFormatOpSpec)) fnExactFormatOpCard

/-- THE SECOND FORM's CARD OF 'laws.FnOpWords'. -/
def fnOpWordsUptoCard : Claim7 := { stood := { row := fnOpWordsUptoRow, standIns := [], harness := (true, "f5e670082ce57336d95b5716a4c65a16a916412c9ecc9c8c8c26618e569ae501"), looks := false }, kinds := [], alts := [], laidByText := true, laidKinds := [.data, .data, .data, .data], laidTests := true, laidLooks := .later }
def FnOpWordsUptoCardSaid : Prop := Claim7.holds Tryd.pinned (.plain (OpenSpec.upto fnOpWordsSpec)) fnOpWordsUptoCard

/-- THE SECOND FORM's CARD OF 'laws.FnExactFormatOp'. -/
def fnExactFormatOpUptoCard : Claim7 := { stood := { row := fnExactFormatOpUptoRow, standIns := [], harness := (true, "f5e670082ce57336d95b5716a4c65a16a916412c9ecc9c8c8c26618e569ae501"), looks := false }, kinds := [], alts := [], laidByText := true, laidKinds := [.data, .data, .data, .data], laidTests := true, laidLooks := .later }
def FnExactFormatOpUptoCardSaid : Prop := Claim7.holds Tryd.pinned (.plain (OpenSpec.upto fnExactFormatOpSpec)) fnExactFormatOpUptoCard
end Rows
end Go.Proofs.YtchlacepeckeaaaDoor
