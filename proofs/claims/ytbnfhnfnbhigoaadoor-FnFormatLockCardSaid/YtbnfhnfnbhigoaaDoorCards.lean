/-
  DERIVED. GIVEN WITH THE SEED: THE CARDS: each row of YtbnfhnfnbhigoaaDoorRows.lean that lists a variable, with what it lists TIED to the program's text (the seventh form; the later family's looks); each row that meets fmt, with fmt's text TOLD by the authors' own Lean function (tested against real Go, not proved from fmt's source: count such statements apart). THE CARD IS WHAT COUNTS. Prove the row's statement (the work); the ties are given (YtbnfhnfnbhigoaaDoorTie.lean); close each card by the builder's one call (the guide's Derived/Test/ToyasCard.lean, 'card_holds'). Laid BY PROGRAM, IN A SANDBOX (cutbox-door.mjs). By AI agents, Wed Nov 11 2026. No macro, syntax, notation, axiom, sorry.
-/
import Derived.Test.YtbnfhnfnbhigoaaDoorRows
import GoSem.ClaimSeven
namespace Go.Proofs.YtbnfhnfnbhigoaaDoor
namespace Rows

/-- THE TIED CARD OF 'laws.FnExactFormatLock'. -/
def fnExactFormatLockCard : Claim7 := { stood := { row := fnExactFormatLockRow, standIns := [], harness := (true, "fb7af1f20f1829a57ccd46677fd9960374bf823f234ff85b53f1076962ae7240"), looks := false }, kinds := [], alts := [], laidByText := true, laidKinds := [.data, .data, .data], laidTests := true, laidLooks := .later }
def FnExactFormatLockCardSaid : Prop := Claim7.holds Tryd.pinned (.plain (OpenSpec.ofChange fnExactFormatLockSpec)) fnExactFormatLockCard

/-- THE TIED CARD OF 'laws.FnLockSame'. -/
def fnLockSameCard : Claim7 := { stood := { row := fnLockSameRow, standIns := [], harness := (true, "fb7af1f20f1829a57ccd46677fd9960374bf823f234ff85b53f1076962ae7240"), looks := false }, kinds := [], alts := [], laidByText := true, laidKinds := [.data, .data, .data], laidTests := true, laidLooks := .later }
def FnLockSameCardSaid : Prop := Claim7.holds Tryd.pinned (.plain (OpenSpec.ofChange fnLockSameSpec)) fnLockSameCard

/-- THE TIED CARD OF 'laws.FnLockText'. -/
def fnLockTextCard : Claim7 := { stood := { row := fnLockTextRow, standIns := [], harness := (true, "fb7af1f20f1829a57ccd46677fd9960374bf823f234ff85b53f1076962ae7240"), looks := false }, kinds := [], alts := [], laidByText := true, laidKinds := [.data, .data, .data], laidTests := true, laidLooks := .later }
def FnLockTextCardSaid : Prop := Claim7.holds Tryd.pinned (.plain (OpenSpec.ofChange fnLockTextSpec)) fnLockTextCard

/-- THE TIED CARD OF 'laws.FnFormatLock'. -/
def fnFormatLockCard : Claim7 := { stood := { row := fnFormatLockRow, standIns := [], harness := (true, "fb7af1f20f1829a57ccd46677fd9960374bf823f234ff85b53f1076962ae7240"), looks := false }, kinds := [], alts := [], laidByText := true, laidKinds := [.data, .data, .data], laidTests := true, laidLooks := .later }
def FnFormatLockCardSaid : Prop := Claim7.holds Tryd.pinned (.plain (OpenSpec.ofChange fnFormatLockSpec)) fnFormatLockCard

/-- THE SECOND FORM's CARD OF 'laws.FnExactFormatLock'. -/
def fnExactFormatLockUptoCard : Claim7 := { stood := { row := fnExactFormatLockUptoRow, standIns := [], harness := (true, "fb7af1f20f1829a57ccd46677fd9960374bf823f234ff85b53f1076962ae7240"), looks := false }, kinds := [], alts := [], laidByText := true, laidKinds := [.data, .data, .data], laidTests := true, laidLooks := .later }
def FnExactFormatLockUptoCardSaid : Prop := Claim7.holds Tryd.pinned (.plain (OpenSpec.upto fnExactFormatLockSpec)) fnExactFormatLockUptoCard

/-- THE SECOND FORM's CARD OF 'laws.FnLockSame'. -/
def fnLockSameUptoCard : Claim7 := { stood := { row := fnLockSameUptoRow, standIns := [], harness := (true, "fb7af1f20f1829a57ccd46677fd9960374bf823f234ff85b53f1076962ae7240"), looks := false }, kinds := [], alts := [], laidByText := true, laidKinds := [.data, .data, .data], laidTests := true, laidLooks := .later }
def FnLockSameUptoCardSaid : Prop := Claim7.holds Tryd.pinned (.plain (OpenSpec.upto fnLockSameSpec)) fnLockSameUptoCard

/-- THE SECOND FORM's CARD OF 'laws.FnLockText'. -/
def fnLockTextUptoCard : Claim7 := { stood := { row := fnLockTextUptoRow, standIns := [], harness := (true, "fb7af1f20f1829a57ccd46677fd9960374bf823f234ff85b53f1076962ae7240"), looks := false }, kinds := [], alts := [], laidByText := true, laidKinds := [.data, .data, .data], laidTests := true, laidLooks := .later }
def FnLockTextUptoCardSaid : Prop := Claim7.holds Tryd.pinned (.plain (OpenSpec.upto fnLockTextSpec)) fnLockTextUptoCard

/-- THE SECOND FORM's CARD OF 'laws.FnFormatLock'. -/
def fnFormatLockUptoCard : Claim7 := { stood := { row := fnFormatLockUptoRow, standIns := [], harness := (true, "fb7af1f20f1829a57ccd46677fd9960374bf823f234ff85b53f1076962ae7240"), looks := false }, kinds := [], alts := [], laidByText := true, laidKinds := [.data, .data, .data], laidTests := true, laidLooks := .later }
def FnFormatLockUptoCardSaid : Prop := Claim7.holds Tryd.pinned (.plain (OpenSpec.upto fnFormatLockSpec)) fnFormatLockUptoCard
end Rows
end Go.Proofs.YtbnfhnfnbhigoaaDoor
