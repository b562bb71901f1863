/-
  DERIVED. GIVEN WITH THE SEED: THE CARDS: each row of YthbnbofoefdneaaDoorRows.lean that lists a variable, with what it lists TIED to the program's text (the seventh form; the later family's looks); each row that meets fmt, with fmt's text TOLD by the authors' own Lean function (tested against real Go, not proved from fmt's source: count such statements apart). THE CARD IS WHAT COUNTS. Prove the row's statement (the work); the ties are given (YthbnbofoefdneaaDoorTie.lean); close each card by the builder's one call (the guide's Derived/Test/ToyasCard.lean, 'card_holds'). Laid BY PROGRAM, IN A SANDBOX (cutbox-door.mjs). By AI agents, Wed Nov 11 2026. No macro, syntax, notation, axiom, sorry.
-/
import Derived.Test.YthbnbofoefdneaaDoorRows
import GoSem.ClaimSeven
namespace Go.Proofs.YthbnbofoefdneaaDoor
namespace Rows

/-- THE TIED CARD OF 'laws.FnExactParseOp'. -/
def fnExactParseOpCard : Claim7 := { stood := { row := fnExactParseOpRow, standIns := [], harness := (true, "cad06b283bb8004b55a795deda53c086af5c3c4ee6856ed1a52ebcadf137faa4"), looks := true }, kinds := [], alts := [], laidByText := true, laidKinds := [.data, .data, .data, .data, .sentinel, .sentinel, .data, .pinned], laidTests := true, laidLooks := .later }
def FnExactParseOpCardSaid : Prop := Claim7.holds Tryd.pinned (.plain (OpenSpec.ofChange fnExactParseOpSpec)) fnExactParseOpCard

/-- THE TIED CARD OF 'laws.FnOpText'. -/
def fnOpTextCard : Claim7 := { stood := { row := fnOpTextRow, standIns := [], harness := (true, "cad06b283bb8004b55a795deda53c086af5c3c4ee6856ed1a52ebcadf137faa4"), looks := true }, kinds := [], alts := [], laidByText := true, laidKinds := [.data, .data, .data, .data, .sentinel, .sentinel, .data, .pinned], laidTests := true, laidLooks := .later }
def FnOpTextCardSaid : Prop := Claim7.holds Tryd.pinned (.plain (OpenSpec.ofChange fnOpTextSpec)) fnOpTextCard

/-- THE SECOND FORM's CARD OF 'laws.FnExactParseOp'. -/
def fnExactParseOpUptoCard : Claim7 := { stood := { row := fnExactParseOpUptoRow, standIns := [], harness := (true, "cad06b283bb8004b55a795deda53c086af5c3c4ee6856ed1a52ebcadf137faa4"), looks := true }, kinds := [], alts := [], laidByText := true, laidKinds := [.data, .data, .data, .data, .sentinel, .sentinel, .data, .pinned], laidTests := true, laidLooks := .later }
def FnExactParseOpUptoCardSaid : Prop := Claim7.holds Tryd.pinned (.plain (OpenSpec.upto fnExactParseOpSpec)) fnExactParseOpUptoCard

/-- THE SECOND FORM's CARD OF 'laws.FnOpText'. -/
def fnOpTextUptoCard : Claim7 := { stood := { row := fnOpTextUptoRow, standIns := [], harness := (true, "cad06b283bb8004b55a795deda53c086af5c3c4ee6856ed1a52ebcadf137faa4"), looks := true }, kinds := [], alts := [], laidByText := true, laidKinds := [.data, .data, .data, .data, .sentinel, .sentinel, .data, .pinned], laidTests := true, laidLooks := .later }
def FnOpTextUptoCardSaid : Prop := Claim7.holds Tryd.pinned (.plain (OpenSpec.upto fnOpTextSpec)) fnOpTextUptoCard
end Rows
end Go.Proofs.YthbnbofoefdneaaDoor
