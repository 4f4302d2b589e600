/-
  DERIVED. GIVEN WITH THE SEED: THE CARDS: each row of YtieoaeidlcdggaaGreatDoorRows.lean that lists a variable, with what it lists TIED to the program's text (the seventh form; the later family's looks); each row that meets fmt, with fmt's text TOLD by the authors' own Lean function (tested against real Go, not proved from fmt's source: count such statements apart). THE CARD IS WHAT COUNTS. Prove the row's statement (the work); the ties are given (YtieoaeidlcdggaaGreatDoorTie.lean); close each card by the builder's one call (the guide's Derived/Test/ToyasCard.lean, 'card_holds'). Laid BY PROGRAM, IN A SANDBOX (cutbox-door.mjs). By AI agents, Wed Nov 11 2026. No macro, syntax, notation, axiom, sorry.
-/
import Derived.Test.YtieoaeidlcdggaaGreatDoorRows
import GoSem.ClaimSeven
namespace Go.Proofs.YtieoaeidlcdggaaGreatDoor
namespace Rows

/-- THE TIED CARD OF 'aerielaw28.GroundSends'. -/
def groundSendsCard : Claim7 := { stood := { row := groundSendsRow, standIns := [], harness := (true, "199cdbb64356a982dba09ba74194ebc16010166cfa977071c0aedaa46c33dcfd"), looks := true }, kinds := [], alts := [], laidByText := true, laidKinds := [.data, .data, .data, .data, .sentinel, .sentinel, .listed, .data, .pinned], laidTests := true, laidLooks := .later }
def GroundSendsCardSaid : Prop := Claim7.holds Tryz.pinned (.plain (OpenSpec.ofChange groundSendsSpec)) groundSendsCard

/-- THE SECOND FORM's CARD OF 'aerielaw28.GroundSends'. -/
def groundSendsUptoCard : Claim7 := { stood := { row := groundSendsUptoRow, standIns := [], harness := (true, "199cdbb64356a982dba09ba74194ebc16010166cfa977071c0aedaa46c33dcfd"), looks := true }, kinds := [], alts := [], laidByText := true, laidKinds := [.data, .data, .data, .data, .sentinel, .sentinel, .listed, .data, .pinned], laidTests := true, laidLooks := .later }
def GroundSendsUptoCardSaid : Prop := Claim7.holds Tryz.pinned (.plain (OpenSpec.upto groundSendsSpec)) groundSendsUptoCard
end Rows
end Go.Proofs.YtieoaeidlcdggaaGreatDoor
