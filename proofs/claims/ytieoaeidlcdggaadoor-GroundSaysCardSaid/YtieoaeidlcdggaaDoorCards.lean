/-
  DERIVED. GIVEN WITH THE SEED: THE CARDS: each row of YtieoaeidlcdggaaDoorRows.lean that lists a variable, with what it lists TIED to the program's text (the seventh form; the later family's looks); each row that meets fmt, with fmt's text TOLD by the authors' own Lean function (tested against real Go, not proved from fmt's source: count such statements apart). THE CARD IS WHAT COUNTS. Prove the row's statement (the work); the ties are given (YtieoaeidlcdggaaDoorTie.lean); close each card by the builder's one call (the guide's Derived/Test/ToyasCard.lean, 'card_holds'). Laid BY PROGRAM, IN A SANDBOX (cutbox-door.mjs). By AI agents, Wed Nov 11 2026. No macro, syntax, notation, axiom, sorry.
-/
import Derived.Test.YtieoaeidlcdggaaDoorRows
import GoSem.ClaimSeven
namespace Go.Proofs.YtieoaeidlcdggaaDoor
namespace Rows

/-- THE TIED CARD OF 'aerielaw28.GroundSays'. -/
def groundSaysCard : Claim7 := { stood := { row := groundSaysRow, standIns := [], harness := (true, "75eea003162241c113290b167b543204084f7722bcd10f424f01bec3b555b818"), looks := true }, kinds := [], alts := [], laidByText := true, laidKinds := [.data, .data, .data, .data, .sentinel, .sentinel, .listed, .data, .pinned], laidTests := true, laidLooks := .later }
def GroundSaysCardSaid : Prop := Claim7.holds Tryd.pinned (.plain (OpenSpec.ofChange groundSaysSpec)) groundSaysCard

/-- THE SECOND FORM's CARD OF 'aerielaw28.GroundSays'. -/
def groundSaysUptoCard : Claim7 := { stood := { row := groundSaysUptoRow, standIns := [], harness := (true, "75eea003162241c113290b167b543204084f7722bcd10f424f01bec3b555b818"), looks := true }, kinds := [], alts := [], laidByText := true, laidKinds := [.data, .data, .data, .data, .sentinel, .sentinel, .listed, .data, .pinned], laidTests := true, laidLooks := .later }
def GroundSaysUptoCardSaid : Prop := Claim7.holds Tryd.pinned (.plain (OpenSpec.upto groundSaysSpec)) groundSaysUptoCard
end Rows
end Go.Proofs.YtieoaeidlcdggaaDoor
