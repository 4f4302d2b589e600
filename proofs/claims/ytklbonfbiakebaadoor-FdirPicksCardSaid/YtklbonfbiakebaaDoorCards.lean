/-
  DERIVED. GIVEN WITH THE SEED: THE CARDS: each row of YtklbonfbiakebaaDoorRows.lean that lists a variable, with what it lists TIED to the program's text (the seventh form; the later family's looks); each row that meets fmt, with fmt's text TOLD by the authors' own Lean function (tested against real Go, not proved from fmt's source: count such statements apart). THE CARD IS WHAT COUNTS. Prove the row's statement (the work); the ties are given (YtklbonfbiakebaaDoorTie.lean); close each card by the builder's one call (the guide's Derived/Test/ToyasCard.lean, 'card_holds'). Laid BY PROGRAM, IN A SANDBOX (cutbox-door.mjs). By AI agents, Wed Nov 11 2026. No macro, syntax, notation, axiom, sorry.
-/
import Derived.Test.YtklbonfbiakebaaDoorRows
import GoSem.ClaimSeven
namespace Go.Proofs.YtklbonfbiakebaaDoor
namespace Rows

/-- THE TIED CARD OF 'aerielaw22.FdirClimbs'. -/
def fdirClimbsCard : Claim7 := { stood := { row := fdirClimbsRow, standIns := [], harness := (true, "669aba737706bb383c1f8f73422475bcfae637dcb0fbe15b55c38a821b781a45"), looks := false }, kinds := [], alts := [], laidByText := true, laidKinds := [.listed, .data], laidTests := true, laidLooks := .later }
def FdirClimbsCardSaid : Prop := Claim7.holds Tryd.pinned (.plain (OpenSpec.ofChange fdirClimbsSpec)) fdirClimbsCard

/-- THE TIED CARD OF 'aerielaw13.UnitBounds'. -/
def unitBoundsCard : Claim7 := { stood := { row := unitBoundsRow, standIns := [], harness := (true, "669aba737706bb383c1f8f73422475bcfae637dcb0fbe15b55c38a821b781a45"), looks := false }, kinds := [], alts := [], laidByText := true, laidKinds := [.listed, .data], laidTests := true, laidLooks := .later }
def UnitBoundsCardSaid : Prop := Claim7.holds Tryd.pinned (.plain (OpenSpec.ofChange unitBoundsSpec)) unitBoundsCard

/-- THE TIED CARD OF 'aerielaw13.UnitQuiet'. -/
def unitQuietCard : Claim7 := { stood := { row := unitQuietRow, standIns := [], harness := (true, "669aba737706bb383c1f8f73422475bcfae637dcb0fbe15b55c38a821b781a45"), looks := false }, kinds := [], alts := [], laidByText := true, laidKinds := [.listed, .data], laidTests := true, laidLooks := .later }
def UnitQuietCardSaid : Prop := Claim7.holds Tryd.pinned (.plain (OpenSpec.ofChange unitQuietSpec)) unitQuietCard

/-- THE TIED CARD OF 'aerielaw22.FdirRests'. -/
def fdirRestsCard : Claim7 := { stood := { row := fdirRestsRow, standIns := [], harness := (true, "669aba737706bb383c1f8f73422475bcfae637dcb0fbe15b55c38a821b781a45"), looks := false }, kinds := [], alts := [], laidByText := true, laidKinds := [.listed, .data], laidTests := true, laidLooks := .later }
def FdirRestsCardSaid : Prop := Claim7.holds Tryd.pinned (.plain (OpenSpec.ofChange fdirRestsSpec)) fdirRestsCard

/-- THE TIED CARD OF 'aerielaw22.FdirRaises'. -/
def fdirRaisesCard : Claim7 := { stood := { row := fdirRaisesRow, standIns := [], harness := (true, "669aba737706bb383c1f8f73422475bcfae637dcb0fbe15b55c38a821b781a45"), looks := false }, kinds := [], alts := [], laidByText := true, laidKinds := [.listed, .data], laidTests := true, laidLooks := .later }
def FdirRaisesCardSaid : Prop := Claim7.holds Tryd.pinned (.plain (OpenSpec.ofChange fdirRaisesSpec)) fdirRaisesCard

/-- THE TIED CARD OF 'aerielaw13.UnitPlays'. -/
def unitPlaysCard : Claim7 := { stood := { row := unitPlaysRow, standIns := [], harness := (true, "669aba737706bb383c1f8f73422475bcfae637dcb0fbe15b55c38a821b781a45"), looks := false }, kinds := [], alts := [], laidByText := true, laidKinds := [.listed, .data], laidTests := true, laidLooks := .later }
def UnitPlaysCardSaid : Prop := Claim7.holds Tryd.pinned (.plain (OpenSpec.ofChange unitPlaysSpec)) unitPlaysCard

/-- THE TIED CARD OF 'aerielaw24.ModeSteps'. -/
def modeStepsCard : Claim7 := { stood := { row := modeStepsRow, standIns := [], harness := (true, "669aba737706bb383c1f8f73422475bcfae637dcb0fbe15b55c38a821b781a45"), looks := false }, kinds := [], alts := [], laidByText := true, laidKinds := [.listed, .data], laidTests := true, laidLooks := .later }
def ModeStepsCardSaid : Prop := Claim7.holds Tryd.pinned (.plain (OpenSpec.ofChange modeStepsSpec)) modeStepsCard

/-- THE TIED CARD OF 'aerielaw22.FdirPicks'. -/
def fdirPicksCard : Claim7 := { stood := { row := fdirPicksRow, standIns := [], harness := (true, "669aba737706bb383c1f8f73422475bcfae637dcb0fbe15b55c38a821b781a45"), looks := false }, kinds := [], alts := [], laidByText := true, laidKinds := [.listed, .data], laidTests := true, laidLooks := .later }
def FdirPicksCardSaid : Prop := Claim7.holds Tryd.pinned (.plain (OpenSpec.ofChange fdirPicksSpec)) fdirPicksCard

/-- THE SECOND FORM's CARD OF 'aerielaw22.FdirClimbs'. -/
def fdirClimbsUptoCard : Claim7 := { stood := { row := fdirClimbsUptoRow, standIns := [], harness := (true, "669aba737706bb383c1f8f73422475bcfae637dcb0fbe15b55c38a821b781a45"), looks := false }, kinds := [], alts := [], laidByText := true, laidKinds := [.listed, .data], laidTests := true, laidLooks := .later }
def FdirClimbsUptoCardSaid : Prop := Claim7.holds Tryd.pinned (.plain (OpenSpec.upto fdirClimbsSpec)) fdirClimbsUptoCard

/-- THE SECOND FORM's CARD OF 'aerielaw13.UnitBounds'. -/
def unitBoundsUptoCard : Claim7 := { stood := { row := unitBoundsUptoRow, standIns := [], harness := (true, "669aba737706bb383c1f8f73422475bcfae637dcb0fbe15b55c38a821b781a45"), looks := false }, kinds := [], alts := [], laidByText := true, laidKinds := [.listed, .data], laidTests := true, laidLooks := .later }
def UnitBoundsUptoCardSaid : Prop := Claim7.holds Tryd.pinned (.plain (OpenSpec.upto unitBoundsSpec)) unitBoundsUptoCard

/-- THE SECOND FORM's CARD OF 'aerielaw13.UnitQuiet'. -/
def unitQuietUptoCard : Claim7 := { stood := { row := unitQuietUptoRow, standIns := [], harness := (true, "669aba737706bb383c1f8f73422475bcfae637dcb0fbe15b55c38a821b781a45"), looks := false }, kinds := [], alts := [], laidByText := true, laidKinds := [.listed, .data], laidTests := true, laidLooks := .later }
def UnitQuietUptoCardSaid : Prop := Claim7.holds Tryd.pinned (.plain (OpenSpec.upto unitQuietSpec)) unitQuietUptoCard

/-- THE SECOND FORM's CARD OF 'aerielaw22.FdirRests'. -/
def fdirRestsUptoCard : Claim7 := { stood := { row := fdirRestsUptoRow, standIns := [], harness := (true, "669aba737706bb383c1f8f73422475bcfae637dcb0fbe15b55c38a821b781a45"), looks := false }, kinds := [], alts := [], laidByText := true, laidKinds := [.listed, .data], laidTests := true, laidLooks := .later }
def FdirRestsUptoCardSaid : Prop := Claim7.holds Tryd.pinned (.plain (OpenSpec.upto fdirRestsSpec)) fdirRestsUptoCard

/-- THE SECOND FORM's CARD OF 'aerielaw22.FdirRaises'. -/
def fdirRaisesUptoCard : Claim7 := { stood := { row := fdirRaisesUptoRow, standIns := [], harness := (true, "669aba737706bb383c1f8f73422475bcfae637dcb0fbe15b55c38a821b781a45"), looks := false }, kinds := [], alts := [], laidByText := true, laidKinds := [.listed, .data], laidTests := true, laidLooks := .later }
def FdirRaisesUptoCardSaid : Prop := Claim7.holds Tryd.pinned (.plain (OpenSpec.upto fdirRaisesSpec)) fdirRaisesUptoCard

/-- THE SECOND FORM's CARD OF 'aerielaw13.UnitPlays'. -/
def unitPlaysUptoCard : Claim7 := { stood := { row := unitPlaysUptoRow, standIns := [], harness := (true, "669aba737706bb383c1f8f73422475bcfae637dcb0fbe15b55c38a821b781a45"), looks := false }, kinds := [], alts := [], laidByText := true, laidKinds := [.listed, .data], laidTests := true, laidLooks := .later }
def UnitPlaysUptoCardSaid : Prop := Claim7.holds Tryd.pinned (.plain (OpenSpec.upto unitPlaysSpec)) unitPlaysUptoCard

/-- THE SECOND FORM's CARD OF 'aerielaw24.ModeSteps'. -/
def modeStepsUptoCard : Claim7 := { stood := { row := modeStepsUptoRow, standIns := [], harness := (true, "669aba737706bb383c1f8f73422475bcfae637dcb0fbe15b55c38a821b781a45"), looks := false }, kinds := [], alts := [], laidByText := true, laidKinds := [.listed, .data], laidTests := true, laidLooks := .later }
def ModeStepsUptoCardSaid : Prop := Claim7.holds Tryd.pinned (.plain (OpenSpec.upto modeStepsSpec)) modeStepsUptoCard

/-- THE SECOND FORM's CARD OF 'aerielaw22.FdirPicks'. -/
def fdirPicksUptoCard : Claim7 := { stood := { row := fdirPicksUptoRow, standIns := [], harness := (true, "669aba737706bb383c1f8f73422475bcfae637dcb0fbe15b55c38a821b781a45"), looks := false }, kinds := [], alts := [], laidByText := true, laidKinds := [.listed, .data], laidTests := true, laidLooks := .later }
def FdirPicksUptoCardSaid : Prop := Claim7.holds Tryd.pinned (.plain (OpenSpec.upto fdirPicksSpec)) fdirPicksUptoCard
end Rows
end Go.Proofs.YtklbonfbiakebaaDoor
