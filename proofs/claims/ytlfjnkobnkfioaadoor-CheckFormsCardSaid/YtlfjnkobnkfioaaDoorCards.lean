/-
  DERIVED. GIVEN WITH THE SEED: THE CARDS: each row of YtlfjnkobnkfioaaDoorRows.lean that lists a variable, with what it lists TIED to the program's text (the seventh form; the later family's looks); each row that meets fmt, with fmt's text TOLD by the authors' own Lean function (tested against real Go, not proved from fmt's source: count such statements apart). THE CARD IS WHAT COUNTS. Prove the row's statement (the work); the ties are given (YtlfjnkobnkfioaaDoorTie.lean); close each card by the builder's one call (the guide's Derived/Test/ToyasCard.lean, 'card_holds'). Laid BY PROGRAM, IN A SANDBOX (cutbox-door.mjs). By AI agents, Wed Nov 11 2026. No macro, syntax, notation, axiom, sorry.
-/
import Derived.Test.YtlfjnkobnkfioaaDoorRows
import GoSem.ClaimSeven
namespace Go.Proofs.YtlfjnkobnkfioaaDoor
namespace Rows

/-- THE TIED CARD OF 'aerielaw15.CheckBounds'. -/
def checkBoundsCard : Claim7 := { stood := { row := checkBoundsRow, standIns := [], harness := (true, "fd86bd4db086f085a67c67fade2ae8fbf43d025f2d3c840ddf74725908503bb1"), looks := false }, kinds := [], alts := [], laidByText := true, laidKinds := [.listed, .data], laidTests := true, laidLooks := .later }
def CheckBoundsCardSaid : Prop := Claim7.holds Tryd.pinned (.plain (OpenSpec.ofChange checkBoundsSpec)) checkBoundsCard

/-- THE TIED CARD OF 'aerielaw15.CheckMasks'. -/
def checkMasksCard : Claim7 := { stood := { row := checkMasksRow, standIns := [], harness := (true, "fd86bd4db086f085a67c67fade2ae8fbf43d025f2d3c840ddf74725908503bb1"), looks := false }, kinds := [], alts := [], laidByText := true, laidKinds := [.listed, .data], laidTests := true, laidLooks := .later }
def CheckMasksCardSaid : Prop := Claim7.holds Tryd.pinned (.plain (OpenSpec.ofChange checkMasksSpec)) checkMasksCard

/-- THE TIED CARD OF 'aerielaw15.CheckLooks'. -/
def checkLooksCard : Claim7 := { stood := { row := checkLooksRow, standIns := [], harness := (true, "fd86bd4db086f085a67c67fade2ae8fbf43d025f2d3c840ddf74725908503bb1"), looks := false }, kinds := [], alts := [], laidByText := true, laidKinds := [.listed, .data], laidTests := true, laidLooks := .later }
def CheckLooksCardSaid : Prop := Claim7.holds Tryd.pinned (.plain (OpenSpec.ofChange checkLooksSpec)) checkLooksCard

/-- THE TIED CARD OF 'aerielaw15.CheckWide'. -/
def checkWideCard : Claim7 := { stood := { row := checkWideRow, standIns := [], harness := (true, "fd86bd4db086f085a67c67fade2ae8fbf43d025f2d3c840ddf74725908503bb1"), looks := false }, kinds := [], alts := [], laidByText := true, laidKinds := [.listed, .data], laidTests := true, laidLooks := .later }
def CheckWideCardSaid : Prop := Claim7.holds Tryd.pinned (.plain (OpenSpec.ofChange checkWideSpec)) checkWideCard

/-- THE TIED CARD OF 'aerielaw15.CheckForms'. -/
def checkFormsCard : Claim7 := { stood := { row := checkFormsRow, standIns := [], harness := (true, "fd86bd4db086f085a67c67fade2ae8fbf43d025f2d3c840ddf74725908503bb1"), looks := false }, kinds := [], alts := [], laidByText := true, laidKinds := [.listed, .data], laidTests := true, laidLooks := .later }
def CheckFormsCardSaid : Prop := Claim7.holds Tryd.pinned (.plain (OpenSpec.ofChange checkFormsSpec)) checkFormsCard

/-- THE SECOND FORM's CARD OF 'aerielaw15.CheckBounds'. -/
def checkBoundsUptoCard : Claim7 := { stood := { row := checkBoundsUptoRow, standIns := [], harness := (true, "fd86bd4db086f085a67c67fade2ae8fbf43d025f2d3c840ddf74725908503bb1"), looks := false }, kinds := [], alts := [], laidByText := true, laidKinds := [.listed, .data], laidTests := true, laidLooks := .later }
def CheckBoundsUptoCardSaid : Prop := Claim7.holds Tryd.pinned (.plain (OpenSpec.upto checkBoundsSpec)) checkBoundsUptoCard

/-- THE SECOND FORM's CARD OF 'aerielaw15.CheckMasks'. -/
def checkMasksUptoCard : Claim7 := { stood := { row := checkMasksUptoRow, standIns := [], harness := (true, "fd86bd4db086f085a67c67fade2ae8fbf43d025f2d3c840ddf74725908503bb1"), looks := false }, kinds := [], alts := [], laidByText := true, laidKinds := [.listed, .data], laidTests := true, laidLooks := .later }
def CheckMasksUptoCardSaid : Prop := Claim7.holds Tryd.pinned (.plain (OpenSpec.upto checkMasksSpec)) checkMasksUptoCard

/-- THE SECOND FORM's CARD OF 'aerielaw15.CheckLooks'. -/
def checkLooksUptoCard : Claim7 := { stood := { row := checkLooksUptoRow, standIns := [], harness := (true, "fd86bd4db086f085a67c67fade2ae8fbf43d025f2d3c840ddf74725908503bb1"), looks := false }, kinds := [], alts := [], laidByText := true, laidKinds := [.listed, .data], laidTests := true, laidLooks := .later }
def CheckLooksUptoCardSaid : Prop := Claim7.holds Tryd.pinned (.plain (OpenSpec.upto checkLooksSpec)) checkLooksUptoCard

/-- THE SECOND FORM's CARD OF 'aerielaw15.CheckWide'. -/
def checkWideUptoCard : Claim7 := { stood := { row := checkWideUptoRow, standIns := [], harness := (true, "fd86bd4db086f085a67c67fade2ae8fbf43d025f2d3c840ddf74725908503bb1"), looks := false }, kinds := [], alts := [], laidByText := true, laidKinds := [.listed, .data], laidTests := true, laidLooks := .later }
def CheckWideUptoCardSaid : Prop := Claim7.holds Tryd.pinned (.plain (OpenSpec.upto checkWideSpec)) checkWideUptoCard

/-- THE SECOND FORM's CARD OF 'aerielaw15.CheckForms'. -/
def checkFormsUptoCard : Claim7 := { stood := { row := checkFormsUptoRow, standIns := [], harness := (true, "fd86bd4db086f085a67c67fade2ae8fbf43d025f2d3c840ddf74725908503bb1"), looks := false }, kinds := [], alts := [], laidByText := true, laidKinds := [.listed, .data], laidTests := true, laidLooks := .later }
def CheckFormsUptoCardSaid : Prop := Claim7.holds Tryd.pinned (.plain (OpenSpec.upto checkFormsSpec)) checkFormsUptoCard
end Rows
end Go.Proofs.YtlfjnkobnkfioaaDoor
