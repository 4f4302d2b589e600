/-
  DERIVED. GIVEN WITH THE SEED: THE CARDS: each row of YtmeiemdnhjnpcaaDoorRows.lean that lists a variable, with what it lists TIED to the program's text (the seventh form; the later family's looks); each row that meets fmt, with fmt's text TOLD by the authors' own Lean function (tested against real Go, not proved from fmt's source: count such statements apart). THE CARD IS WHAT COUNTS. Prove the row's statement (the work); the ties are given (YtmeiemdnhjnpcaaDoorTie.lean); close each card by the builder's one call (the guide's Derived/Test/ToyasCard.lean, 'card_holds'). Laid BY PROGRAM, IN A SANDBOX (cutbox-door.mjs). By AI agents, Wed Nov 11 2026. No macro, syntax, notation, axiom, sorry.
-/
import Derived.Test.YtmeiemdnhjnpcaaDoorRows
import GoSem.ClaimSeven
namespace Go.Proofs.YtmeiemdnhjnpcaaDoor
namespace Rows

/-- THE TIED CARD OF 'aerielaw04.BitsChanges'. -/
def bitsChangesCard : Claim7 := { stood := { row := bitsChangesRow, standIns := [], harness := (true, "32cd79466ae7481a8074b750a25c5dcfcdeccd357b746932c0fd4304c3d21982"), looks := false }, kinds := [], alts := [], laidByText := true, laidKinds := [.data, .data, .data], laidTests := true, laidLooks := .later }
def BitsChangesCardSaid : Prop := Claim7.holds Tryd.pinned (.plain (OpenSpec.ofChange bitsChangesSpec)) bitsChangesCard

/-- THE TIED CARD OF 'aerielaw04.BitsAsks'. -/
def bitsAsksCard : Claim7 := { stood := { row := bitsAsksRow, standIns := [], harness := (true, "32cd79466ae7481a8074b750a25c5dcfcdeccd357b746932c0fd4304c3d21982"), looks := false }, kinds := [], alts := [], laidByText := true, laidKinds := [.data, .data, .data], laidTests := true, laidLooks := .later }
def BitsAsksCardSaid : Prop := Claim7.holds Tryd.pinned (.plain (OpenSpec.ofChange bitsAsksSpec)) bitsAsksCard

/-- THE TIED CARD OF 'aerielaw04.BitsJoins'. -/
def bitsJoinsCard : Claim7 := { stood := { row := bitsJoinsRow, standIns := [], harness := (true, "32cd79466ae7481a8074b750a25c5dcfcdeccd357b746932c0fd4304c3d21982"), looks := false }, kinds := [], alts := [], laidByText := true, laidKinds := [.data, .data, .data], laidTests := true, laidLooks := .later }
def BitsJoinsCardSaid : Prop := Claim7.holds Tryd.pinned (.plain (OpenSpec.ofChange bitsJoinsSpec)) bitsJoinsCard

/-- THE TIED CARD OF 'aerielaw04.BitsRounds'. -/
def bitsRoundsCard : Claim7 := { stood := { row := bitsRoundsRow, standIns := [], harness := (true, "32cd79466ae7481a8074b750a25c5dcfcdeccd357b746932c0fd4304c3d21982"), looks := false }, kinds := [], alts := [], laidByText := true, laidKinds := [.data, .data, .data], laidTests := true, laidLooks := .later }
def BitsRoundsCardSaid : Prop := Claim7.holds Tryd.pinned (.plain (OpenSpec.ofChange bitsRoundsSpec)) bitsRoundsCard

/-- THE SECOND FORM's CARD OF 'aerielaw04.BitsChanges'. -/
def bitsChangesUptoCard : Claim7 := { stood := { row := bitsChangesUptoRow, standIns := [], harness := (true, "32cd79466ae7481a8074b750a25c5dcfcdeccd357b746932c0fd4304c3d21982"), looks := false }, kinds := [], alts := [], laidByText := true, laidKinds := [.data, .data, .data], laidTests := true, laidLooks := .later }
def BitsChangesUptoCardSaid : Prop := Claim7.holds Tryd.pinned (.plain (OpenSpec.upto bitsChangesSpec)) bitsChangesUptoCard

/-- THE SECOND FORM's CARD OF 'aerielaw04.BitsAsks'. -/
def bitsAsksUptoCard : Claim7 := { stood := { row := bitsAsksUptoRow, standIns := [], harness := (true, "32cd79466ae7481a8074b750a25c5dcfcdeccd357b746932c0fd4304c3d21982"), looks := false }, kinds := [], alts := [], laidByText := true, laidKinds := [.data, .data, .data], laidTests := true, laidLooks := .later }
def BitsAsksUptoCardSaid : Prop := Claim7.holds Tryd.pinned (.plain (OpenSpec.upto bitsAsksSpec)) bitsAsksUptoCard

/-- THE SECOND FORM's CARD OF 'aerielaw04.BitsJoins'. -/
def bitsJoinsUptoCard : Claim7 := { stood := { row := bitsJoinsUptoRow, standIns := [], harness := (true, "32cd79466ae7481a8074b750a25c5dcfcdeccd357b746932c0fd4304c3d21982"), looks := false }, kinds := [], alts := [], laidByText := true, laidKinds := [.data, .data, .data], laidTests := true, laidLooks := .later }
def BitsJoinsUptoCardSaid : Prop := Claim7.holds Tryd.pinned (.plain (OpenSpec.upto bitsJoinsSpec)) bitsJoinsUptoCard

/-- THE SECOND FORM's CARD OF 'aerielaw04.BitsRounds'. -/
def bitsRoundsUptoCard : Claim7 := { stood := { row := bitsRoundsUptoRow, standIns := [], harness := (true, "32cd79466ae7481a8074b750a25c5dcfcdeccd357b746932c0fd4304c3d21982"), looks := false }, kinds := [], alts := [], laidByText := true, laidKinds := [.data, .data, .data], laidTests := true, laidLooks := .later }
def BitsRoundsUptoCardSaid : Prop := Claim7.holds Tryd.pinned (.plain (OpenSpec.upto bitsRoundsSpec)) bitsRoundsUptoCard
end Rows
end Go.Proofs.YtmeiemdnhjnpcaaDoor
