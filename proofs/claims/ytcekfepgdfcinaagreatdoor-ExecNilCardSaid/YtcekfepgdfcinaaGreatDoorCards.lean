/-
  DERIVED. GIVEN WITH THE SEED: THE CARDS: each row of YtcekfepgdfcinaaGreatDoorRows.lean that lists a variable, with what it lists TIED to the program's text (the seventh form; the later family's looks); each row that meets fmt, with fmt's text TOLD by the authors' own Lean function (tested against real Go, not proved from fmt's source: count such statements apart). THE CARD IS WHAT COUNTS. Prove the row's statement (the work); the ties are given (YtcekfepgdfcinaaGreatDoorTie.lean); close each card by the builder's one call (the guide's Derived/Test/ToyasCard.lean, 'card_holds'). Laid BY PROGRAM, IN A SANDBOX (cutbox-door.mjs). By AI agents, Wed Nov 11 2026. No macro, syntax, notation, axiom, sorry.
-/
import Derived.Test.YtcekfepgdfcinaaGreatDoorRows
import GoSem.ClaimSeven
namespace Go.Proofs.YtcekfepgdfcinaaGreatDoor
namespace Rows

/-- THE TIED CARD OF 'aerielaw25.ExecRetries'. -/
def execRetriesCard : Claim7 := { stood := { row := execRetriesRow, standIns := [], harness := (true, "d3ed1db08f8e7c462fcc8450ce03830a133a4ab3a25847276acd92d9595181e7"), looks := false }, kinds := [], alts := [], laidByText := true, laidKinds := [.data], laidTests := true, laidLooks := .later }
def ExecRetriesCardSaid : Prop := Claim7.holds Tryz.pinned (.plain (OpenSpec.ofChange execRetriesSpec)) execRetriesCard

/-- THE TIED CARD OF 'aerielaw25.ExecOrders'. -/
def execOrdersCard : Claim7 := { stood := { row := execOrdersRow, standIns := [], harness := (true, "d3ed1db08f8e7c462fcc8450ce03830a133a4ab3a25847276acd92d9595181e7"), looks := false }, kinds := [], alts := [], laidByText := true, laidKinds := [.data], laidTests := true, laidLooks := .later }
def ExecOrdersCardSaid : Prop := Claim7.holds Tryz.pinned (.plain (OpenSpec.ofChange execOrdersSpec)) execOrdersCard

/-- THE TIED CARD OF 'aerielaw25.ExecHealth'. -/
def execHealthCard : Claim7 := { stood := { row := execHealthRow, standIns := [], harness := (true, "d3ed1db08f8e7c462fcc8450ce03830a133a4ab3a25847276acd92d9595181e7"), looks := false }, kinds := [], alts := [], laidByText := true, laidKinds := [.data], laidTests := true, laidLooks := .later }
def ExecHealthCardSaid : Prop := Claim7.holds Tryz.pinned (.plain (OpenSpec.ofChange execHealthSpec)) execHealthCard

/-- THE TIED CARD OF 'aerielaw25.ExecResets'. -/
def execResetsCard : Claim7 := { stood := { row := execResetsRow, standIns := [], harness := (true, "d3ed1db08f8e7c462fcc8450ce03830a133a4ab3a25847276acd92d9595181e7"), looks := false }, kinds := [], alts := [], laidByText := true, laidKinds := [.data], laidTests := true, laidLooks := .later }
def ExecResetsCardSaid : Prop := Claim7.holds Tryz.pinned (.plain (OpenSpec.ofChange execResetsSpec)) execResetsCard

/-- THE TIED CARD OF 'aerielaw25.ExecLogs'. -/
def execLogsCard : Claim7 := { stood := { row := execLogsRow, standIns := [], harness := (true, "d3ed1db08f8e7c462fcc8450ce03830a133a4ab3a25847276acd92d9595181e7"), looks := false }, kinds := [], alts := [], laidByText := true, laidKinds := [.data], laidTests := true, laidLooks := .later }
def ExecLogsCardSaid : Prop := Claim7.holds Tryz.pinned (.plain (OpenSpec.ofChange execLogsSpec)) execLogsCard

/-- THE TIED CARD OF 'aerielaw25.ExecRestarts'. -/
def execRestartsCard : Claim7 := { stood := { row := execRestartsRow, standIns := [], harness := (true, "d3ed1db08f8e7c462fcc8450ce03830a133a4ab3a25847276acd92d9595181e7"), looks := false }, kinds := [], alts := [], laidByText := true, laidKinds := [.data], laidTests := true, laidLooks := .later }
def ExecRestartsCardSaid : Prop := Claim7.holds Tryz.pinned (.plain (OpenSpec.ofChange execRestartsSpec)) execRestartsCard

/-- THE TIED CARD OF 'aerielaw25.ExecCalm'. -/
def execCalmCard : Claim7 := { stood := { row := execCalmRow, standIns := [], harness := (true, "d3ed1db08f8e7c462fcc8450ce03830a133a4ab3a25847276acd92d9595181e7"), looks := false }, kinds := [], alts := [], laidByText := true, laidKinds := [.data], laidTests := true, laidLooks := .later }
def ExecCalmCardSaid : Prop := Claim7.holds Tryz.pinned (.plain (OpenSpec.ofChange execCalmSpec)) execCalmCard

/-- THE TIED CARD OF 'aerielaw25.ExecNil'. -/
def execNilCard : Claim7 := { stood := { row := execNilRow, standIns := [], harness := (true, "d3ed1db08f8e7c462fcc8450ce03830a133a4ab3a25847276acd92d9595181e7"), looks := false }, kinds := [], alts := [], laidByText := true, laidKinds := [.data], laidTests := true, laidLooks := .later }
def ExecNilCardSaid : Prop := Claim7.holds Tryz.pinned (.plain (OpenSpec.ofChange execNilSpec)) execNilCard

/-- THE SECOND FORM's CARD OF 'aerielaw25.ExecRetries'. -/
def execRetriesUptoCard : Claim7 := { stood := { row := execRetriesUptoRow, standIns := [], harness := (true, "d3ed1db08f8e7c462fcc8450ce03830a133a4ab3a25847276acd92d9595181e7"), looks := false }, kinds := [], alts := [], laidByText := true, laidKinds := [.data], laidTests := true, laidLooks := .later }
def ExecRetriesUptoCardSaid : Prop := Claim7.holds Tryz.pinned (.plain (OpenSpec.upto execRetriesSpec)) execRetriesUptoCard

/-- THE SECOND FORM's CARD OF 'aerielaw25.ExecOrders'. -/
def execOrdersUptoCard : Claim7 := { stood := { row := execOrdersUptoRow, standIns := [], harness := (true, "d3ed1db08f8e7c462fcc8450ce03830a133a4ab3a25847276acd92d9595181e7"), looks := false }, kinds := [], alts := [], laidByText := true, laidKinds := [.data], laidTests := true, laidLooks := .later }
def ExecOrdersUptoCardSaid : Prop := Claim7.holds Tryz.pinned (.plain (OpenSpec.upto execOrdersSpec)) execOrdersUptoCard

/-- THE SECOND FORM's CARD OF 'aerielaw25.ExecHealth'. -/
def execHealthUptoCard : Claim7 := { stood := { row := execHealthUptoRow, standIns := [], harness := (true, "d3ed1db08f8e7c462fcc8450ce03830a133a4ab3a25847276acd92d9595181e7"), looks := false }, kinds := [], alts := [], laidByText := true, laidKinds := [.data], laidTests := true, laidLooks := .later }
def ExecHealthUptoCardSaid : Prop := Claim7.holds Tryz.pinned (.plain (OpenSpec.upto execHealthSpec)) execHealthUptoCard

/-- THE SECOND FORM's CARD OF 'aerielaw25.ExecResets'. -/
def execResetsUptoCard : Claim7 := { stood := { row := execResetsUptoRow, standIns := [], harness := (true, "d3ed1db08f8e7c462fcc8450ce03830a133a4ab3a25847276acd92d9595181e7"), looks := false }, kinds := [], alts := [], laidByText := true, laidKinds := [.data], laidTests := true, laidLooks := .later }
def ExecResetsUptoCardSaid : Prop := Claim7.holds Tryz.pinned (.plain (OpenSpec.upto execResetsSpec)) execResetsUptoCard

/-- THE SECOND FORM's CARD OF 'aerielaw25.ExecLogs'. -/
def execLogsUptoCard : Claim7 := { stood := { row := execLogsUptoRow, standIns := [], harness := (true, "d3ed1db08f8e7c462fcc8450ce03830a133a4ab3a25847276acd92d9595181e7"), looks := false }, kinds := [], alts := [], laidByText := true, laidKinds := [.data], laidTests := true, laidLooks := .later }
def ExecLogsUptoCardSaid : Prop := Claim7.holds Tryz.pinned (.plain (OpenSpec.upto execLogsSpec)) execLogsUptoCard

/-- THE SECOND FORM's CARD OF 'aerielaw25.ExecRestarts'. -/
def execRestartsUptoCard : Claim7 := { stood := { row := execRestartsUptoRow, standIns := [], harness := (true, "d3ed1db08f8e7c462fcc8450ce03830a133a4ab3a25847276acd92d9595181e7"), looks := false }, kinds := [], alts := [], laidByText := true, laidKinds := [.data], laidTests := true, laidLooks := .later }
def ExecRestartsUptoCardSaid : Prop := Claim7.holds Tryz.pinned (.plain (OpenSpec.upto execRestartsSpec)) execRestartsUptoCard

/-- THE SECOND FORM's CARD OF 'aerielaw25.ExecCalm'. -/
def execCalmUptoCard : Claim7 := { stood := { row := execCalmUptoRow, standIns := [], harness := (true, "d3ed1db08f8e7c462fcc8450ce03830a133a4ab3a25847276acd92d9595181e7"), looks := false }, kinds := [], alts := [], laidByText := true, laidKinds := [.data], laidTests := true, laidLooks := .later }
def ExecCalmUptoCardSaid : Prop := Claim7.holds Tryz.pinned (.plain (OpenSpec.upto execCalmSpec)) execCalmUptoCard

/-- THE SECOND FORM's CARD OF 'aerielaw25.ExecNil'. -/
def execNilUptoCard : Claim7 := { stood := { row := execNilUptoRow, standIns := [], harness := (true, "d3ed1db08f8e7c462fcc8450ce03830a133a4ab3a25847276acd92d9595181e7"), looks := false }, kinds := [], alts := [], laidByText := true, laidKinds := [.data], laidTests := true, laidLooks := .later }
def ExecNilUptoCardSaid : Prop := Claim7.holds Tryz.pinned (.plain (OpenSpec.upto execNilSpec)) execNilUptoCard
end Rows
end Go.Proofs.YtcekfepgdfcinaaGreatDoor
