/-
  No cell of these rows narrows 'for every input' (looked for: loops, veiled, ifaces, maps, wideKeys, modest, calm, conditions, laid).
  DERIVED. THE GIVEN ROWS OF THIS SEAT. 8 by the template 'for every input the law returns true; each argument reads behind the call as it read before'; 0 by the template 'total and deterministic' (their statements: YtlfjnkobnkfioaaTotals.lean).
  GIVEN WITH THE SEED: the statements are not yours to turn. If you find one false, say at which input.
  Laid BY PROGRAM, IN A SANDBOX (cutbox-rows.mjs): the forced cells as the released guide's own fill.sh prints them over the translation 33740a32b9c3e0ed… (all of the seat's roots in one cut). By AI agents, Wed Nov 11 2026. No macro, syntax, notation, axiom, sorry.
-/
import Derived.Test.YtlfjnkobnkfioaaChecked
import GoSem.Claim
import GoSem.ClaimJoined
import GoSem.ClaimMapViews
import Derived.JoinedTies
import Derived.KernelRfl
namespace Go.Proofs.Ytlfjnkobnkfioaa
/- THE CELL 'sum', in the pinned program and in every row, IS THE sha256 OF THE DUMP (.gsa) THAT YtlfjnkobnkfioaaProg.lean LOADS. Nothing in Lean hashes anything: it is a label: what it is worth is what the hold of that sum in a sandbox is worth. -/
noncomputable def Try.pinned : Pinned := { name := "ytlfjnkobnkfioaa", sum := "33740a32b9c3e0ed45e43b3d78303b876d79c310674995c029802accad4f077f", checked := Try.checked }
namespace Rows
def none {H : Type} : Left H := { results := [], args := [] }

/-- 'aerielaw16.MonitorArgs': WHATEVER THE INPUT: true; the input reads as it did. -/
def monitorArgsSpec : ChangeSpec := { name := "monitorArgs", fn := fun _ => fun
  | [d1, d2, d3] => { results := [.lit (.bool true)], args := [d1, d2, d3] }
  | _ => none }
def monitorArgsRow : OpenClaim := { program := "ytlfjnkobnkfioaa", sum := "33740a32b9c3e0ed45e43b3d78303b876d79c310674995c029802accad4f077f", func := "aerie/aerielaw16.MonitorArgs", spec := "monitorArgs", apart := false }
def MonitorArgsSaid : Prop := monitorArgsRow.holds Try.pinned (OpenSpec.ofChange monitorArgsSpec)

/-- ITS FALSE NEIGHBOUR: 'it returns false'. Refute it at one input. -/
def monitorArgsWrong : ChangeSpec := { name := "monitorArgs", fn := fun _ => fun
  | [d1, d2, d3] => { results := [.lit (.bool false)], args := [d1, d2, d3] }
  | _ => none }
def MonitorArgsWrongFalsely : Prop := monitorArgsRow.holds Try.pinned (OpenSpec.ofChange monitorArgsWrong)

/-- 'aerielaw16.MonitorFilters': WHATEVER THE INPUT: true; the input reads as it did. -/
def monitorFiltersSpec : ChangeSpec := { name := "monitorFilters", fn := fun _ => fun
  | [d1, d2, d3, d4] => { results := [.lit (.bool true)], args := [d1, d2, d3, d4] }
  | _ => none }
def monitorFiltersRow : OpenClaim := { program := "ytlfjnkobnkfioaa", sum := "33740a32b9c3e0ed45e43b3d78303b876d79c310674995c029802accad4f077f", func := "aerie/aerielaw16.MonitorFilters", spec := "monitorFilters", apart := false }
def MonitorFiltersSaid : Prop := monitorFiltersRow.holds Try.pinned (OpenSpec.ofChange monitorFiltersSpec)

/-- ITS FALSE NEIGHBOUR: 'it returns false'. Refute it at one input. -/
def monitorFiltersWrong : ChangeSpec := { name := "monitorFilters", fn := fun _ => fun
  | [d1, d2, d3, d4] => { results := [.lit (.bool false)], args := [d1, d2, d3, d4] }
  | _ => none }
def MonitorFiltersWrongFalsely : Prop := monitorFiltersRow.holds Try.pinned (OpenSpec.ofChange monitorFiltersWrong)

/-- 'aerielaw16.MonitorSleeps': WHATEVER THE INPUT: true; the input reads as it did. -/
def monitorSleepsSpec : ChangeSpec := { name := "monitorSleeps", fn := fun _ => fun
  | [d1, d2] => { results := [.lit (.bool true)], args := [d1, d2] }
  | _ => none }
def monitorSleepsRow : OpenClaim := { program := "ytlfjnkobnkfioaa", sum := "33740a32b9c3e0ed45e43b3d78303b876d79c310674995c029802accad4f077f", func := "aerie/aerielaw16.MonitorSleeps", spec := "monitorSleeps", apart := false }
def MonitorSleepsSaid : Prop := monitorSleepsRow.holds Try.pinned (OpenSpec.ofChange monitorSleepsSpec)

/-- ITS FALSE NEIGHBOUR: 'it returns false'. Refute it at one input. -/
def monitorSleepsWrong : ChangeSpec := { name := "monitorSleeps", fn := fun _ => fun
  | [d1, d2] => { results := [.lit (.bool false)], args := [d1, d2] }
  | _ => none }
def MonitorSleepsWrongFalsely : Prop := monitorSleepsRow.holds Try.pinned (OpenSpec.ofChange monitorSleepsWrong)

/-- 'aerielaw27.PlanOnce': WHATEVER THE INPUT: true; the input reads as it did. -/
def planOnceSpec : ChangeSpec := { name := "planOnce", fn := fun _ => fun
  | [d1, d2] => { results := [.lit (.bool true)], args := [d1, d2] }
  | _ => none }
def planOnceRow : OpenClaim := { program := "ytlfjnkobnkfioaa", sum := "33740a32b9c3e0ed45e43b3d78303b876d79c310674995c029802accad4f077f", func := "aerie/aerielaw27.PlanOnce", spec := "planOnce", inPlace := ["slices.overlaps[aerie/plan.Item]"], unfollowed := true, recurses := true, apart := false }
def PlanOnceSaid : Prop := planOnceRow.holds Try.pinned (OpenSpec.ofChange planOnceSpec)

/-- ITS FALSE NEIGHBOUR: 'it returns false'. Refute it at one input. -/
def planOnceWrong : ChangeSpec := { name := "planOnce", fn := fun _ => fun
  | [d1, d2] => { results := [.lit (.bool false)], args := [d1, d2] }
  | _ => none }
def PlanOnceWrongFalsely : Prop := planOnceRow.holds Try.pinned (OpenSpec.ofChange planOnceWrong)

/-- 'aerielaw27.PlanFull': WHATEVER THE INPUT: true; the input reads as it did. -/
def planFullSpec : ChangeSpec := { name := "planFull", fn := fun _ => fun
  | [d1, d2, d3] => { results := [.lit (.bool true)], args := [d1, d2, d3] }
  | _ => none }
def planFullRow : OpenClaim := { program := "ytlfjnkobnkfioaa", sum := "33740a32b9c3e0ed45e43b3d78303b876d79c310674995c029802accad4f077f", func := "aerie/aerielaw27.PlanFull", spec := "planFull", inPlace := ["slices.overlaps[aerie/plan.Item]"], unfollowed := true, recurses := true, apart := false }
def PlanFullSaid : Prop := planFullRow.holds Try.pinned (OpenSpec.ofChange planFullSpec)

/-- ITS FALSE NEIGHBOUR: 'it returns false'. Refute it at one input. -/
def planFullWrong : ChangeSpec := { name := "planFull", fn := fun _ => fun
  | [d1, d2, d3] => { results := [.lit (.bool false)], args := [d1, d2, d3] }
  | _ => none }
def PlanFullWrongFalsely : Prop := planFullRow.holds Try.pinned (OpenSpec.ofChange planFullWrong)

/-- 'aerielaw27.PlanShifts': WHATEVER THE INPUT: true; the input reads as it did. -/
def planShiftsSpec : ChangeSpec := { name := "planShifts", fn := fun _ => fun
  | [d1, d2, d3, d4] => { results := [.lit (.bool true)], args := [d1, d2, d3, d4] }
  | _ => none }
def planShiftsRow : OpenClaim := { program := "ytlfjnkobnkfioaa", sum := "33740a32b9c3e0ed45e43b3d78303b876d79c310674995c029802accad4f077f", func := "aerie/aerielaw27.PlanShifts", spec := "planShifts", inPlace := ["slices.overlaps[aerie/plan.Item]"], unfollowed := true, recurses := true, apart := false }
def PlanShiftsSaid : Prop := planShiftsRow.holds Try.pinned (OpenSpec.ofChange planShiftsSpec)

/-- ITS FALSE NEIGHBOUR: 'it returns false'. Refute it at one input. -/
def planShiftsWrong : ChangeSpec := { name := "planShifts", fn := fun _ => fun
  | [d1, d2, d3, d4] => { results := [.lit (.bool false)], args := [d1, d2, d3, d4] }
  | _ => none }
def PlanShiftsWrongFalsely : Prop := planShiftsRow.holds Try.pinned (OpenSpec.ofChange planShiftsWrong)

/-- 'aerielaw27.PlanPlays': WHATEVER THE INPUT: true; the input reads as it did. -/
def planPlaysSpec : ChangeSpec := { name := "planPlays", fn := fun _ => fun
  | [d1, d2, d3] => { results := [.lit (.bool true)], args := [d1, d2, d3] }
  | _ => none }
def planPlaysRow : OpenClaim := { program := "ytlfjnkobnkfioaa", sum := "33740a32b9c3e0ed45e43b3d78303b876d79c310674995c029802accad4f077f", func := "aerie/aerielaw27.PlanPlays", spec := "planPlays", inPlace := ["slices.overlaps[aerie/plan.Item]"], unfollowed := true, recurses := true, apart := false }
def PlanPlaysSaid : Prop := planPlaysRow.holds Try.pinned (OpenSpec.ofChange planPlaysSpec)

/-- ITS FALSE NEIGHBOUR: 'it returns false'. Refute it at one input. -/
def planPlaysWrong : ChangeSpec := { name := "planPlays", fn := fun _ => fun
  | [d1, d2, d3] => { results := [.lit (.bool false)], args := [d1, d2, d3] }
  | _ => none }
def PlanPlaysWrongFalsely : Prop := planPlaysRow.holds Try.pinned (OpenSpec.ofChange planPlaysWrong)

/-- 'aerielaw27.PlanOwns': WHATEVER THE INPUT: true; the input reads as it did. -/
def planOwnsSpec : ChangeSpec := { name := "planOwns", fn := fun _ => fun
  | [d1, d2] => { results := [.lit (.bool true)], args := [d1, d2] }
  | _ => none }
def planOwnsRow : OpenClaim := { program := "ytlfjnkobnkfioaa", sum := "33740a32b9c3e0ed45e43b3d78303b876d79c310674995c029802accad4f077f", func := "aerie/aerielaw27.PlanOwns", spec := "planOwns", inPlace := ["slices.overlaps[aerie/plan.Item]"], unfollowed := true, recurses := true, apart := false }
def PlanOwnsSaid : Prop := planOwnsRow.holds Try.pinned (OpenSpec.ofChange planOwnsSpec)

/-- ITS FALSE NEIGHBOUR: 'it returns false'. Refute it at one input. -/
def planOwnsWrong : ChangeSpec := { name := "planOwns", fn := fun _ => fun
  | [d1, d2] => { results := [.lit (.bool false)], args := [d1, d2] }
  | _ => none }
def PlanOwnsWrongFalsely : Prop := planOwnsRow.holds Try.pinned (OpenSpec.ofChange planOwnsWrong)

/- THE SECOND FORM. 'bulk': how many values and letters a reading holds, each counted each time it is reached (what is shared counts as often as it is met; a slice's spare places count too). A statement '..UptoSaid' is the law's where the arguments, and the package variables that the reading takes, are together of bulk at most 1048576: NARROWER than '..Said'. Prove '..Said' where nothing that the law and all that it calls make is longer than what came in: it says more and counts as full. Else prove '..UptoSaid'. A law counts once. -/
mutual
def uptoBulk {H : Type} : DataW H → Nat
  | .lit (.string bytes) => bytes.length + 1
  | .lit _ => 1
  | .nil => 1
  | .ptr d => uptoBulk d + 1
  | .slice elems spare => uptoBulkAll elems + uptoBulkAll spare + 1
  | .agg parts => uptoBulkAll parts + 1
  | .iface _ d => uptoBulk d + 1
  | .map entries => uptoBulkEntries entries + 1
  | .held _ => 1
def uptoBulkAll {H : Type} : List (DataW H) → Nat
  | [] => 0
  | d :: r => uptoBulk d + uptoBulkAll r
def uptoBulkEntries {H : Type} : List (Lit × DataW H) → Nat
  | [] => 0
  | x :: r => uptoBulkEntry x + uptoBulkEntries r
def uptoBulkEntry {H : Type} : Lit × DataW H → Nat
  | (.string bytes, d) => bytes.length + uptoBulk d + 1
  | (_, d) => uptoBulk d + 1
 end
def uptoSmall : (H : Type) → List (DataW H) → Bool := fun _ ds => decide (uptoBulkAll ds ≤ 1048576)
def OpenSpec.upto (s : _root_.Go.ChangeSpec) : _root_.Go.OpenSpec := { _root_.Go.OpenSpec.ofChange s with cond := some uptoSmall }

/-- 'aerielaw16.MonitorArgs', WHERE WHAT IT READS IS OF BULK AT MOST 1048576: true; the input reads as it did. -/
def monitorArgsUptoRow : OpenClaim := { program := "ytlfjnkobnkfioaa", sum := "33740a32b9c3e0ed45e43b3d78303b876d79c310674995c029802accad4f077f", func := "aerie/aerielaw16.MonitorArgs", spec := "monitorArgs", apart := false, narrowed := true }
def MonitorArgsUptoSaid : Prop := monitorArgsUptoRow.holds Try.pinned (OpenSpec.upto monitorArgsSpec)

/-- 'aerielaw16.MonitorFilters', WHERE WHAT IT READS IS OF BULK AT MOST 1048576: true; the input reads as it did. -/
def monitorFiltersUptoRow : OpenClaim := { program := "ytlfjnkobnkfioaa", sum := "33740a32b9c3e0ed45e43b3d78303b876d79c310674995c029802accad4f077f", func := "aerie/aerielaw16.MonitorFilters", spec := "monitorFilters", apart := false, narrowed := true }
def MonitorFiltersUptoSaid : Prop := monitorFiltersUptoRow.holds Try.pinned (OpenSpec.upto monitorFiltersSpec)

/-- 'aerielaw16.MonitorSleeps', WHERE WHAT IT READS IS OF BULK AT MOST 1048576: true; the input reads as it did. -/
def monitorSleepsUptoRow : OpenClaim := { program := "ytlfjnkobnkfioaa", sum := "33740a32b9c3e0ed45e43b3d78303b876d79c310674995c029802accad4f077f", func := "aerie/aerielaw16.MonitorSleeps", spec := "monitorSleeps", apart := false, narrowed := true }
def MonitorSleepsUptoSaid : Prop := monitorSleepsUptoRow.holds Try.pinned (OpenSpec.upto monitorSleepsSpec)

/-- 'aerielaw27.PlanOnce', WHERE WHAT IT READS IS OF BULK AT MOST 1048576: true; the input reads as it did. -/
def planOnceUptoRow : OpenClaim := { program := "ytlfjnkobnkfioaa", sum := "33740a32b9c3e0ed45e43b3d78303b876d79c310674995c029802accad4f077f", func := "aerie/aerielaw27.PlanOnce", spec := "planOnce", inPlace := ["slices.overlaps[aerie/plan.Item]"], unfollowed := true, recurses := true, apart := false, narrowed := true }
def PlanOnceUptoSaid : Prop := planOnceUptoRow.holds Try.pinned (OpenSpec.upto planOnceSpec)

/-- 'aerielaw27.PlanFull', WHERE WHAT IT READS IS OF BULK AT MOST 1048576: true; the input reads as it did. -/
def planFullUptoRow : OpenClaim := { program := "ytlfjnkobnkfioaa", sum := "33740a32b9c3e0ed45e43b3d78303b876d79c310674995c029802accad4f077f", func := "aerie/aerielaw27.PlanFull", spec := "planFull", inPlace := ["slices.overlaps[aerie/plan.Item]"], unfollowed := true, recurses := true, apart := false, narrowed := true }
def PlanFullUptoSaid : Prop := planFullUptoRow.holds Try.pinned (OpenSpec.upto planFullSpec)

/-- 'aerielaw27.PlanShifts', WHERE WHAT IT READS IS OF BULK AT MOST 1048576: true; the input reads as it did. -/
def planShiftsUptoRow : OpenClaim := { program := "ytlfjnkobnkfioaa", sum := "33740a32b9c3e0ed45e43b3d78303b876d79c310674995c029802accad4f077f", func := "aerie/aerielaw27.PlanShifts", spec := "planShifts", inPlace := ["slices.overlaps[aerie/plan.Item]"], unfollowed := true, recurses := true, apart := false, narrowed := true }
def PlanShiftsUptoSaid : Prop := planShiftsUptoRow.holds Try.pinned (OpenSpec.upto planShiftsSpec)

/-- 'aerielaw27.PlanPlays', WHERE WHAT IT READS IS OF BULK AT MOST 1048576: true; the input reads as it did. -/
def planPlaysUptoRow : OpenClaim := { program := "ytlfjnkobnkfioaa", sum := "33740a32b9c3e0ed45e43b3d78303b876d79c310674995c029802accad4f077f", func := "aerie/aerielaw27.PlanPlays", spec := "planPlays", inPlace := ["slices.overlaps[aerie/plan.Item]"], unfollowed := true, recurses := true, apart := false, narrowed := true }
def PlanPlaysUptoSaid : Prop := planPlaysUptoRow.holds Try.pinned (OpenSpec.upto planPlaysSpec)

/-- 'aerielaw27.PlanOwns', WHERE WHAT IT READS IS OF BULK AT MOST 1048576: true; the input reads as it did. -/
def planOwnsUptoRow : OpenClaim := { program := "ytlfjnkobnkfioaa", sum := "33740a32b9c3e0ed45e43b3d78303b876d79c310674995c029802accad4f077f", func := "aerie/aerielaw27.PlanOwns", spec := "planOwns", inPlace := ["slices.overlaps[aerie/plan.Item]"], unfollowed := true, recurses := true, apart := false, narrowed := true }
def PlanOwnsUptoSaid : Prop := planOwnsUptoRow.holds Try.pinned (OpenSpec.upto planOwnsSpec)

end Rows
end Go.Proofs.Ytlfjnkobnkfioaa
