/-
  NARROWER THAN 'FOR EVERY INPUT', by the rows' own cells (each row's printed sentence says how): FdirClimbs: laid · UnitBounds: laid · UnitQuiet: laid · FdirRests: laid · FdirRaises: laid · UnitPlays: laid · ModeSteps: laid · FdirPicks: laid.
  DERIVED. THE GIVEN ROWS OF THIS SEAT. 8 by the template 'for every input the law returns true; each argument reads behind the call as it read before'; 0 by the template 'total and deterministic' (their statements: YtklbonfbiakebaaDoorTotals.lean).
  GIVEN WITH THE SEED: the statements are not yours to turn. If you find one false, say at which input.
  Laid BY PROGRAM, IN A SANDBOX (cutbox-rows.mjs): the forced cells as the released guide's own fill.sh prints them over the translation 398b44b80c42d4ce… (all of the seat's roots in one cut). By AI agents, Wed Nov 11 2026. No macro, syntax, notation, axiom, sorry.
-/
import Derived.Test.YtklbonfbiakebaaDoorChecked
import GoSem.Claim
import GoSem.ClaimJoined
import GoSem.ClaimMapViews
import Derived.JoinedTies
import Derived.KernelRfl
namespace Go.Proofs.YtklbonfbiakebaaDoor
/- THE CELL 'sum', in the pinned program and in every row, IS THE sha256 OF THE DUMP (.gsa) THAT YtklbonfbiakebaaDoorProg.lean LOADS. Nothing in Lean hashes anything: it is a label: what it is worth is what the hold of that sum in a sandbox is worth. -/
noncomputable def Tryd.pinned : Pinned := { name := "ytklbonfbiakebaadoor", sum := "398b44b80c42d4ce5cd5a4860614214768d3a0ff457866ad6bc15ea0bd7bd652", checked := Tryd.checked }
namespace Rows
def none {H : Type} : Left H := { results := [], args := [] }

/- WHAT THE LISTED PACKAGE-LEVEL VARIABLES READ AS WHEN THE CALL BEGINS. Each datum BY PROGRAM (the guide's laid-datum.mjs) off the statement by which the dump's own 'gosem.cut.vars' lays the variable. In a bare row this is a premise. The card (YtklbonfbiakebaaDoorCards.lean) ties it to the program's text. -/
def laid_unicode_White_Space {H : Type} : DataW H := .ptr (.agg [.slice [.agg [.lit (.int .u16 9), .lit (.int .u16 13), .lit (.int .u16 1)], .agg [.lit (.int .u16 32), .lit (.int .u16 133), .lit (.int .u16 101)], .agg [.lit (.int .u16 160), .lit (.int .u16 5760), .lit (.int .u16 5600)], .agg [.lit (.int .u16 8192), .lit (.int .u16 8202), .lit (.int .u16 1)], .agg [.lit (.int .u16 8232), .lit (.int .u16 8233), .lit (.int .u16 1)], .agg [.lit (.int .u16 8239), .lit (.int .u16 8287), .lit (.int .u16 48)], .agg [.lit (.int .u16 12288), .lit (.int .u16 12288), .lit (.int .u16 1)]] [], .nil, .lit (.int .i64 2)])
def laid_strings_asciiSpace {H : Type} : DataW H := .agg [.lit (.int .u8 0), .lit (.int .u8 0), .lit (.int .u8 0), .lit (.int .u8 0), .lit (.int .u8 0), .lit (.int .u8 0), .lit (.int .u8 0), .lit (.int .u8 0), .lit (.int .u8 0), .lit (.int .u8 1), .lit (.int .u8 1), .lit (.int .u8 1), .lit (.int .u8 1), .lit (.int .u8 1), .lit (.int .u8 0), .lit (.int .u8 0), .lit (.int .u8 0), .lit (.int .u8 0), .lit (.int .u8 0), .lit (.int .u8 0), .lit (.int .u8 0), .lit (.int .u8 0), .lit (.int .u8 0), .lit (.int .u8 0), .lit (.int .u8 0), .lit (.int .u8 0), .lit (.int .u8 0), .lit (.int .u8 0), .lit (.int .u8 0), .lit (.int .u8 0), .lit (.int .u8 0), .lit (.int .u8 0), .lit (.int .u8 1), .lit (.int .u8 0), .lit (.int .u8 0), .lit (.int .u8 0), .lit (.int .u8 0), .lit (.int .u8 0), .lit (.int .u8 0), .lit (.int .u8 0), .lit (.int .u8 0), .lit (.int .u8 0), .lit (.int .u8 0), .lit (.int .u8 0), .lit (.int .u8 0), .lit (.int .u8 0), .lit (.int .u8 0), .lit (.int .u8 0), .lit (.int .u8 0), .lit (.int .u8 0), .lit (.int .u8 0), .lit (.int .u8 0), .lit (.int .u8 0), .lit (.int .u8 0), .lit (.int .u8 0), .lit (.int .u8 0), .lit (.int .u8 0), .lit (.int .u8 0), .lit (.int .u8 0), .lit (.int .u8 0), .lit (.int .u8 0), .lit (.int .u8 0), .lit (.int .u8 0), .lit (.int .u8 0), .lit (.int .u8 0), .lit (.int .u8 0), .lit (.int .u8 0), .lit (.int .u8 0), .lit (.int .u8 0), .lit (.int .u8 0), .lit (.int .u8 0), .lit (.int .u8 0), .lit (.int .u8 0), .lit (.int .u8 0), .lit (.int .u8 0), .lit (.int .u8 0), .lit (.int .u8 0), .lit (.int .u8 0), .lit (.int .u8 0), .lit (.int .u8 0), .lit (.int .u8 0), .lit (.int .u8 0), .lit (.int .u8 0), .lit (.int .u8 0), .lit (.int .u8 0), .lit (.int .u8 0), .lit (.int .u8 0), .lit (.int .u8 0), .lit (.int .u8 0), .lit (.int .u8 0), .lit (.int .u8 0), .lit (.int .u8 0), .lit (.int .u8 0), .lit (.int .u8 0), .lit (.int .u8 0), .lit (.int .u8 0), .lit (.int .u8 0), .lit (.int .u8 0), .lit (.int .u8 0), .lit (.int .u8 0), .lit (.int .u8 0), .lit (.int .u8 0), .lit (.int .u8 0), .lit (.int .u8 0), .lit (.int .u8 0), .lit (.int .u8 0), .lit (.int .u8 0), .lit (.int .u8 0), .lit (.int .u8 0), .lit (.int .u8 0), .lit (.int .u8 0), .lit (.int .u8 0), .lit (.int .u8 0), .lit (.int .u8 0), .lit (.int .u8 0), .lit (.int .u8 0), .lit (.int .u8 0), .lit (.int .u8 0), .lit (.int .u8 0), .lit (.int .u8 0), .lit (.int .u8 0), .lit (.int .u8 0), .lit (.int .u8 0), .lit (.int .u8 0), .lit (.int .u8 0), .lit (.int .u8 0), .lit (.int .u8 0), .lit (.int .u8 0), .lit (.int .u8 0), .lit (.int .u8 0), .lit (.int .u8 0), .lit (.int .u8 0), .lit (.int .u8 0), .lit (.int .u8 0), .lit (.int .u8 0), .lit (.int .u8 0), .lit (.int .u8 0), .lit (.int .u8 0), .lit (.int .u8 0), .lit (.int .u8 0), .lit (.int .u8 0), .lit (.int .u8 0), .lit (.int .u8 0), .lit (.int .u8 0), .lit (.int .u8 0), .lit (.int .u8 0), .lit (.int .u8 0), .lit (.int .u8 0), .lit (.int .u8 0), .lit (.int .u8 0), .lit (.int .u8 0), .lit (.int .u8 0), .lit (.int .u8 0), .lit (.int .u8 0), .lit (.int .u8 0), .lit (.int .u8 0), .lit (.int .u8 0), .lit (.int .u8 0), .lit (.int .u8 0), .lit (.int .u8 0), .lit (.int .u8 0), .lit (.int .u8 0), .lit (.int .u8 0), .lit (.int .u8 0), .lit (.int .u8 0), .lit (.int .u8 0), .lit (.int .u8 0), .lit (.int .u8 0), .lit (.int .u8 0), .lit (.int .u8 0), .lit (.int .u8 0), .lit (.int .u8 0), .lit (.int .u8 0), .lit (.int .u8 0), .lit (.int .u8 0), .lit (.int .u8 0), .lit (.int .u8 0), .lit (.int .u8 0), .lit (.int .u8 0), .lit (.int .u8 0), .lit (.int .u8 0), .lit (.int .u8 0), .lit (.int .u8 0), .lit (.int .u8 0), .lit (.int .u8 0), .lit (.int .u8 0), .lit (.int .u8 0), .lit (.int .u8 0), .lit (.int .u8 0), .lit (.int .u8 0), .lit (.int .u8 0), .lit (.int .u8 0), .lit (.int .u8 0), .lit (.int .u8 0), .lit (.int .u8 0), .lit (.int .u8 0), .lit (.int .u8 0), .lit (.int .u8 0), .lit (.int .u8 0), .lit (.int .u8 0), .lit (.int .u8 0), .lit (.int .u8 0), .lit (.int .u8 0), .lit (.int .u8 0), .lit (.int .u8 0), .lit (.int .u8 0), .lit (.int .u8 0), .lit (.int .u8 0), .lit (.int .u8 0), .lit (.int .u8 0), .lit (.int .u8 0), .lit (.int .u8 0), .lit (.int .u8 0), .lit (.int .u8 0), .lit (.int .u8 0), .lit (.int .u8 0), .lit (.int .u8 0), .lit (.int .u8 0), .lit (.int .u8 0), .lit (.int .u8 0), .lit (.int .u8 0), .lit (.int .u8 0), .lit (.int .u8 0), .lit (.int .u8 0), .lit (.int .u8 0), .lit (.int .u8 0), .lit (.int .u8 0), .lit (.int .u8 0), .lit (.int .u8 0), .lit (.int .u8 0), .lit (.int .u8 0), .lit (.int .u8 0), .lit (.int .u8 0), .lit (.int .u8 0), .lit (.int .u8 0), .lit (.int .u8 0), .lit (.int .u8 0), .lit (.int .u8 0), .lit (.int .u8 0), .lit (.int .u8 0), .lit (.int .u8 0), .lit (.int .u8 0), .lit (.int .u8 0), .lit (.int .u8 0), .lit (.int .u8 0), .lit (.int .u8 0), .lit (.int .u8 0), .lit (.int .u8 0), .lit (.int .u8 0), .lit (.int .u8 0), .lit (.int .u8 0), .lit (.int .u8 0), .lit (.int .u8 0), .lit (.int .u8 0), .lit (.int .u8 0), .lit (.int .u8 0)]

/-- 'aerielaw22.FdirClimbs': WHATEVER THE INPUT: true; the input reads as it did. -/
def fdirClimbsSpec : ChangeSpec := { name := "fdirClimbs", fn := fun _ => fun
  | [d1, d2, d3, d4] => { results := [.lit (.bool true)], args := [d1, d2, d3, d4] }
  | _ => none }
def fdirClimbsRow : OpenClaim := { program := "ytklbonfbiakebaadoor", sum := "398b44b80c42d4ce5cd5a4860614214768d3a0ff457866ad6bc15ea0bd7bd652", func := "aerie/aerielaw22.FdirClimbs", spec := "fdirClimbs", unfollowed := true, recurses := true, named := ["strings.asciiSpace", "unicode.White_Space"], apart := false, laid := [("unicode.White_Space", laid_unicode_White_Space), ("strings.asciiSpace", laid_strings_asciiSpace)] }
def FdirClimbsSaid : Prop := fdirClimbsRow.holds Tryd.pinned (OpenSpec.ofChange fdirClimbsSpec)

/-- ITS FALSE NEIGHBOUR: 'it returns false'. Refute it at one input. -/
def fdirClimbsWrong : ChangeSpec := { name := "fdirClimbs", fn := fun _ => fun
  | [d1, d2, d3, d4] => { results := [.lit (.bool false)], args := [d1, d2, d3, d4] }
  | _ => none }
def FdirClimbsWrongFalsely : Prop := fdirClimbsRow.holds Tryd.pinned (OpenSpec.ofChange fdirClimbsWrong)

/-- 'aerielaw13.UnitBounds': WHATEVER THE INPUT: true; the input reads as it did. -/
def unitBoundsSpec : ChangeSpec := { name := "unitBounds", fn := fun _ => fun
  | [d1, d2, d3] => { results := [.lit (.bool true)], args := [d1, d2, d3] }
  | _ => none }
def unitBoundsRow : OpenClaim := { program := "ytklbonfbiakebaadoor", sum := "398b44b80c42d4ce5cd5a4860614214768d3a0ff457866ad6bc15ea0bd7bd652", func := "aerie/aerielaw13.UnitBounds", spec := "unitBounds", unfollowed := true, recurses := true, named := ["strings.asciiSpace", "unicode.White_Space"], apart := false, laid := [("unicode.White_Space", laid_unicode_White_Space), ("strings.asciiSpace", laid_strings_asciiSpace)] }
def UnitBoundsSaid : Prop := unitBoundsRow.holds Tryd.pinned (OpenSpec.ofChange unitBoundsSpec)

/-- ITS FALSE NEIGHBOUR: 'it returns false'. Refute it at one input. -/
def unitBoundsWrong : ChangeSpec := { name := "unitBounds", fn := fun _ => fun
  | [d1, d2, d3] => { results := [.lit (.bool false)], args := [d1, d2, d3] }
  | _ => none }
def UnitBoundsWrongFalsely : Prop := unitBoundsRow.holds Tryd.pinned (OpenSpec.ofChange unitBoundsWrong)

/-- 'aerielaw13.UnitQuiet': WHATEVER THE INPUT: true; the input reads as it did. -/
def unitQuietSpec : ChangeSpec := { name := "unitQuiet", fn := fun _ => fun
  | [d1, d2] => { results := [.lit (.bool true)], args := [d1, d2] }
  | _ => none }
def unitQuietRow : OpenClaim := { program := "ytklbonfbiakebaadoor", sum := "398b44b80c42d4ce5cd5a4860614214768d3a0ff457866ad6bc15ea0bd7bd652", func := "aerie/aerielaw13.UnitQuiet", spec := "unitQuiet", unfollowed := true, recurses := true, named := ["strings.asciiSpace", "unicode.White_Space"], apart := false, laid := [("unicode.White_Space", laid_unicode_White_Space), ("strings.asciiSpace", laid_strings_asciiSpace)] }
def UnitQuietSaid : Prop := unitQuietRow.holds Tryd.pinned (OpenSpec.ofChange unitQuietSpec)

/-- ITS FALSE NEIGHBOUR: 'it returns false'. Refute it at one input. -/
def unitQuietWrong : ChangeSpec := { name := "unitQuiet", fn := fun _ => fun
  | [d1, d2] => { results := [.lit (.bool false)], args := [d1, d2] }
  | _ => none }
def UnitQuietWrongFalsely : Prop := unitQuietRow.holds Tryd.pinned (OpenSpec.ofChange unitQuietWrong)

/-- 'aerielaw22.FdirRests': WHATEVER THE INPUT: true; the input reads as it did. -/
def fdirRestsSpec : ChangeSpec := { name := "fdirRests", fn := fun _ => fun
  | [d1, d2, d3] => { results := [.lit (.bool true)], args := [d1, d2, d3] }
  | _ => none }
def fdirRestsRow : OpenClaim := { program := "ytklbonfbiakebaadoor", sum := "398b44b80c42d4ce5cd5a4860614214768d3a0ff457866ad6bc15ea0bd7bd652", func := "aerie/aerielaw22.FdirRests", spec := "fdirRests", unfollowed := true, recurses := true, named := ["strings.asciiSpace", "unicode.White_Space"], apart := false, laid := [("unicode.White_Space", laid_unicode_White_Space), ("strings.asciiSpace", laid_strings_asciiSpace)] }
def FdirRestsSaid : Prop := fdirRestsRow.holds Tryd.pinned (OpenSpec.ofChange fdirRestsSpec)

/-- ITS FALSE NEIGHBOUR: 'it returns false'. Refute it at one input. -/
def fdirRestsWrong : ChangeSpec := { name := "fdirRests", fn := fun _ => fun
  | [d1, d2, d3] => { results := [.lit (.bool false)], args := [d1, d2, d3] }
  | _ => none }
def FdirRestsWrongFalsely : Prop := fdirRestsRow.holds Tryd.pinned (OpenSpec.ofChange fdirRestsWrong)

/-- 'aerielaw22.FdirRaises': WHATEVER THE INPUT: true; the input reads as it did. -/
def fdirRaisesSpec : ChangeSpec := { name := "fdirRaises", fn := fun _ => fun
  | [d1, d2, d3, d4] => { results := [.lit (.bool true)], args := [d1, d2, d3, d4] }
  | _ => none }
def fdirRaisesRow : OpenClaim := { program := "ytklbonfbiakebaadoor", sum := "398b44b80c42d4ce5cd5a4860614214768d3a0ff457866ad6bc15ea0bd7bd652", func := "aerie/aerielaw22.FdirRaises", spec := "fdirRaises", unfollowed := true, recurses := true, named := ["strings.asciiSpace", "unicode.White_Space"], apart := false, laid := [("unicode.White_Space", laid_unicode_White_Space), ("strings.asciiSpace", laid_strings_asciiSpace)] }
def FdirRaisesSaid : Prop := fdirRaisesRow.holds Tryd.pinned (OpenSpec.ofChange fdirRaisesSpec)

/-- ITS FALSE NEIGHBOUR: 'it returns false'. Refute it at one input. -/
def fdirRaisesWrong : ChangeSpec := { name := "fdirRaises", fn := fun _ => fun
  | [d1, d2, d3, d4] => { results := [.lit (.bool false)], args := [d1, d2, d3, d4] }
  | _ => none }
def FdirRaisesWrongFalsely : Prop := fdirRaisesRow.holds Tryd.pinned (OpenSpec.ofChange fdirRaisesWrong)

/-- 'aerielaw13.UnitPlays': WHATEVER THE INPUT: true; the input reads as it did. -/
def unitPlaysSpec : ChangeSpec := { name := "unitPlays", fn := fun _ => fun
  | [d1, d2] => { results := [.lit (.bool true)], args := [d1, d2] }
  | _ => none }
def unitPlaysRow : OpenClaim := { program := "ytklbonfbiakebaadoor", sum := "398b44b80c42d4ce5cd5a4860614214768d3a0ff457866ad6bc15ea0bd7bd652", func := "aerie/aerielaw13.UnitPlays", spec := "unitPlays", unfollowed := true, recurses := true, named := ["strings.asciiSpace", "unicode.White_Space"], apart := false, laid := [("unicode.White_Space", laid_unicode_White_Space), ("strings.asciiSpace", laid_strings_asciiSpace)] }
def UnitPlaysSaid : Prop := unitPlaysRow.holds Tryd.pinned (OpenSpec.ofChange unitPlaysSpec)

/-- ITS FALSE NEIGHBOUR: 'it returns false'. Refute it at one input. -/
def unitPlaysWrong : ChangeSpec := { name := "unitPlays", fn := fun _ => fun
  | [d1, d2] => { results := [.lit (.bool false)], args := [d1, d2] }
  | _ => none }
def UnitPlaysWrongFalsely : Prop := unitPlaysRow.holds Tryd.pinned (OpenSpec.ofChange unitPlaysWrong)

/-- 'aerielaw24.ModeSteps': WHATEVER THE INPUT: true; the input reads as it did. -/
def modeStepsSpec : ChangeSpec := { name := "modeSteps", fn := fun _ => fun
  | [d1, d2, d3, d4, d5, d6] => { results := [.lit (.bool true)], args := [d1, d2, d3, d4, d5, d6] }
  | _ => none }
def modeStepsRow : OpenClaim := { program := "ytklbonfbiakebaadoor", sum := "398b44b80c42d4ce5cd5a4860614214768d3a0ff457866ad6bc15ea0bd7bd652", func := "aerie/aerielaw24.ModeSteps", spec := "modeSteps", unfollowed := true, recurses := true, named := ["strings.asciiSpace", "unicode.White_Space"], apart := false, laid := [("unicode.White_Space", laid_unicode_White_Space), ("strings.asciiSpace", laid_strings_asciiSpace)] }
def ModeStepsSaid : Prop := modeStepsRow.holds Tryd.pinned (OpenSpec.ofChange modeStepsSpec)

/-- ITS FALSE NEIGHBOUR: 'it returns false'. Refute it at one input. -/
def modeStepsWrong : ChangeSpec := { name := "modeSteps", fn := fun _ => fun
  | [d1, d2, d3, d4, d5, d6] => { results := [.lit (.bool false)], args := [d1, d2, d3, d4, d5, d6] }
  | _ => none }
def ModeStepsWrongFalsely : Prop := modeStepsRow.holds Tryd.pinned (OpenSpec.ofChange modeStepsWrong)

/-- 'aerielaw22.FdirPicks': WHATEVER THE INPUT: true; the input reads as it did. -/
def fdirPicksSpec : ChangeSpec := { name := "fdirPicks", fn := fun _ => fun
  | [d1, d2, d3] => { results := [.lit (.bool true)], args := [d1, d2, d3] }
  | _ => none }
def fdirPicksRow : OpenClaim := { program := "ytklbonfbiakebaadoor", sum := "398b44b80c42d4ce5cd5a4860614214768d3a0ff457866ad6bc15ea0bd7bd652", func := "aerie/aerielaw22.FdirPicks", spec := "fdirPicks", unfollowed := true, recurses := true, named := ["strings.asciiSpace", "unicode.White_Space"], apart := false, laid := [("unicode.White_Space", laid_unicode_White_Space), ("strings.asciiSpace", laid_strings_asciiSpace)] }
def FdirPicksSaid : Prop := fdirPicksRow.holds Tryd.pinned (OpenSpec.ofChange fdirPicksSpec)

/-- ITS FALSE NEIGHBOUR: 'it returns false'. Refute it at one input. -/
def fdirPicksWrong : ChangeSpec := { name := "fdirPicks", fn := fun _ => fun
  | [d1, d2, d3] => { results := [.lit (.bool false)], args := [d1, d2, d3] }
  | _ => none }
def FdirPicksWrongFalsely : Prop := fdirPicksRow.holds Tryd.pinned (OpenSpec.ofChange fdirPicksWrong)

/- THE SECOND FORM. 'bulk': how many values and letters a reading holds, each counted each time it is reached (what is shared counts as often as it is met; a slice's spare places count too). A statement '..UptoSaid' is the law's where the arguments, and the package variables that the reading takes, are together of bulk at most 1048576: NARROWER than '..Said'. Prove '..Said' where nothing that the law and all that it calls make is longer than what came in: it says more and counts as full. Else prove '..UptoSaid'. A law counts once. -/
mutual
def uptoBulk {H : Type} : DataW H → Nat
  | .lit (.string bytes) => bytes.length + 1
  | .lit _ => 1
  | .nil => 1
  | .ptr d => uptoBulk d + 1
  | .slice elems spare => uptoBulkAll elems + uptoBulkAll spare + 1
  | .agg parts => uptoBulkAll parts + 1
  | .iface _ d => uptoBulk d + 1
  | .map entries => uptoBulkEntries entries + 1
  | .held _ => 1
def uptoBulkAll {H : Type} : List (DataW H) → Nat
  | [] => 0
  | d :: r => uptoBulk d + uptoBulkAll r
def uptoBulkEntries {H : Type} : List (Lit × DataW H) → Nat
  | [] => 0
  | x :: r => uptoBulkEntry x + uptoBulkEntries r
def uptoBulkEntry {H : Type} : Lit × DataW H → Nat
  | (.string bytes, d) => bytes.length + uptoBulk d + 1
  | (_, d) => uptoBulk d + 1
 end
def uptoSmall : (H : Type) → List (DataW H) → Bool := fun _ ds => decide (uptoBulkAll ds ≤ 1048576)
def OpenSpec.upto (s : _root_.Go.ChangeSpec) : _root_.Go.OpenSpec := { _root_.Go.OpenSpec.ofChange s with cond := some uptoSmall }

/-- 'aerielaw22.FdirClimbs', WHERE WHAT IT READS IS OF BULK AT MOST 1048576: true; the input reads as it did. -/
def fdirClimbsUptoRow : OpenClaim := { program := "ytklbonfbiakebaadoor", sum := "398b44b80c42d4ce5cd5a4860614214768d3a0ff457866ad6bc15ea0bd7bd652", func := "aerie/aerielaw22.FdirClimbs", spec := "fdirClimbs", unfollowed := true, recurses := true, named := ["strings.asciiSpace", "unicode.White_Space"], apart := false, laid := [("unicode.White_Space", laid_unicode_White_Space), ("strings.asciiSpace", laid_strings_asciiSpace)], narrowed := true }
def FdirClimbsUptoSaid : Prop := fdirClimbsUptoRow.holds Tryd.pinned (OpenSpec.upto fdirClimbsSpec)

/-- 'aerielaw13.UnitBounds', WHERE WHAT IT READS IS OF BULK AT MOST 1048576: true; the input reads as it did. -/
def unitBoundsUptoRow : OpenClaim := { program := "ytklbonfbiakebaadoor", sum := "398b44b80c42d4ce5cd5a4860614214768d3a0ff457866ad6bc15ea0bd7bd652", func := "aerie/aerielaw13.UnitBounds", spec := "unitBounds", unfollowed := true, recurses := true, named := ["strings.asciiSpace", "unicode.White_Space"], apart := false, laid := [("unicode.White_Space", laid_unicode_White_Space), ("strings.asciiSpace", laid_strings_asciiSpace)], narrowed := true }
def UnitBoundsUptoSaid : Prop := unitBoundsUptoRow.holds Tryd.pinned (OpenSpec.upto unitBoundsSpec)

/-- 'aerielaw13.UnitQuiet', WHERE WHAT IT READS IS OF BULK AT MOST 1048576: true; the input reads as it did. -/
def unitQuietUptoRow : OpenClaim := { program := "ytklbonfbiakebaadoor", sum := "398b44b80c42d4ce5cd5a4860614214768d3a0ff457866ad6bc15ea0bd7bd652", func := "aerie/aerielaw13.UnitQuiet", spec := "unitQuiet", unfollowed := true, recurses := true, named := ["strings.asciiSpace", "unicode.White_Space"], apart := false, laid := [("unicode.White_Space", laid_unicode_White_Space), ("strings.asciiSpace", laid_strings_asciiSpace)], narrowed := true }
def UnitQuietUptoSaid : Prop := unitQuietUptoRow.holds Tryd.pinned (OpenSpec.upto unitQuietSpec)

/-- 'aerielaw22.FdirRests', WHERE WHAT IT READS IS OF BULK AT MOST 1048576: true; the input reads as it did. -/
def fdirRestsUptoRow : OpenClaim := { program := "ytklbonfbiakebaadoor", sum := "398b44b80c42d4ce5cd5a4860614214768d3a0ff457866ad6bc15ea0bd7bd652", func := "aerie/aerielaw22.FdirRests", spec := "fdirRests", unfollowed := true, recurses := true, named := ["strings.asciiSpace", "unicode.White_Space"], apart := false, laid := [("unicode.White_Space", laid_unicode_White_Space), ("strings.asciiSpace", laid_strings_asciiSpace)], narrowed := true }
def FdirRestsUptoSaid : Prop := fdirRestsUptoRow.holds Tryd.pinned (OpenSpec.upto fdirRestsSpec)

/-- 'aerielaw22.FdirRaises', WHERE WHAT IT READS IS OF BULK AT MOST 1048576: true; the input reads as it did. -/
def fdirRaisesUptoRow : OpenClaim := { program := "ytklbonfbiakebaadoor", sum := "398b44b80c42d4ce5cd5a4860614214768d3a0ff457866ad6bc15ea0bd7bd652", func := "aerie/aerielaw22.FdirRaises", spec := "fdirRaises", unfollowed := true, recurses := true, named := ["strings.asciiSpace", "unicode.White_Space"], apart := false, laid := [("unicode.White_Space", laid_unicode_White_Space), ("strings.asciiSpace", laid_strings_asciiSpace)], narrowed := true }
def FdirRaisesUptoSaid : Prop := fdirRaisesUptoRow.holds Tryd.pinned (OpenSpec.upto fdirRaisesSpec)

/-- 'aerielaw13.UnitPlays', WHERE WHAT IT READS IS OF BULK AT MOST 1048576: true; the input reads as it did. -/
def unitPlaysUptoRow : OpenClaim := { program := "ytklbonfbiakebaadoor", sum := "398b44b80c42d4ce5cd5a4860614214768d3a0ff457866ad6bc15ea0bd7bd652", func := "aerie/aerielaw13.UnitPlays", spec := "unitPlays", unfollowed := true, recurses := true, named := ["strings.asciiSpace", "unicode.White_Space"], apart := false, laid := [("unicode.White_Space", laid_unicode_White_Space), ("strings.asciiSpace", laid_strings_asciiSpace)], narrowed := true }
def UnitPlaysUptoSaid : Prop := unitPlaysUptoRow.holds Tryd.pinned (OpenSpec.upto unitPlaysSpec)

/-- 'aerielaw24.ModeSteps', WHERE WHAT IT READS IS OF BULK AT MOST 1048576: true; the input reads as it did. -/
def modeStepsUptoRow : OpenClaim := { program := "ytklbonfbiakebaadoor", sum := "398b44b80c42d4ce5cd5a4860614214768d3a0ff457866ad6bc15ea0bd7bd652", func := "aerie/aerielaw24.ModeSteps", spec := "modeSteps", unfollowed := true, recurses := true, named := ["strings.asciiSpace", "unicode.White_Space"], apart := false, laid := [("unicode.White_Space", laid_unicode_White_Space), ("strings.asciiSpace", laid_strings_asciiSpace)], narrowed := true }
def ModeStepsUptoSaid : Prop := modeStepsUptoRow.holds Tryd.pinned (OpenSpec.upto modeStepsSpec)

/-- 'aerielaw22.FdirPicks', WHERE WHAT IT READS IS OF BULK AT MOST 1048576: true; the input reads as it did. -/
def fdirPicksUptoRow : OpenClaim := { program := "ytklbonfbiakebaadoor", sum := "398b44b80c42d4ce5cd5a4860614214768d3a0ff457866ad6bc15ea0bd7bd652", func := "aerie/aerielaw22.FdirPicks", spec := "fdirPicks", unfollowed := true, recurses := true, named := ["strings.asciiSpace", "unicode.White_Space"], apart := false, laid := [("unicode.White_Space", laid_unicode_White_Space), ("strings.asciiSpace", laid_strings_asciiSpace)], narrowed := true }
def FdirPicksUptoSaid : Prop := fdirPicksUptoRow.holds Tryd.pinned (OpenSpec.upto fdirPicksSpec)

end Rows
end Go.Proofs.YtklbonfbiakebaaDoor
