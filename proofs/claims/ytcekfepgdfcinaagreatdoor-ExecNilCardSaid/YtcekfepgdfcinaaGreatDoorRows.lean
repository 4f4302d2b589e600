/-
  NARROWER THAN 'FOR EVERY INPUT', by the rows' own cells (each row's printed sentence says how): ExecRetries: laid · ExecOrders: laid · ExecHealth: laid · ExecResets: laid · ExecLogs: laid · ExecRestarts: laid · ExecCalm: laid · ExecNil: laid.
  DERIVED. THE GIVEN ROWS OF THIS SEAT. 8 by the template 'for every input the law returns true; each argument reads behind the call as it read before'; 0 by the template 'total and deterministic' (their statements: YtcekfepgdfcinaaGreatDoorTotals.lean).
  GIVEN WITH THE SEED: the statements are not yours to turn. If you find one false, say at which input.
  Laid BY PROGRAM, IN A SANDBOX (cutbox-rows.mjs): the forced cells as the released guide's own fill.sh prints them over the translation 74e72c08a9d57557… (all of the seat's roots in one cut). By AI agents, Wed Nov 11 2026. No macro, syntax, notation, axiom, sorry.
-/
import Derived.Test.YtcekfepgdfcinaaGreatDoorChecked
import GoSem.Claim
import GoSem.ClaimJoined
import GoSem.ClaimMapViews
import Derived.JoinedTies
import Derived.KernelRfl
namespace Go.Proofs.YtcekfepgdfcinaaGreatDoor
/- THE CELL 'sum', in the pinned program and in every row, IS THE sha256 OF THE DUMP (.gsa) THAT YtcekfepgdfcinaaGreatDoorProg.lean LOADS. Nothing in Lean hashes anything: it is a label: what it is worth is what the hold of that sum in a sandbox is worth. -/
noncomputable def Tryz.pinned : Pinned := { name := "ytcekfepgdfcinaagreatdoor", sum := "74e72c08a9d57557fcd033e3f1ef33da29e1d36b8160925521de569562873d65", checked := Tryz.checked }
namespace Rows
def none {H : Type} : Left H := { results := [], args := [] }

/- WHAT THE LISTED PACKAGE-LEVEL VARIABLES READ AS WHEN THE CALL BEGINS. Each datum BY PROGRAM (the guide's laid-datum.mjs) off the statement by which the dump's own 'gosem.cut.vars' lays the variable. In a bare row this is a premise. The card (YtcekfepgdfcinaaGreatDoorCards.lean) ties it to the program's text. -/
def laid_math_bits_deBruijn32tab {H : Type} : DataW H := .agg [.lit (.int .u8 0), .lit (.int .u8 1), .lit (.int .u8 28), .lit (.int .u8 2), .lit (.int .u8 29), .lit (.int .u8 14), .lit (.int .u8 24), .lit (.int .u8 3), .lit (.int .u8 30), .lit (.int .u8 22), .lit (.int .u8 20), .lit (.int .u8 15), .lit (.int .u8 25), .lit (.int .u8 17), .lit (.int .u8 4), .lit (.int .u8 8), .lit (.int .u8 31), .lit (.int .u8 27), .lit (.int .u8 13), .lit (.int .u8 23), .lit (.int .u8 21), .lit (.int .u8 19), .lit (.int .u8 16), .lit (.int .u8 7), .lit (.int .u8 26), .lit (.int .u8 12), .lit (.int .u8 18), .lit (.int .u8 6), .lit (.int .u8 11), .lit (.int .u8 5), .lit (.int .u8 10), .lit (.int .u8 9)]

/-- 'aerielaw25.ExecRetries': WHATEVER THE INPUT: true; the input reads as it did. -/
def execRetriesSpec : ChangeSpec := { name := "execRetries", fn := fun _ => fun
  | [d1, d2] => { results := [.lit (.bool true)], args := [d1, d2] }
  | _ => none }
def execRetriesRow : OpenClaim := { program := "ytcekfepgdfcinaagreatdoor", sum := "74e72c08a9d57557fcd033e3f1ef33da29e1d36b8160925521de569562873d65", func := "aerie/aerielaw25.ExecRetries", spec := "execRetries", inPlace := ["internal/bytealg.MakeNoZero"], unfollowed := true, recurses := true, named := ["math/bits.deBruijn32tab"], plainKeys := false, apart := false, laid := [("math/bits.deBruijn32tab", laid_math_bits_deBruijn32tab)] }
def ExecRetriesSaid : Prop := execRetriesRow.holds Tryz.pinned (OpenSpec.ofChange execRetriesSpec)

/-- ITS FALSE NEIGHBOUR: 'it returns false'. Refute it at one input. -/
def execRetriesWrong : ChangeSpec := { name := "execRetries", fn := fun _ => fun
  | [d1, d2] => { results := [.lit (.bool false)], args := [d1, d2] }
  | _ => none }
def ExecRetriesWrongFalsely : Prop := execRetriesRow.holds Tryz.pinned (OpenSpec.ofChange execRetriesWrong)

/-- 'aerielaw25.ExecOrders': WHATEVER THE INPUT: true; the input reads as it did. -/
def execOrdersSpec : ChangeSpec := { name := "execOrders", fn := fun _ => fun
  | [d1, d2] => { results := [.lit (.bool true)], args := [d1, d2] }
  | _ => none }
def execOrdersRow : OpenClaim := { program := "ytcekfepgdfcinaagreatdoor", sum := "74e72c08a9d57557fcd033e3f1ef33da29e1d36b8160925521de569562873d65", func := "aerie/aerielaw25.ExecOrders", spec := "execOrders", inPlace := ["internal/bytealg.MakeNoZero"], unfollowed := true, recurses := true, named := ["math/bits.deBruijn32tab"], plainKeys := false, apart := false, laid := [("math/bits.deBruijn32tab", laid_math_bits_deBruijn32tab)] }
def ExecOrdersSaid : Prop := execOrdersRow.holds Tryz.pinned (OpenSpec.ofChange execOrdersSpec)

/-- ITS FALSE NEIGHBOUR: 'it returns false'. Refute it at one input. -/
def execOrdersWrong : ChangeSpec := { name := "execOrders", fn := fun _ => fun
  | [d1, d2] => { results := [.lit (.bool false)], args := [d1, d2] }
  | _ => none }
def ExecOrdersWrongFalsely : Prop := execOrdersRow.holds Tryz.pinned (OpenSpec.ofChange execOrdersWrong)

/-- 'aerielaw25.ExecHealth': WHATEVER THE INPUT: true; the input reads as it did. -/
def execHealthSpec : ChangeSpec := { name := "execHealth", fn := fun _ => fun
  | [d1, d2] => { results := [.lit (.bool true)], args := [d1, d2] }
  | _ => none }
def execHealthRow : OpenClaim := { program := "ytcekfepgdfcinaagreatdoor", sum := "74e72c08a9d57557fcd033e3f1ef33da29e1d36b8160925521de569562873d65", func := "aerie/aerielaw25.ExecHealth", spec := "execHealth", inPlace := ["internal/bytealg.MakeNoZero"], unfollowed := true, recurses := true, named := ["math/bits.deBruijn32tab"], plainKeys := false, apart := false, laid := [("math/bits.deBruijn32tab", laid_math_bits_deBruijn32tab)] }
def ExecHealthSaid : Prop := execHealthRow.holds Tryz.pinned (OpenSpec.ofChange execHealthSpec)

/-- ITS FALSE NEIGHBOUR: 'it returns false'. Refute it at one input. -/
def execHealthWrong : ChangeSpec := { name := "execHealth", fn := fun _ => fun
  | [d1, d2] => { results := [.lit (.bool false)], args := [d1, d2] }
  | _ => none }
def ExecHealthWrongFalsely : Prop := execHealthRow.holds Tryz.pinned (OpenSpec.ofChange execHealthWrong)

/-- 'aerielaw25.ExecResets': WHATEVER THE INPUT: true; the input reads as it did. -/
def execResetsSpec : ChangeSpec := { name := "execResets", fn := fun _ => fun
  | [d1, d2, d3, d4, d5, d6] => { results := [.lit (.bool true)], args := [d1, d2, d3, d4, d5, d6] }
  | _ => none }
def execResetsRow : OpenClaim := { program := "ytcekfepgdfcinaagreatdoor", sum := "74e72c08a9d57557fcd033e3f1ef33da29e1d36b8160925521de569562873d65", func := "aerie/aerielaw25.ExecResets", spec := "execResets", inPlace := ["internal/bytealg.MakeNoZero"], unfollowed := true, recurses := true, named := ["math/bits.deBruijn32tab"], plainKeys := false, apart := false, laid := [("math/bits.deBruijn32tab", laid_math_bits_deBruijn32tab)] }
def ExecResetsSaid : Prop := execResetsRow.holds Tryz.pinned (OpenSpec.ofChange execResetsSpec)

/-- ITS FALSE NEIGHBOUR: 'it returns false'. Refute it at one input. -/
def execResetsWrong : ChangeSpec := { name := "execResets", fn := fun _ => fun
  | [d1, d2, d3, d4, d5, d6] => { results := [.lit (.bool false)], args := [d1, d2, d3, d4, d5, d6] }
  | _ => none }
def ExecResetsWrongFalsely : Prop := execResetsRow.holds Tryz.pinned (OpenSpec.ofChange execResetsWrong)

/-- 'aerielaw25.ExecLogs': WHATEVER THE INPUT: true; the input reads as it did. -/
def execLogsSpec : ChangeSpec := { name := "execLogs", fn := fun _ => fun
  | [d1, d2] => { results := [.lit (.bool true)], args := [d1, d2] }
  | _ => none }
def execLogsRow : OpenClaim := { program := "ytcekfepgdfcinaagreatdoor", sum := "74e72c08a9d57557fcd033e3f1ef33da29e1d36b8160925521de569562873d65", func := "aerie/aerielaw25.ExecLogs", spec := "execLogs", inPlace := ["internal/bytealg.MakeNoZero"], unfollowed := true, recurses := true, named := ["math/bits.deBruijn32tab"], plainKeys := false, apart := false, laid := [("math/bits.deBruijn32tab", laid_math_bits_deBruijn32tab)] }
def ExecLogsSaid : Prop := execLogsRow.holds Tryz.pinned (OpenSpec.ofChange execLogsSpec)

/-- ITS FALSE NEIGHBOUR: 'it returns false'. Refute it at one input. -/
def execLogsWrong : ChangeSpec := { name := "execLogs", fn := fun _ => fun
  | [d1, d2] => { results := [.lit (.bool false)], args := [d1, d2] }
  | _ => none }
def ExecLogsWrongFalsely : Prop := execLogsRow.holds Tryz.pinned (OpenSpec.ofChange execLogsWrong)

/-- 'aerielaw25.ExecRestarts': WHATEVER THE INPUT: true; the input reads as it did. -/
def execRestartsSpec : ChangeSpec := { name := "execRestarts", fn := fun _ => fun
  | [d1, d2] => { results := [.lit (.bool true)], args := [d1, d2] }
  | _ => none }
def execRestartsRow : OpenClaim := { program := "ytcekfepgdfcinaagreatdoor", sum := "74e72c08a9d57557fcd033e3f1ef33da29e1d36b8160925521de569562873d65", func := "aerie/aerielaw25.ExecRestarts", spec := "execRestarts", inPlace := ["internal/bytealg.MakeNoZero"], unfollowed := true, recurses := true, named := ["math/bits.deBruijn32tab"], plainKeys := false, apart := false, laid := [("math/bits.deBruijn32tab", laid_math_bits_deBruijn32tab)] }
def ExecRestartsSaid : Prop := execRestartsRow.holds Tryz.pinned (OpenSpec.ofChange execRestartsSpec)

/-- ITS FALSE NEIGHBOUR: 'it returns false'. Refute it at one input. -/
def execRestartsWrong : ChangeSpec := { name := "execRestarts", fn := fun _ => fun
  | [d1, d2] => { results := [.lit (.bool false)], args := [d1, d2] }
  | _ => none }
def ExecRestartsWrongFalsely : Prop := execRestartsRow.holds Tryz.pinned (OpenSpec.ofChange execRestartsWrong)

/-- 'aerielaw25.ExecCalm': WHATEVER THE INPUT: true; the input reads as it did. -/
def execCalmSpec : ChangeSpec := { name := "execCalm", fn := fun _ => fun
  | [d1, d2] => { results := [.lit (.bool true)], args := [d1, d2] }
  | _ => none }
def execCalmRow : OpenClaim := { program := "ytcekfepgdfcinaagreatdoor", sum := "74e72c08a9d57557fcd033e3f1ef33da29e1d36b8160925521de569562873d65", func := "aerie/aerielaw25.ExecCalm", spec := "execCalm", inPlace := ["internal/bytealg.MakeNoZero"], unfollowed := true, recurses := true, named := ["math/bits.deBruijn32tab"], plainKeys := false, apart := false, laid := [("math/bits.deBruijn32tab", laid_math_bits_deBruijn32tab)] }
def ExecCalmSaid : Prop := execCalmRow.holds Tryz.pinned (OpenSpec.ofChange execCalmSpec)

/-- ITS FALSE NEIGHBOUR: 'it returns false'. Refute it at one input. -/
def execCalmWrong : ChangeSpec := { name := "execCalm", fn := fun _ => fun
  | [d1, d2] => { results := [.lit (.bool false)], args := [d1, d2] }
  | _ => none }
def ExecCalmWrongFalsely : Prop := execCalmRow.holds Tryz.pinned (OpenSpec.ofChange execCalmWrong)

/-- 'aerielaw25.ExecNil': WHATEVER THE INPUT: true; the input reads as it did. -/
def execNilSpec : ChangeSpec := { name := "execNil", fn := fun _ => fun
  | [d1, d2] => { results := [.lit (.bool true)], args := [d1, d2] }
  | _ => none }
def execNilRow : OpenClaim := { program := "ytcekfepgdfcinaagreatdoor", sum := "74e72c08a9d57557fcd033e3f1ef33da29e1d36b8160925521de569562873d65", func := "aerie/aerielaw25.ExecNil", spec := "execNil", inPlace := ["internal/bytealg.MakeNoZero"], unfollowed := true, recurses := true, named := ["math/bits.deBruijn32tab"], plainKeys := false, apart := false, laid := [("math/bits.deBruijn32tab", laid_math_bits_deBruijn32tab)] }
def ExecNilSaid : Prop := execNilRow.holds Tryz.pinned (OpenSpec.ofChange execNilSpec)

/-- ITS FALSE NEIGHBOUR: 'it returns false'. Refute it at one input. -/
def execNilWrong : ChangeSpec := { name := "execNil", fn := fun _ => fun
  | [d1, d2] => { results := [.lit (.bool false)], args := [d1, d2] }
  | _ => none }
def ExecNilWrongFalsely : Prop := execNilRow.holds Tryz.pinned (OpenSpec.ofChange execNilWrong)

/- THE SECOND FORM. 'bulk': how many values and letters a reading holds, each counted each time it is reached (what is shared counts as often as it is met; a slice's spare places count too). A statement '..UptoSaid' is the law's where the arguments, and the package variables that the reading takes, are together of bulk at most 1048576: NARROWER than '..Said'. Prove '..Said' where nothing that the law and all that it calls make is longer than what came in: it says more and counts as full. Else prove '..UptoSaid'. A law counts once. -/
mutual
def uptoBulk {H : Type} : DataW H → Nat
  | .lit (.string bytes) => bytes.length + 1
  | .lit _ => 1
  | .nil => 1
  | .ptr d => uptoBulk d + 1
  | .slice elems spare => uptoBulkAll elems + uptoBulkAll spare + 1
  | .agg parts => uptoBulkAll parts + 1
  | .iface _ d => uptoBulk d + 1
  | .map entries => uptoBulkEntries entries + 1
  | .held _ => 1
def uptoBulkAll {H : Type} : List (DataW H) → Nat
  | [] => 0
  | d :: r => uptoBulk d + uptoBulkAll r
def uptoBulkEntries {H : Type} : List (Lit × DataW H) → Nat
  | [] => 0
  | x :: r => uptoBulkEntry x + uptoBulkEntries r
def uptoBulkEntry {H : Type} : Lit × DataW H → Nat
  | (.string bytes, d) => bytes.length + uptoBulk d + 1
  | (_, d) => uptoBulk d + 1
 end
def uptoSmall : (H : Type) → List (DataW H) → Bool := fun _ ds => decide (uptoBulkAll ds ≤ 1048576)
def OpenSpec.upto (s : _root_.Go.ChangeSpec) : _root_.Go.OpenSpec := { _root_.Go.OpenSpec.ofChange s with cond := some uptoSmall }

/-- 'aerielaw25.ExecRetries', WHERE WHAT IT READS IS OF BULK AT MOST 1048576: true; the input reads as it did. -/
def execRetriesUptoRow : OpenClaim := { program := "ytcekfepgdfcinaagreatdoor", sum := "74e72c08a9d57557fcd033e3f1ef33da29e1d36b8160925521de569562873d65", func := "aerie/aerielaw25.ExecRetries", spec := "execRetries", inPlace := ["internal/bytealg.MakeNoZero"], unfollowed := true, recurses := true, named := ["math/bits.deBruijn32tab"], plainKeys := false, apart := false, laid := [("math/bits.deBruijn32tab", laid_math_bits_deBruijn32tab)], narrowed := true }
def ExecRetriesUptoSaid : Prop := execRetriesUptoRow.holds Tryz.pinned (OpenSpec.upto execRetriesSpec)

/-- 'aerielaw25.ExecOrders', WHERE WHAT IT READS IS OF BULK AT MOST 1048576: true; the input reads as it did. -/
def execOrdersUptoRow : OpenClaim := { program := "ytcekfepgdfcinaagreatdoor", sum := "74e72c08a9d57557fcd033e3f1ef33da29e1d36b8160925521de569562873d65", func := "aerie/aerielaw25.ExecOrders", spec := "execOrders", inPlace := ["internal/bytealg.MakeNoZero"], unfollowed := true, recurses := true, named := ["math/bits.deBruijn32tab"], plainKeys := false, apart := false, laid := [("math/bits.deBruijn32tab", laid_math_bits_deBruijn32tab)], narrowed := true }
def ExecOrdersUptoSaid : Prop := execOrdersUptoRow.holds Tryz.pinned (OpenSpec.upto execOrdersSpec)

/-- 'aerielaw25.ExecHealth', WHERE WHAT IT READS IS OF BULK AT MOST 1048576: true; the input reads as it did. -/
def execHealthUptoRow : OpenClaim := { program := "ytcekfepgdfcinaagreatdoor", sum := "74e72c08a9d57557fcd033e3f1ef33da29e1d36b8160925521de569562873d65", func := "aerie/aerielaw25.ExecHealth", spec := "execHealth", inPlace := ["internal/bytealg.MakeNoZero"], unfollowed := true, recurses := true, named := ["math/bits.deBruijn32tab"], plainKeys := false, apart := false, laid := [("math/bits.deBruijn32tab", laid_math_bits_deBruijn32tab)], narrowed := true }
def ExecHealthUptoSaid : Prop := execHealthUptoRow.holds Tryz.pinned (OpenSpec.upto execHealthSpec)

/-- 'aerielaw25.ExecResets', WHERE WHAT IT READS IS OF BULK AT MOST 1048576: true; the input reads as it did. -/
def execResetsUptoRow : OpenClaim := { program := "ytcekfepgdfcinaagreatdoor", sum := "74e72c08a9d57557fcd033e3f1ef33da29e1d36b8160925521de569562873d65", func := "aerie/aerielaw25.ExecResets", spec := "execResets", inPlace := ["internal/bytealg.MakeNoZero"], unfollowed := true, recurses := true, named := ["math/bits.deBruijn32tab"], plainKeys := false, apart := false, laid := [("math/bits.deBruijn32tab", laid_math_bits_deBruijn32tab)], narrowed := true }
def ExecResetsUptoSaid : Prop := execResetsUptoRow.holds Tryz.pinned (OpenSpec.upto execResetsSpec)

/-- 'aerielaw25.ExecLogs', WHERE WHAT IT READS IS OF BULK AT MOST 1048576: true; the input reads as it did. -/
def execLogsUptoRow : OpenClaim := { program := "ytcekfepgdfcinaagreatdoor", sum := "74e72c08a9d57557fcd033e3f1ef33da29e1d36b8160925521de569562873d65", func := "aerie/aerielaw25.ExecLogs", spec := "execLogs", inPlace := ["internal/bytealg.MakeNoZero"], unfollowed := true, recurses := true, named := ["math/bits.deBruijn32tab"], plainKeys := false, apart := false, laid := [("math/bits.deBruijn32tab", laid_math_bits_deBruijn32tab)], narrowed := true }
def ExecLogsUptoSaid : Prop := execLogsUptoRow.holds Tryz.pinned (OpenSpec.upto execLogsSpec)

/-- 'aerielaw25.ExecRestarts', WHERE WHAT IT READS IS OF BULK AT MOST 1048576: true; the input reads as it did. -/
def execRestartsUptoRow : OpenClaim := { program := "ytcekfepgdfcinaagreatdoor", sum := "74e72c08a9d57557fcd033e3f1ef33da29e1d36b8160925521de569562873d65", func := "aerie/aerielaw25.ExecRestarts", spec := "execRestarts", inPlace := ["internal/bytealg.MakeNoZero"], unfollowed := true, recurses := true, named := ["math/bits.deBruijn32tab"], plainKeys := false, apart := false, laid := [("math/bits.deBruijn32tab", laid_math_bits_deBruijn32tab)], narrowed := true }
def ExecRestartsUptoSaid : Prop := execRestartsUptoRow.holds Tryz.pinned (OpenSpec.upto execRestartsSpec)

/-- 'aerielaw25.ExecCalm', WHERE WHAT IT READS IS OF BULK AT MOST 1048576: true; the input reads as it did. -/
def execCalmUptoRow : OpenClaim := { program := "ytcekfepgdfcinaagreatdoor", sum := "74e72c08a9d57557fcd033e3f1ef33da29e1d36b8160925521de569562873d65", func := "aerie/aerielaw25.ExecCalm", spec := "execCalm", inPlace := ["internal/bytealg.MakeNoZero"], unfollowed := true, recurses := true, named := ["math/bits.deBruijn32tab"], plainKeys := false, apart := false, laid := [("math/bits.deBruijn32tab", laid_math_bits_deBruijn32tab)], narrowed := true }
def ExecCalmUptoSaid : Prop := execCalmUptoRow.holds Tryz.pinned (OpenSpec.upto execCalmSpec)

/-- 'aerielaw25.ExecNil', WHERE WHAT IT READS IS OF BULK AT MOST 1048576: true; the input reads as it did. -/
def execNilUptoRow : OpenClaim := { program := "ytcekfepgdfcinaagreatdoor", sum := "74e72c08a9d57557fcd033e3f1ef33da29e1d36b8160925521de569562873d65", func := "aerie/aerielaw25.ExecNil", spec := "execNil", inPlace := ["internal/bytealg.MakeNoZero"], unfollowed := true, recurses := true, named := ["math/bits.deBruijn32tab"], plainKeys := false, apart := false, laid := [("math/bits.deBruijn32tab", laid_math_bits_deBruijn32tab)], narrowed := true }
def ExecNilUptoSaid : Prop := execNilUptoRow.holds Tryz.pinned (OpenSpec.upto execNilSpec)

end Rows
end Go.Proofs.YtcekfepgdfcinaaGreatDoor
