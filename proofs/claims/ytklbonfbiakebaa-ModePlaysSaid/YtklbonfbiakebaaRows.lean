/-
  No cell of these rows narrows 'for every input' (looked for: loops, veiled, ifaces, maps, wideKeys, modest, calm, conditions, laid).
  DERIVED. THE GIVEN ROWS OF THIS SEAT. 3 by the template 'for every input the law returns true; each argument reads behind the call as it read before'; 0 by the template 'total and deterministic' (their statements: YtklbonfbiakebaaTotals.lean).
  GIVEN WITH THE SEED: the statements are not yours to turn. If you find one false, say at which input.
  Laid BY PROGRAM, IN A SANDBOX (cutbox-rows.mjs): the forced cells as the released guide's own fill.sh prints them over the translation 179e62d8bfcd7d85… (all of the seat's roots in one cut). By AI agents, Wed Nov 11 2026. No macro, syntax, notation, axiom, sorry.
-/
import Derived.Test.YtklbonfbiakebaaChecked
import GoSem.Claim
import GoSem.ClaimJoined
import GoSem.ClaimMapViews
import Derived.JoinedTies
import Derived.KernelRfl
namespace Go.Proofs.Ytklbonfbiakebaa
/- THE CELL 'sum', in the pinned program and in every row, IS THE sha256 OF THE DUMP (.gsa) THAT YtklbonfbiakebaaProg.lean LOADS. Nothing in Lean hashes anything: it is a label: what it is worth is what the hold of that sum in a sandbox is worth. -/
noncomputable def Try.pinned : Pinned := { name := "ytklbonfbiakebaa", sum := "179e62d8bfcd7d85eef28274e528f37ae4c6fe1b81e48f90d38e4f1f2e7194b1", checked := Try.checked }
namespace Rows
def none {H : Type} : Left H := { results := [], args := [] }

/-- 'aerielaw24.ModePlays': WHATEVER THE INPUT: true; the input reads as it did. -/
def modePlaysSpec : ChangeSpec := { name := "modePlays", fn := fun _ => fun
  | [d1, d2] => { results := [.lit (.bool true)], args := [d1, d2] }
  | _ => none }
def modePlaysRow : OpenClaim := { program := "ytklbonfbiakebaa", sum := "179e62d8bfcd7d85eef28274e528f37ae4c6fe1b81e48f90d38e4f1f2e7194b1", func := "aerie/aerielaw24.ModePlays", spec := "modePlays", apart := false }
def ModePlaysSaid : Prop := modePlaysRow.holds Try.pinned (OpenSpec.ofChange modePlaysSpec)

/-- ITS FALSE NEIGHBOUR: 'it returns false'. Refute it at one input. -/
def modePlaysWrong : ChangeSpec := { name := "modePlays", fn := fun _ => fun
  | [d1, d2] => { results := [.lit (.bool false)], args := [d1, d2] }
  | _ => none }
def ModePlaysWrongFalsely : Prop := modePlaysRow.holds Try.pinned (OpenSpec.ofChange modePlaysWrong)

/-- 'aerielaw24.ModeEnds': WHATEVER THE INPUT: true; the input reads as it did. -/
def modeEndsSpec : ChangeSpec := { name := "modeEnds", fn := fun _ => fun
  | [d1, d2, d3] => { results := [.lit (.bool true)], args := [d1, d2, d3] }
  | _ => none }
def modeEndsRow : OpenClaim := { program := "ytklbonfbiakebaa", sum := "179e62d8bfcd7d85eef28274e528f37ae4c6fe1b81e48f90d38e4f1f2e7194b1", func := "aerie/aerielaw24.ModeEnds", spec := "modeEnds", apart := false }
def ModeEndsSaid : Prop := modeEndsRow.holds Try.pinned (OpenSpec.ofChange modeEndsSpec)

/-- ITS FALSE NEIGHBOUR: 'it returns false'. Refute it at one input. -/
def modeEndsWrong : ChangeSpec := { name := "modeEnds", fn := fun _ => fun
  | [d1, d2, d3] => { results := [.lit (.bool false)], args := [d1, d2, d3] }
  | _ => none }
def ModeEndsWrongFalsely : Prop := modeEndsRow.holds Try.pinned (OpenSpec.ofChange modeEndsWrong)

/-- 'aerielaw24.ModeAsks': WHATEVER THE INPUT: true; the input reads as it did. -/
def modeAsksSpec : ChangeSpec := { name := "modeAsks", fn := fun _ => fun
  | [d1, d2] => { results := [.lit (.bool true)], args := [d1, d2] }
  | _ => none }
def modeAsksRow : OpenClaim := { program := "ytklbonfbiakebaa", sum := "179e62d8bfcd7d85eef28274e528f37ae4c6fe1b81e48f90d38e4f1f2e7194b1", func := "aerie/aerielaw24.ModeAsks", spec := "modeAsks", apart := false }
def ModeAsksSaid : Prop := modeAsksRow.holds Try.pinned (OpenSpec.ofChange modeAsksSpec)

/-- ITS FALSE NEIGHBOUR: 'it returns false'. Refute it at one input. -/
def modeAsksWrong : ChangeSpec := { name := "modeAsks", fn := fun _ => fun
  | [d1, d2] => { results := [.lit (.bool false)], args := [d1, d2] }
  | _ => none }
def ModeAsksWrongFalsely : Prop := modeAsksRow.holds Try.pinned (OpenSpec.ofChange modeAsksWrong)

/- THE SECOND FORM. 'bulk': how many values and letters a reading holds, each counted each time it is reached (what is shared counts as often as it is met; a slice's spare places count too). A statement '..UptoSaid' is the law's where the arguments, and the package variables that the reading takes, are together of bulk at most 1048576: NARROWER than '..Said'. Prove '..Said' where nothing that the law and all that it calls make is longer than what came in: it says more and counts as full. Else prove '..UptoSaid'. A law counts once. -/
mutual
def uptoBulk {H : Type} : DataW H → Nat
  | .lit (.string bytes) => bytes.length + 1
  | .lit _ => 1
  | .nil => 1
  | .ptr d => uptoBulk d + 1
  | .slice elems spare => uptoBulkAll elems + uptoBulkAll spare + 1
  | .agg parts => uptoBulkAll parts + 1
  | .iface _ d => uptoBulk d + 1
  | .map entries => uptoBulkEntries entries + 1
  | .held _ => 1
def uptoBulkAll {H : Type} : List (DataW H) → Nat
  | [] => 0
  | d :: r => uptoBulk d + uptoBulkAll r
def uptoBulkEntries {H : Type} : List (Lit × DataW H) → Nat
  | [] => 0
  | x :: r => uptoBulkEntry x + uptoBulkEntries r
def uptoBulkEntry {H : Type} : Lit × DataW H → Nat
  | (.string bytes, d) => bytes.length + uptoBulk d + 1
  | (_, d) => uptoBulk d + 1
 end
def uptoSmall : (H : Type) → List (DataW H) → Bool := fun _ ds => decide (uptoBulkAll ds ≤ 1048576)
def OpenSpec.upto (s : _root_.Go.ChangeSpec) : _root_.Go.OpenSpec := { _root_.Go.OpenSpec.ofChange s with cond := some uptoSmall }

/-- 'aerielaw24.ModePlays', WHERE WHAT IT READS IS OF BULK AT MOST 1048576: true; the input reads as it did. -/
def modePlaysUptoRow : OpenClaim := { program := "ytklbonfbiakebaa", sum := "179e62d8bfcd7d85eef28274e528f37ae4c6fe1b81e48f90d38e4f1f2e7194b1", func := "aerie/aerielaw24.ModePlays", spec := "modePlays", apart := false, narrowed := true }
def ModePlaysUptoSaid : Prop := modePlaysUptoRow.holds Try.pinned (OpenSpec.upto modePlaysSpec)

/-- 'aerielaw24.ModeEnds', WHERE WHAT IT READS IS OF BULK AT MOST 1048576: true; the input reads as it did. -/
def modeEndsUptoRow : OpenClaim := { program := "ytklbonfbiakebaa", sum := "179e62d8bfcd7d85eef28274e528f37ae4c6fe1b81e48f90d38e4f1f2e7194b1", func := "aerie/aerielaw24.ModeEnds", spec := "modeEnds", apart := false, narrowed := true }
def ModeEndsUptoSaid : Prop := modeEndsUptoRow.holds Try.pinned (OpenSpec.upto modeEndsSpec)

/-- 'aerielaw24.ModeAsks', WHERE WHAT IT READS IS OF BULK AT MOST 1048576: true; the input reads as it did. -/
def modeAsksUptoRow : OpenClaim := { program := "ytklbonfbiakebaa", sum := "179e62d8bfcd7d85eef28274e528f37ae4c6fe1b81e48f90d38e4f1f2e7194b1", func := "aerie/aerielaw24.ModeAsks", spec := "modeAsks", apart := false, narrowed := true }
def ModeAsksUptoSaid : Prop := modeAsksUptoRow.holds Try.pinned (OpenSpec.upto modeAsksSpec)

end Rows
end Go.Proofs.Ytklbonfbiakebaa
