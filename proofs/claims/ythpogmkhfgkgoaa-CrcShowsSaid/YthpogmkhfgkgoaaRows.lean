/-
  No cell of these rows narrows 'for every input' (looked for: loops, veiled, ifaces, maps, wideKeys, modest, calm, conditions, laid).
  DERIVED. THE GIVEN ROWS OF THIS SEAT. 4 by the template 'for every input the law returns true; each argument reads behind the call as it read before'; 0 by the template 'total and deterministic' (their statements: YthpogmkhfgkgoaaTotals.lean).
  GIVEN WITH THE SEED: the statements are not yours to turn. If you find one false, say at which input.
  Laid BY PROGRAM, IN A SANDBOX (cutbox-rows.mjs): the forced cells as the released guide's own fill.sh prints them over the translation 171c9186c375dde6… (all of the seat's roots in one cut). By AI agents, Wed Nov 11 2026. No macro, syntax, notation, axiom, sorry.
-/
import Derived.Test.YthpogmkhfgkgoaaChecked
import GoSem.Claim
import GoSem.ClaimJoined
import GoSem.ClaimMapViews
import Derived.JoinedTies
import Derived.KernelRfl
namespace Go.Proofs.Ythpogmkhfgkgoaa
/- THE CELL 'sum', in the pinned program and in every row, IS THE sha256 OF THE DUMP (.gsa) THAT YthpogmkhfgkgoaaProg.lean LOADS. Nothing in Lean hashes anything: it is a label: what it is worth is what the hold of that sum in a sandbox is worth. -/
noncomputable def Try.pinned : Pinned := { name := "ythpogmkhfgkgoaa", sum := "171c9186c375dde6d4c96fb72fd95e412c95c1b775cbb00b2a25650bc0d5efae", checked := Try.checked }
namespace Rows
def none {H : Type} : Left H := { results := [], args := [] }

/-- 'aerielaw05.CrcSums': WHATEVER THE INPUT: true; the input reads as it did. -/
def crcSumsSpec : ChangeSpec := { name := "crcSums", fn := fun _ => fun
  | [d1, d2] => { results := [.lit (.bool true)], args := [d1, d2] }
  | _ => none }
def crcSumsRow : OpenClaim := { program := "ythpogmkhfgkgoaa", sum := "171c9186c375dde6d4c96fb72fd95e412c95c1b775cbb00b2a25650bc0d5efae", func := "aerie/aerielaw05.CrcSums", spec := "crcSums", apart := false }
def CrcSumsSaid : Prop := crcSumsRow.holds Try.pinned (OpenSpec.ofChange crcSumsSpec)

/-- ITS FALSE NEIGHBOUR: 'it returns false'. Refute it at one input. -/
def crcSumsWrong : ChangeSpec := { name := "crcSums", fn := fun _ => fun
  | [d1, d2] => { results := [.lit (.bool false)], args := [d1, d2] }
  | _ => none }
def CrcSumsWrongFalsely : Prop := crcSumsRow.holds Try.pinned (OpenSpec.ofChange crcSumsWrong)

/-- 'aerielaw05.CrcGoes': WHATEVER THE INPUT: true; the input reads as it did. -/
def crcGoesSpec : ChangeSpec := { name := "crcGoes", fn := fun _ => fun
  | [d1, d2, d3] => { results := [.lit (.bool true)], args := [d1, d2, d3] }
  | _ => none }
def crcGoesRow : OpenClaim := { program := "ythpogmkhfgkgoaa", sum := "171c9186c375dde6d4c96fb72fd95e412c95c1b775cbb00b2a25650bc0d5efae", func := "aerie/aerielaw05.CrcGoes", spec := "crcGoes", apart := false }
def CrcGoesSaid : Prop := crcGoesRow.holds Try.pinned (OpenSpec.ofChange crcGoesSpec)

/-- ITS FALSE NEIGHBOUR: 'it returns false'. Refute it at one input. -/
def crcGoesWrong : ChangeSpec := { name := "crcGoes", fn := fun _ => fun
  | [d1, d2, d3] => { results := [.lit (.bool false)], args := [d1, d2, d3] }
  | _ => none }
def CrcGoesWrongFalsely : Prop := crcGoesRow.holds Try.pinned (OpenSpec.ofChange crcGoesWrong)

/-- 'aerielaw05.CrcShows': WHATEVER THE INPUT: true; the input reads as it did. -/
def crcShowsSpec : ChangeSpec := { name := "crcShows", fn := fun _ => fun
  | [d1, d2, d3, d4, d5] => { results := [.lit (.bool true)], args := [d1, d2, d3, d4, d5] }
  | _ => none }
def crcShowsRow : OpenClaim := { program := "ythpogmkhfgkgoaa", sum := "171c9186c375dde6d4c96fb72fd95e412c95c1b775cbb00b2a25650bc0d5efae", func := "aerie/aerielaw05.CrcShows", spec := "crcShows", apart := false }
def CrcShowsSaid : Prop := crcShowsRow.holds Try.pinned (OpenSpec.ofChange crcShowsSpec)

/-- ITS FALSE NEIGHBOUR: 'it returns false'. Refute it at one input. -/
def crcShowsWrong : ChangeSpec := { name := "crcShows", fn := fun _ => fun
  | [d1, d2, d3, d4, d5] => { results := [.lit (.bool false)], args := [d1, d2, d3, d4, d5] }
  | _ => none }
def CrcShowsWrongFalsely : Prop := crcShowsRow.holds Try.pinned (OpenSpec.ofChange crcShowsWrong)

/-- 'aerielaw05.CrcCuts': WHATEVER THE INPUT: true; the input reads as it did. -/
def crcCutsSpec : ChangeSpec := { name := "crcCuts", fn := fun _ => fun
  | [d1, d2] => { results := [.lit (.bool true)], args := [d1, d2] }
  | _ => none }
def crcCutsRow : OpenClaim := { program := "ythpogmkhfgkgoaa", sum := "171c9186c375dde6d4c96fb72fd95e412c95c1b775cbb00b2a25650bc0d5efae", func := "aerie/aerielaw05.CrcCuts", spec := "crcCuts", apart := false }
def CrcCutsSaid : Prop := crcCutsRow.holds Try.pinned (OpenSpec.ofChange crcCutsSpec)

/-- ITS FALSE NEIGHBOUR: 'it returns false'. Refute it at one input. -/
def crcCutsWrong : ChangeSpec := { name := "crcCuts", fn := fun _ => fun
  | [d1, d2] => { results := [.lit (.bool false)], args := [d1, d2] }
  | _ => none }
def CrcCutsWrongFalsely : Prop := crcCutsRow.holds Try.pinned (OpenSpec.ofChange crcCutsWrong)

/- THE SECOND FORM. 'bulk': how many values and letters a reading holds, each counted each time it is reached (what is shared counts as often as it is met; a slice's spare places count too). A statement '..UptoSaid' is the law's where the arguments, and the package variables that the reading takes, are together of bulk at most 1048576: NARROWER than '..Said'. Prove '..Said' where nothing that the law and all that it calls make is longer than what came in: it says more and counts as full. Else prove '..UptoSaid'. A law counts once. -/
mutual
def uptoBulk {H : Type} : DataW H → Nat
  | .lit (.string bytes) => bytes.length + 1
  | .lit _ => 1
  | .nil => 1
  | .ptr d => uptoBulk d + 1
  | .slice elems spare => uptoBulkAll elems + uptoBulkAll spare + 1
  | .agg parts => uptoBulkAll parts + 1
  | .iface _ d => uptoBulk d + 1
  | .map entries => uptoBulkEntries entries + 1
  | .held _ => 1
def uptoBulkAll {H : Type} : List (DataW H) → Nat
  | [] => 0
  | d :: r => uptoBulk d + uptoBulkAll r
def uptoBulkEntries {H : Type} : List (Lit × DataW H) → Nat
  | [] => 0
  | x :: r => uptoBulkEntry x + uptoBulkEntries r
def uptoBulkEntry {H : Type} : Lit × DataW H → Nat
  | (.string bytes, d) => bytes.length + uptoBulk d + 1
  | (_, d) => uptoBulk d + 1
 end
def uptoSmall : (H : Type) → List (DataW H) → Bool := fun _ ds => decide (uptoBulkAll ds ≤ 1048576)
def OpenSpec.upto (s : _root_.Go.ChangeSpec) : _root_.Go.OpenSpec := { _root_.Go.OpenSpec.ofChange s with cond := some uptoSmall }

/-- 'aerielaw05.CrcSums', WHERE WHAT IT READS IS OF BULK AT MOST 1048576: true; the input reads as it did. -/
def crcSumsUptoRow : OpenClaim := { program := "ythpogmkhfgkgoaa", sum := "171c9186c375dde6d4c96fb72fd95e412c95c1b775cbb00b2a25650bc0d5efae", func := "aerie/aerielaw05.CrcSums", spec := "crcSums", apart := false, narrowed := true }
def CrcSumsUptoSaid : Prop := crcSumsUptoRow.holds Try.pinned (OpenSpec.upto crcSumsSpec)

/-- 'aerielaw05.CrcGoes', WHERE WHAT IT READS IS OF BULK AT MOST 1048576: true; the input reads as it did. -/
def crcGoesUptoRow : OpenClaim := { program := "ythpogmkhfgkgoaa", sum := "171c9186c375dde6d4c96fb72fd95e412c95c1b775cbb00b2a25650bc0d5efae", func := "aerie/aerielaw05.CrcGoes", spec := "crcGoes", apart := false, narrowed := true }
def CrcGoesUptoSaid : Prop := crcGoesUptoRow.holds Try.pinned (OpenSpec.upto crcGoesSpec)

/-- 'aerielaw05.CrcShows', WHERE WHAT IT READS IS OF BULK AT MOST 1048576: true; the input reads as it did. -/
def crcShowsUptoRow : OpenClaim := { program := "ythpogmkhfgkgoaa", sum := "171c9186c375dde6d4c96fb72fd95e412c95c1b775cbb00b2a25650bc0d5efae", func := "aerie/aerielaw05.CrcShows", spec := "crcShows", apart := false, narrowed := true }
def CrcShowsUptoSaid : Prop := crcShowsUptoRow.holds Try.pinned (OpenSpec.upto crcShowsSpec)

/-- 'aerielaw05.CrcCuts', WHERE WHAT IT READS IS OF BULK AT MOST 1048576: true; the input reads as it did. -/
def crcCutsUptoRow : OpenClaim := { program := "ythpogmkhfgkgoaa", sum := "171c9186c375dde6d4c96fb72fd95e412c95c1b775cbb00b2a25650bc0d5efae", func := "aerie/aerielaw05.CrcCuts", spec := "crcCuts", apart := false, narrowed := true }
def CrcCutsUptoSaid : Prop := crcCutsUptoRow.holds Try.pinned (OpenSpec.upto crcCutsSpec)

end Rows
end Go.Proofs.Ythpogmkhfgkgoaa
