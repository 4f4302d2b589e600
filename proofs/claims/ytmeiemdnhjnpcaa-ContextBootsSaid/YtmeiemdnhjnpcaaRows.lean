/-
  No cell of these rows narrows 'for every input' (looked for: loops, veiled, ifaces, maps, wideKeys, modest, calm, conditions, laid).
  DERIVED. THE GIVEN ROWS OF THIS SEAT. 14 by the template 'for every input the law returns true; each argument reads behind the call as it read before'; 0 by the template 'total and deterministic' (their statements: YtmeiemdnhjnpcaaTotals.lean).
  GIVEN WITH THE SEED: the statements are not yours to turn. If you find one false, say at which input.
  Laid BY PROGRAM, IN A SANDBOX (cutbox-rows.mjs): the forced cells as the released guide's own fill.sh prints them over the translation b5d2f6e23a09dadd… (all of the seat's roots in one cut). By AI agents, Wed Nov 11 2026. No macro, syntax, notation, axiom, sorry.
-/
import Derived.Test.YtmeiemdnhjnpcaaChecked
import GoSem.Claim
import GoSem.ClaimJoined
import GoSem.ClaimMapViews
import Derived.JoinedTies
import Derived.KernelRfl
namespace Go.Proofs.Ytmeiemdnhjnpcaa
/- THE CELL 'sum', in the pinned program and in every row, IS THE sha256 OF THE DUMP (.gsa) THAT YtmeiemdnhjnpcaaProg.lean LOADS. Nothing in Lean hashes anything: it is a label: what it is worth is what the hold of that sum in a sandbox is worth. -/
noncomputable def Try.pinned : Pinned := { name := "ytmeiemdnhjnpcaa", sum := "b5d2f6e23a09daddc7cb7f1f5c2b1f26799cc5d3317ce89e8aa982690f7dcde8", checked := Try.checked }
namespace Rows
def none {H : Type} : Left H := { results := [], args := [] }

/-- 'aerielaw08.ContextForms': WHATEVER THE INPUT: true; the input reads as it did. -/
def contextFormsSpec : ChangeSpec := { name := "contextForms", fn := fun _ => fun
  | [d1, d2, d3, d4, d5] => { results := [.lit (.bool true)], args := [d1, d2, d3, d4, d5] }
  | _ => none }
def contextFormsRow : OpenClaim := { program := "ytmeiemdnhjnpcaa", sum := "b5d2f6e23a09daddc7cb7f1f5c2b1f26799cc5d3317ce89e8aa982690f7dcde8", func := "aerie/aerielaw08.ContextForms", spec := "contextForms", apart := false }
def ContextFormsSaid : Prop := contextFormsRow.holds Try.pinned (OpenSpec.ofChange contextFormsSpec)

/-- ITS FALSE NEIGHBOUR: 'it returns false'. Refute it at one input. -/
def contextFormsWrong : ChangeSpec := { name := "contextForms", fn := fun _ => fun
  | [d1, d2, d3, d4, d5] => { results := [.lit (.bool false)], args := [d1, d2, d3, d4, d5] }
  | _ => none }
def ContextFormsWrongFalsely : Prop := contextFormsRow.holds Try.pinned (OpenSpec.ofChange contextFormsWrong)

/-- 'aerielaw08.ContextLimits': WHATEVER THE INPUT: true; the input reads as it did. -/
def contextLimitsSpec : ChangeSpec := { name := "contextLimits", fn := fun _ => fun
  | [d1, d2, d3] => { results := [.lit (.bool true)], args := [d1, d2, d3] }
  | _ => none }
def contextLimitsRow : OpenClaim := { program := "ytmeiemdnhjnpcaa", sum := "b5d2f6e23a09daddc7cb7f1f5c2b1f26799cc5d3317ce89e8aa982690f7dcde8", func := "aerie/aerielaw08.ContextLimits", spec := "contextLimits", apart := false }
def ContextLimitsSaid : Prop := contextLimitsRow.holds Try.pinned (OpenSpec.ofChange contextLimitsSpec)

/-- ITS FALSE NEIGHBOUR: 'it returns false'. Refute it at one input. -/
def contextLimitsWrong : ChangeSpec := { name := "contextLimits", fn := fun _ => fun
  | [d1, d2, d3] => { results := [.lit (.bool false)], args := [d1, d2, d3] }
  | _ => none }
def ContextLimitsWrongFalsely : Prop := contextLimitsRow.holds Try.pinned (OpenSpec.ofChange contextLimitsWrong)

/-- 'aerielaw06.CellForms': WHATEVER THE INPUT: true; the input reads as it did. -/
def cellFormsSpec : ChangeSpec := { name := "cellForms", fn := fun _ => fun
  | [d1, d2, d3, d4, d5] => { results := [.lit (.bool true)], args := [d1, d2, d3, d4, d5] }
  | _ => none }
def cellFormsRow : OpenClaim := { program := "ytmeiemdnhjnpcaa", sum := "b5d2f6e23a09daddc7cb7f1f5c2b1f26799cc5d3317ce89e8aa982690f7dcde8", func := "aerie/aerielaw06.CellForms", spec := "cellForms", apart := false }
def CellFormsSaid : Prop := cellFormsRow.holds Try.pinned (OpenSpec.ofChange cellFormsSpec)

/-- ITS FALSE NEIGHBOUR: 'it returns false'. Refute it at one input. -/
def cellFormsWrong : ChangeSpec := { name := "cellForms", fn := fun _ => fun
  | [d1, d2, d3, d4, d5] => { results := [.lit (.bool false)], args := [d1, d2, d3, d4, d5] }
  | _ => none }
def CellFormsWrongFalsely : Prop := cellFormsRow.holds Try.pinned (OpenSpec.ofChange cellFormsWrong)

/-- 'aerielaw06.CellNewest': WHATEVER THE INPUT: true; the input reads as it did. -/
def cellNewestSpec : ChangeSpec := { name := "cellNewest", fn := fun _ => fun
  | [d1, d2, d3, d4, d5] => { results := [.lit (.bool true)], args := [d1, d2, d3, d4, d5] }
  | _ => none }
def cellNewestRow : OpenClaim := { program := "ytmeiemdnhjnpcaa", sum := "b5d2f6e23a09daddc7cb7f1f5c2b1f26799cc5d3317ce89e8aa982690f7dcde8", func := "aerie/aerielaw06.CellNewest", spec := "cellNewest", apart := false }
def CellNewestSaid : Prop := cellNewestRow.holds Try.pinned (OpenSpec.ofChange cellNewestSpec)

/-- ITS FALSE NEIGHBOUR: 'it returns false'. Refute it at one input. -/
def cellNewestWrong : ChangeSpec := { name := "cellNewest", fn := fun _ => fun
  | [d1, d2, d3, d4, d5] => { results := [.lit (.bool false)], args := [d1, d2, d3, d4, d5] }
  | _ => none }
def CellNewestWrongFalsely : Prop := cellNewestRow.holds Try.pinned (OpenSpec.ofChange cellNewestWrong)

/-- 'aerielaw06.CellLong': WHATEVER THE INPUT: true; the input reads as it did. -/
def cellLongSpec : ChangeSpec := { name := "cellLong", fn := fun _ => fun
  | [d1, d2, d3] => { results := [.lit (.bool true)], args := [d1, d2, d3] }
  | _ => none }
def cellLongRow : OpenClaim := { program := "ytmeiemdnhjnpcaa", sum := "b5d2f6e23a09daddc7cb7f1f5c2b1f26799cc5d3317ce89e8aa982690f7dcde8", func := "aerie/aerielaw06.CellLong", spec := "cellLong", apart := false }
def CellLongSaid : Prop := cellLongRow.holds Try.pinned (OpenSpec.ofChange cellLongSpec)

/-- ITS FALSE NEIGHBOUR: 'it returns false'. Refute it at one input. -/
def cellLongWrong : ChangeSpec := { name := "cellLong", fn := fun _ => fun
  | [d1, d2, d3] => { results := [.lit (.bool false)], args := [d1, d2, d3] }
  | _ => none }
def CellLongWrongFalsely : Prop := cellLongRow.holds Try.pinned (OpenSpec.ofChange cellLongWrong)

/-- 'aerielaw06.CellVotes': WHATEVER THE INPUT: true; the input reads as it did. -/
def cellVotesSpec : ChangeSpec := { name := "cellVotes", fn := fun _ => fun
  | [d1, d2, d3, d4] => { results := [.lit (.bool true)], args := [d1, d2, d3, d4] }
  | _ => none }
def cellVotesRow : OpenClaim := { program := "ytmeiemdnhjnpcaa", sum := "b5d2f6e23a09daddc7cb7f1f5c2b1f26799cc5d3317ce89e8aa982690f7dcde8", func := "aerie/aerielaw06.CellVotes", spec := "cellVotes", apart := false }
def CellVotesSaid : Prop := cellVotesRow.holds Try.pinned (OpenSpec.ofChange cellVotesSpec)

/-- ITS FALSE NEIGHBOUR: 'it returns false'. Refute it at one input. -/
def cellVotesWrong : ChangeSpec := { name := "cellVotes", fn := fun _ => fun
  | [d1, d2, d3, d4] => { results := [.lit (.bool false)], args := [d1, d2, d3, d4] }
  | _ => none }
def CellVotesWrongFalsely : Prop := cellVotesRow.holds Try.pinned (OpenSpec.ofChange cellVotesWrong)

/-- 'aerielaw06.CellShows': WHATEVER THE INPUT: true; the input reads as it did. -/
def cellShowsSpec : ChangeSpec := { name := "cellShows", fn := fun _ => fun
  | [d1, d2, d3, d4, d5, d6] => { results := [.lit (.bool true)], args := [d1, d2, d3, d4, d5, d6] }
  | _ => none }
def cellShowsRow : OpenClaim := { program := "ytmeiemdnhjnpcaa", sum := "b5d2f6e23a09daddc7cb7f1f5c2b1f26799cc5d3317ce89e8aa982690f7dcde8", func := "aerie/aerielaw06.CellShows", spec := "cellShows", unfollowed := true, recurses := true, apart := false }
def CellShowsSaid : Prop := cellShowsRow.holds Try.pinned (OpenSpec.ofChange cellShowsSpec)

/-- ITS FALSE NEIGHBOUR: 'it returns false'. Refute it at one input. -/
def cellShowsWrong : ChangeSpec := { name := "cellShows", fn := fun _ => fun
  | [d1, d2, d3, d4, d5, d6] => { results := [.lit (.bool false)], args := [d1, d2, d3, d4, d5, d6] }
  | _ => none }
def CellShowsWrongFalsely : Prop := cellShowsRow.holds Try.pinned (OpenSpec.ofChange cellShowsWrong)

/-- 'aerielaw07.GuardFills': WHATEVER THE INPUT: true; the input reads as it did. -/
def guardFillsSpec : ChangeSpec := { name := "guardFills", fn := fun _ => fun
  | [d1, d2, d3] => { results := [.lit (.bool true)], args := [d1, d2, d3] }
  | _ => none }
def guardFillsRow : OpenClaim := { program := "ytmeiemdnhjnpcaa", sum := "b5d2f6e23a09daddc7cb7f1f5c2b1f26799cc5d3317ce89e8aa982690f7dcde8", func := "aerie/aerielaw07.GuardFills", spec := "guardFills", apart := false }
def GuardFillsSaid : Prop := guardFillsRow.holds Try.pinned (OpenSpec.ofChange guardFillsSpec)

/-- ITS FALSE NEIGHBOUR: 'it returns false'. Refute it at one input. -/
def guardFillsWrong : ChangeSpec := { name := "guardFills", fn := fun _ => fun
  | [d1, d2, d3] => { results := [.lit (.bool false)], args := [d1, d2, d3] }
  | _ => none }
def GuardFillsWrongFalsely : Prop := guardFillsRow.holds Try.pinned (OpenSpec.ofChange guardFillsWrong)

/-- 'aerielaw07.GuardScrubs': WHATEVER THE INPUT: true; the input reads as it did. -/
def guardScrubsSpec : ChangeSpec := { name := "guardScrubs", fn := fun _ => fun
  | [d1, d2, d3, d4, d5] => { results := [.lit (.bool true)], args := [d1, d2, d3, d4, d5] }
  | _ => none }
def guardScrubsRow : OpenClaim := { program := "ytmeiemdnhjnpcaa", sum := "b5d2f6e23a09daddc7cb7f1f5c2b1f26799cc5d3317ce89e8aa982690f7dcde8", func := "aerie/aerielaw07.GuardScrubs", spec := "guardScrubs", apart := false }
def GuardScrubsSaid : Prop := guardScrubsRow.holds Try.pinned (OpenSpec.ofChange guardScrubsSpec)

/-- ITS FALSE NEIGHBOUR: 'it returns false'. Refute it at one input. -/
def guardScrubsWrong : ChangeSpec := { name := "guardScrubs", fn := fun _ => fun
  | [d1, d2, d3, d4, d5] => { results := [.lit (.bool false)], args := [d1, d2, d3, d4, d5] }
  | _ => none }
def GuardScrubsWrongFalsely : Prop := guardScrubsRow.holds Try.pinned (OpenSpec.ofChange guardScrubsWrong)

/-- 'aerielaw08.ContextCounts': WHATEVER THE INPUT: true; the input reads as it did. -/
def contextCountsSpec : ChangeSpec := { name := "contextCounts", fn := fun _ => fun
  | [d1, d2] => { results := [.lit (.bool true)], args := [d1, d2] }
  | _ => none }
def contextCountsRow : OpenClaim := { program := "ytmeiemdnhjnpcaa", sum := "b5d2f6e23a09daddc7cb7f1f5c2b1f26799cc5d3317ce89e8aa982690f7dcde8", func := "aerie/aerielaw08.ContextCounts", spec := "contextCounts", apart := false }
def ContextCountsSaid : Prop := contextCountsRow.holds Try.pinned (OpenSpec.ofChange contextCountsSpec)

/-- ITS FALSE NEIGHBOUR: 'it returns false'. Refute it at one input. -/
def contextCountsWrong : ChangeSpec := { name := "contextCounts", fn := fun _ => fun
  | [d1, d2] => { results := [.lit (.bool false)], args := [d1, d2] }
  | _ => none }
def ContextCountsWrongFalsely : Prop := contextCountsRow.holds Try.pinned (OpenSpec.ofChange contextCountsWrong)

/-- 'aerielaw07.GuardNumbers': WHATEVER THE INPUT: true; the input reads as it did. -/
def guardNumbersSpec : ChangeSpec := { name := "guardNumbers", fn := fun _ => fun
  | [d1, d2] => { results := [.lit (.bool true)], args := [d1, d2] }
  | _ => none }
def guardNumbersRow : OpenClaim := { program := "ytmeiemdnhjnpcaa", sum := "b5d2f6e23a09daddc7cb7f1f5c2b1f26799cc5d3317ce89e8aa982690f7dcde8", func := "aerie/aerielaw07.GuardNumbers", spec := "guardNumbers", apart := false }
def GuardNumbersSaid : Prop := guardNumbersRow.holds Try.pinned (OpenSpec.ofChange guardNumbersSpec)

/-- ITS FALSE NEIGHBOUR: 'it returns false'. Refute it at one input. -/
def guardNumbersWrong : ChangeSpec := { name := "guardNumbers", fn := fun _ => fun
  | [d1, d2] => { results := [.lit (.bool false)], args := [d1, d2] }
  | _ => none }
def GuardNumbersWrongFalsely : Prop := guardNumbersRow.holds Try.pinned (OpenSpec.ofChange guardNumbersWrong)

/-- 'aerielaw07.GuardHolds': WHATEVER THE INPUT: true; the input reads as it did. -/
def guardHoldsSpec : ChangeSpec := { name := "guardHolds", fn := fun _ => fun
  | [d1, d2, d3, d4] => { results := [.lit (.bool true)], args := [d1, d2, d3, d4] }
  | _ => none }
def guardHoldsRow : OpenClaim := { program := "ytmeiemdnhjnpcaa", sum := "b5d2f6e23a09daddc7cb7f1f5c2b1f26799cc5d3317ce89e8aa982690f7dcde8", func := "aerie/aerielaw07.GuardHolds", spec := "guardHolds", unfollowed := true, recurses := true, apart := false }
def GuardHoldsSaid : Prop := guardHoldsRow.holds Try.pinned (OpenSpec.ofChange guardHoldsSpec)

/-- ITS FALSE NEIGHBOUR: 'it returns false'. Refute it at one input. -/
def guardHoldsWrong : ChangeSpec := { name := "guardHolds", fn := fun _ => fun
  | [d1, d2, d3, d4] => { results := [.lit (.bool false)], args := [d1, d2, d3, d4] }
  | _ => none }
def GuardHoldsWrongFalsely : Prop := guardHoldsRow.holds Try.pinned (OpenSpec.ofChange guardHoldsWrong)

/-- 'aerielaw07.GuardNil': WHATEVER THE INPUT: true; the input reads as it did. -/
def guardNilSpec : ChangeSpec := { name := "guardNil", fn := fun _ => fun
  | [d1, d2, d3, d4] => { results := [.lit (.bool true)], args := [d1, d2, d3, d4] }
  | _ => none }
def guardNilRow : OpenClaim := { program := "ytmeiemdnhjnpcaa", sum := "b5d2f6e23a09daddc7cb7f1f5c2b1f26799cc5d3317ce89e8aa982690f7dcde8", func := "aerie/aerielaw07.GuardNil", spec := "guardNil", apart := false }
def GuardNilSaid : Prop := guardNilRow.holds Try.pinned (OpenSpec.ofChange guardNilSpec)

/-- ITS FALSE NEIGHBOUR: 'it returns false'. Refute it at one input. -/
def guardNilWrong : ChangeSpec := { name := "guardNil", fn := fun _ => fun
  | [d1, d2, d3, d4] => { results := [.lit (.bool false)], args := [d1, d2, d3, d4] }
  | _ => none }
def GuardNilWrongFalsely : Prop := guardNilRow.holds Try.pinned (OpenSpec.ofChange guardNilWrong)

/-- 'aerielaw08.ContextBoots': WHATEVER THE INPUT: true; the input reads as it did. -/
def contextBootsSpec : ChangeSpec := { name := "contextBoots", fn := fun _ => fun
  | [d1, d2, d3, d4, d5] => { results := [.lit (.bool true)], args := [d1, d2, d3, d4, d5] }
  | _ => none }
def contextBootsRow : OpenClaim := { program := "ytmeiemdnhjnpcaa", sum := "b5d2f6e23a09daddc7cb7f1f5c2b1f26799cc5d3317ce89e8aa982690f7dcde8", func := "aerie/aerielaw08.ContextBoots", spec := "contextBoots", apart := false }
def ContextBootsSaid : Prop := contextBootsRow.holds Try.pinned (OpenSpec.ofChange contextBootsSpec)

/-- ITS FALSE NEIGHBOUR: 'it returns false'. Refute it at one input. -/
def contextBootsWrong : ChangeSpec := { name := "contextBoots", fn := fun _ => fun
  | [d1, d2, d3, d4, d5] => { results := [.lit (.bool false)], args := [d1, d2, d3, d4, d5] }
  | _ => none }
def ContextBootsWrongFalsely : Prop := contextBootsRow.holds Try.pinned (OpenSpec.ofChange contextBootsWrong)

/- THE SECOND FORM. 'bulk': how many values and letters a reading holds, each counted each time it is reached (what is shared counts as often as it is met; a slice's spare places count too). A statement '..UptoSaid' is the law's where the arguments, and the package variables that the reading takes, are together of bulk at most 1048576: NARROWER than '..Said'. Prove '..Said' where nothing that the law and all that it calls make is longer than what came in: it says more and counts as full. Else prove '..UptoSaid'. A law counts once. -/
mutual
def uptoBulk {H : Type} : DataW H → Nat
  | .lit (.string bytes) => bytes.length + 1
  | .lit _ => 1
  | .nil => 1
  | .ptr d => uptoBulk d + 1
  | .slice elems spare => uptoBulkAll elems + uptoBulkAll spare + 1
  | .agg parts => uptoBulkAll parts + 1
  | .iface _ d => uptoBulk d + 1
  | .map entries => uptoBulkEntries entries + 1
  | .held _ => 1
def uptoBulkAll {H : Type} : List (DataW H) → Nat
  | [] => 0
  | d :: r => uptoBulk d + uptoBulkAll r
def uptoBulkEntries {H : Type} : List (Lit × DataW H) → Nat
  | [] => 0
  | x :: r => uptoBulkEntry x + uptoBulkEntries r
def uptoBulkEntry {H : Type} : Lit × DataW H → Nat
  | (.string bytes, d) => bytes.length + uptoBulk d + 1
  | (_, d) => uptoBulk d + 1
 end
def uptoSmall : (H : Type) → List (DataW H) → Bool := fun _ ds => decide (uptoBulkAll ds ≤ 1048576)
def OpenSpec.upto (s : _root_.Go.ChangeSpec) : _root_.Go.OpenSpec := { _root_.Go.OpenSpec.ofChange s with cond := some uptoSmall }

/-- 'aerielaw08.ContextForms', WHERE WHAT IT READS IS OF BULK AT MOST 1048576: true; the input reads as it did. -/
def contextFormsUptoRow : OpenClaim := { program := "ytmeiemdnhjnpcaa", sum := "b5d2f6e23a09daddc7cb7f1f5c2b1f26799cc5d3317ce89e8aa982690f7dcde8", func := "aerie/aerielaw08.ContextForms", spec := "contextForms", apart := false, narrowed := true }
def ContextFormsUptoSaid : Prop := contextFormsUptoRow.holds Try.pinned (OpenSpec.upto contextFormsSpec)

/-- 'aerielaw08.ContextLimits', WHERE WHAT IT READS IS OF BULK AT MOST 1048576: true; the input reads as it did. -/
def contextLimitsUptoRow : OpenClaim := { program := "ytmeiemdnhjnpcaa", sum := "b5d2f6e23a09daddc7cb7f1f5c2b1f26799cc5d3317ce89e8aa982690f7dcde8", func := "aerie/aerielaw08.ContextLimits", spec := "contextLimits", apart := false, narrowed := true }
def ContextLimitsUptoSaid : Prop := contextLimitsUptoRow.holds Try.pinned (OpenSpec.upto contextLimitsSpec)

/-- 'aerielaw06.CellForms', WHERE WHAT IT READS IS OF BULK AT MOST 1048576: true; the input reads as it did. -/
def cellFormsUptoRow : OpenClaim := { program := "ytmeiemdnhjnpcaa", sum := "b5d2f6e23a09daddc7cb7f1f5c2b1f26799cc5d3317ce89e8aa982690f7dcde8", func := "aerie/aerielaw06.CellForms", spec := "cellForms", apart := false, narrowed := true }
def CellFormsUptoSaid : Prop := cellFormsUptoRow.holds Try.pinned (OpenSpec.upto cellFormsSpec)

/-- 'aerielaw06.CellNewest', WHERE WHAT IT READS IS OF BULK AT MOST 1048576: true; the input reads as it did. -/
def cellNewestUptoRow : OpenClaim := { program := "ytmeiemdnhjnpcaa", sum := "b5d2f6e23a09daddc7cb7f1f5c2b1f26799cc5d3317ce89e8aa982690f7dcde8", func := "aerie/aerielaw06.CellNewest", spec := "cellNewest", apart := false, narrowed := true }
def CellNewestUptoSaid : Prop := cellNewestUptoRow.holds Try.pinned (OpenSpec.upto cellNewestSpec)

/-- 'aerielaw06.CellLong', WHERE WHAT IT READS IS OF BULK AT MOST 1048576: true; the input reads as it did. -/
def cellLongUptoRow : OpenClaim := { program := "ytmeiemdnhjnpcaa", sum := "b5d2f6e23a09daddc7cb7f1f5c2b1f26799cc5d3317ce89e8aa982690f7dcde8", func := "aerie/aerielaw06.CellLong", spec := "cellLong", apart := false, narrowed := true }
def CellLongUptoSaid : Prop := cellLongUptoRow.holds Try.pinned (OpenSpec.upto cellLongSpec)

/-- 'aerielaw06.CellVotes', WHERE WHAT IT READS IS OF BULK AT MOST 1048576: true; the input reads as it did. -/
def cellVotesUptoRow : OpenClaim := { program := "ytmeiemdnhjnpcaa", sum := "b5d2f6e23a09daddc7cb7f1f5c2b1f26799cc5d3317ce89e8aa982690f7dcde8", func := "aerie/aerielaw06.CellVotes", spec := "cellVotes", apart := false, narrowed := true }
def CellVotesUptoSaid : Prop := cellVotesUptoRow.holds Try.pinned (OpenSpec.upto cellVotesSpec)

/-- 'aerielaw06.CellShows', WHERE WHAT IT READS IS OF BULK AT MOST 1048576: true; the input reads as it did. -/
def cellShowsUptoRow : OpenClaim := { program := "ytmeiemdnhjnpcaa", sum := "b5d2f6e23a09daddc7cb7f1f5c2b1f26799cc5d3317ce89e8aa982690f7dcde8", func := "aerie/aerielaw06.CellShows", spec := "cellShows", unfollowed := true, recurses := true, apart := false, narrowed := true }
def CellShowsUptoSaid : Prop := cellShowsUptoRow.holds Try.pinned (OpenSpec.upto cellShowsSpec)

/-- 'aerielaw07.GuardFills', WHERE WHAT IT READS IS OF BULK AT MOST 1048576: true; the input reads as it did. -/
def guardFillsUptoRow : OpenClaim := { program := "ytmeiemdnhjnpcaa", sum := "b5d2f6e23a09daddc7cb7f1f5c2b1f26799cc5d3317ce89e8aa982690f7dcde8", func := "aerie/aerielaw07.GuardFills", spec := "guardFills", apart := false, narrowed := true }
def GuardFillsUptoSaid : Prop := guardFillsUptoRow.holds Try.pinned (OpenSpec.upto guardFillsSpec)

/-- 'aerielaw07.GuardScrubs', WHERE WHAT IT READS IS OF BULK AT MOST 1048576: true; the input reads as it did. -/
def guardScrubsUptoRow : OpenClaim := { program := "ytmeiemdnhjnpcaa", sum := "b5d2f6e23a09daddc7cb7f1f5c2b1f26799cc5d3317ce89e8aa982690f7dcde8", func := "aerie/aerielaw07.GuardScrubs", spec := "guardScrubs", apart := false, narrowed := true }
def GuardScrubsUptoSaid : Prop := guardScrubsUptoRow.holds Try.pinned (OpenSpec.upto guardScrubsSpec)

/-- 'aerielaw08.ContextCounts', WHERE WHAT IT READS IS OF BULK AT MOST 1048576: true; the input reads as it did. -/
def contextCountsUptoRow : OpenClaim := { program := "ytmeiemdnhjnpcaa", sum := "b5d2f6e23a09daddc7cb7f1f5c2b1f26799cc5d3317ce89e8aa982690f7dcde8", func := "aerie/aerielaw08.ContextCounts", spec := "contextCounts", apart := false, narrowed := true }
def ContextCountsUptoSaid : Prop := contextCountsUptoRow.holds Try.pinned (OpenSpec.upto contextCountsSpec)

/-- 'aerielaw07.GuardNumbers', WHERE WHAT IT READS IS OF BULK AT MOST 1048576: true; the input reads as it did. -/
def guardNumbersUptoRow : OpenClaim := { program := "ytmeiemdnhjnpcaa", sum := "b5d2f6e23a09daddc7cb7f1f5c2b1f26799cc5d3317ce89e8aa982690f7dcde8", func := "aerie/aerielaw07.GuardNumbers", spec := "guardNumbers", apart := false, narrowed := true }
def GuardNumbersUptoSaid : Prop := guardNumbersUptoRow.holds Try.pinned (OpenSpec.upto guardNumbersSpec)

/-- 'aerielaw07.GuardHolds', WHERE WHAT IT READS IS OF BULK AT MOST 1048576: true; the input reads as it did. -/
def guardHoldsUptoRow : OpenClaim := { program := "ytmeiemdnhjnpcaa", sum := "b5d2f6e23a09daddc7cb7f1f5c2b1f26799cc5d3317ce89e8aa982690f7dcde8", func := "aerie/aerielaw07.GuardHolds", spec := "guardHolds", unfollowed := true, recurses := true, apart := false, narrowed := true }
def GuardHoldsUptoSaid : Prop := guardHoldsUptoRow.holds Try.pinned (OpenSpec.upto guardHoldsSpec)

/-- 'aerielaw07.GuardNil', WHERE WHAT IT READS IS OF BULK AT MOST 1048576: true; the input reads as it did. -/
def guardNilUptoRow : OpenClaim := { program := "ytmeiemdnhjnpcaa", sum := "b5d2f6e23a09daddc7cb7f1f5c2b1f26799cc5d3317ce89e8aa982690f7dcde8", func := "aerie/aerielaw07.GuardNil", spec := "guardNil", apart := false, narrowed := true }
def GuardNilUptoSaid : Prop := guardNilUptoRow.holds Try.pinned (OpenSpec.upto guardNilSpec)

/-- 'aerielaw08.ContextBoots', WHERE WHAT IT READS IS OF BULK AT MOST 1048576: true; the input reads as it did. -/
def contextBootsUptoRow : OpenClaim := { program := "ytmeiemdnhjnpcaa", sum := "b5d2f6e23a09daddc7cb7f1f5c2b1f26799cc5d3317ce89e8aa982690f7dcde8", func := "aerie/aerielaw08.ContextBoots", spec := "contextBoots", apart := false, narrowed := true }
def ContextBootsUptoSaid : Prop := contextBootsUptoRow.holds Try.pinned (OpenSpec.upto contextBootsSpec)

end Rows
end Go.Proofs.Ytmeiemdnhjnpcaa
