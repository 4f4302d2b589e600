/- Contracts of the reader's kind out of contracts of the kit's kind, and back. -/
import Derived.Test.YtcekfepgdfcinaaGreatDoorAb28
import Derived.Laws.AppendOwn
import Derived.Below
set_option linter.unusedSimpArgs false
set_option linter.unusedVariables false
namespace Go.Ab
open Go.RowKit
/-- Old memory. -/
def OldB (w : World) (b : Nat) : Prop := b < w.heap.size
theorem imm_emp (w : World) : Imm Phi.emp (fun _ => False) w = OldB w := by
  funext b
  simp [Imm, Phi.emp, OldB]
theorem Rels.im {I I' : Nat → Prop} {w : World} {φ : Phi} (hI : ∀ b, I b → I' b) (hφ : ∀ i, φ i = .none) {cs : List V} {us : List Value} (h : Rels I w φ cs us) : Rels I' w Phi.emp cs us := by
  induction h with
  | nil => exact .nil
  | cons hx _ ih =>
    refine .cons (hx.mono (fun b hb => ⟨hI b hb, rfl⟩) _ (fun id b c e => ?_) (fun id e => ?_)) ih
    · rw [hφ] at e; cases e
    · rw [hφ] at e; cases e
theorem Con.calls {P : Program} {f : FuncId} {args : List V} {v : Value} (h : Con P f [] args [] (.val v)) {w : World} {us : List Value} (hu : Rels (OldB w) w Phi.emp args us) (hg : GOk (OldB w) w) :
    Calls P f us.toArray w fun e w' => e = .returned v ∧ Below w.heap.size w w' := by
  have hI := imm_emp w
  refine (h.2 (fun _ => False) Phi.emp w us ⟨fun i j b c c' e _ => (by cases e), fun i b c e => (by cases e), fun i b c e => (by cases e), fun i _ => rfl⟩ (fun b hb => hb.elim) (fun id blk e => (by cases e)) (by rw [hI]; exact hu) (by rw [hI]; exact hg)).mono ?_
  rintro e w' ⟨u, φ', rfl, hf, _, _, _, hr, _⟩
  cases hr with
  | val _ => exact ⟨rfl, hf.os, hf.tape, hf.output, hf.size, fun k hk => hf.block k hk (fun id c e => by cases e)⟩
end Go.Ab
