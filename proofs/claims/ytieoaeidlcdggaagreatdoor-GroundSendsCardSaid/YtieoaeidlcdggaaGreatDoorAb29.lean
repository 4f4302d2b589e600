/- Contracts of the reader's kind out of contracts of the kit's kind, and back. -/
import Derived.Test.YtieoaeidlcdggaaGreatDoorAb28
import Derived.Laws.AppendOwn
import Derived.Below
set_option linter.unusedSimpArgs false
set_option linter.unusedVariables false
namespace Go.Ab
open Go.RowKit
/-- Old memory. -/
def OldB (w : World) (b : Nat) : Prop := b < w.heap.size
theorem imm_emp (w : World) : Imm Phi.emp (fun _ => False) w = OldB w := by
  funext b
  simp [Imm, Phi.emp, OldB]
theorem Rels.im {I I' : Nat → Prop} {w : World} {φ : Phi} (hI : ∀ b, I b → I' b) (hφ : ∀ i, φ i = .none) {cs : List V} {us : List Value} (h : Rels I w φ cs us) : Rels I' w Phi.emp cs us := by
  induction h with
  | nil => exact .nil
  | cons hx _ ih =>
    refine .cons (hx.mono (fun b hb => ⟨hI b hb, rfl⟩) _ (fun id b c e => ?_) (fun id e => ?_)) ih
    · rw [hφ] at e; cases e
    · rw [hφ] at e; cases e
theorem Con.calls {P : Program} {f : FuncId} {args : List V} {v : Value} (h : Con P f [] args [] (.val v)) {w : World} {us : List Value} (hu : Rels (OldB w) w Phi.emp args us) (hg : GOk (OldB w) w) :
    Calls P f us.toArray w fun e w' => e = .returned v ∧ Below w.heap.size w w' := by
  have hI := imm_emp w
  refine (h.2 (fun _ => False) Phi.emp w us ⟨fun i j b c c' e _ => (by cases e), fun i b c e => (by cases e), fun i b c e => (by cases e), fun i _ => rfl⟩ (fun b hb => hb.elim) (fun id blk e => (by cases e)) (by rw [hI]; exact hu) (by rw [hI]; exact hg)).mono ?_
  rintro e w' ⟨u, φ', rfl, hf, _, _, _, hr, _⟩
  cases hr with
  | val _ => exact ⟨rfl, hf.os, hf.tape, hf.output, hf.size, fun k hk => hf.block k hk (fun id c e => by cases e)⟩
theorem Con.of_below {P : Program} {f : FuncId} {args : List V} {v : Value} (hf : FnOk P f) (hs : scalar v = true)
    (h : ∀ (w : World) (us : List Value), Rels (OldB w) w Phi.emp args us → GOk (OldB w) w → Calls P f us.toArray w fun e w' => e = .returned v ∧ Below w.heap.size w w') : Con P f [] args [] (.val v) := by
  refine ⟨hf, fun X φ w us hφ hX hH hu hg => ?_⟩
  have hn : ∀ i, φ i = .none := fun i => hφ.dom i rfl
  refine (h w us (hu.im (fun b hb => hb.1) hn) (hg.mono fun b hb => ⟨hb.1, rfl⟩)).mono ?_
  rintro e w' ⟨rfl, hb⟩
  exact ⟨v, φ, rfl, ⟨hb.os, hb.tape, hb.output, hb.size, fun b hb' _ => hb.block b hb'⟩, ⟨fun i j b c c' e _ => (by rw [hn] at e; cases e), fun i b c e => (by rw [hn] at e; cases e), fun i b c e => (by rw [hn] at e; cases e), fun i _ => hn i⟩,
    fun id b c e => (by rw [hn] at e; cases e), fun id blk e => (by cases e), .val hs, fun id _ _ => .inl rfl⟩
/-- A slice of the call's own. -/
theorem Con.of_row {P : Program} {f : FuncId} {args : List V} {xs : List Value} {id t k : Nat} (hf : FnOk P f) (hid : id < BIG) (hs : ∀ x ∈ xs, scalar x = true) (hk : xs.length = k)
    (h : ∀ (w : World) (us : List Value), Rels (OldB w) w Phi.emp args us → GOk (OldB w) w → Calls P f us.toArray w fun e w' => ∃ v, e = .returned v ∧ w'.ownsRow w.heap.size t 1 v k xs ∧ Below w.heap.size w w') :
    Con P f [] args [(id, ⟨xs.map .val, true, 0, some (t, 1)⟩)] (.sl id 0 k) := by
  refine ⟨hf, fun X φ w us hφ hX hH hu hg => ?_⟩
  have hn : ∀ i, φ i = .none := fun i => hφ.dom i rfl
  refine (h w us (hu.im (fun b hb => hb.1) hn) (hg.mono fun b hb => ⟨hb.1, rfl⟩)).mono ?_
  rintro e w' ⟨v, rfl, ⟨hl, hr⟩, hb⟩
  have fr : Frm φ w w' := ⟨hb.os, hb.tape, hb.output, hb.size, fun b hb' _ => hb.block b hb'⟩
  rcases hr with ⟨rfl, rfl⟩ | ⟨g, cap, cur, rfl, hg0, hgb, h1, h2, h3, h4⟩
  · have hx : xs = [] := List.length_eq_zero_iff.1 hk
    subst hx
    refine ⟨_, φ.upd id .nil, rfl, fr, ⟨?_, ?_, ?_, ?_⟩, ?_, ?_, .slnil (by simp [Phi.upd]), ?_⟩
    · intro i j b c c' e
      simp only [Phi.upd, hn] at e
      split at e <;> cases e
    · intro i b c e
      simp only [Phi.upd, hn] at e
      split at e <;> cases e
    · intro i b c e
      simp only [Phi.upd, hn] at e
      split at e <;> cases e
    · intro i e
      simp only [lk] at e
      split at e
      · cases e
      · rename_i hne
        simp only [Phi.upd, hn]
        rw [if_neg (by simpa using hne)]
    · intro i b c e
      simp only [Phi.upd, hn] at e
      split at e <;> cases e
    · intro i blk e
      simp only [lk] at e
      split at e
      · rename_i he
        have he' : i = id := by simpa using he
        subst he'
        cases e
        rw [upd_same]; exact ⟨rfl, mv_some rfl (by omega)⟩
      · cases e
    · intro i _ e
      rw [hn] at e
      exact e.elim
  · have hlt : g < w'.heap.size := (Array.getElem?_eq_some_iff.1 hgb).1
    refine ⟨_, φ.upd id (.at g (some cap)), rfl, fr, ⟨?_, ?_, ?_, ?_⟩, ?_, ?_, ?_, ?_⟩
    · intro i j b c c' e e'
      simp only [Phi.upd, hn] at e e'
      split at e
      · split at e'
        · subst_vars; rfl
        · cases e'
      · cases e
    · intro i b c e
      simp only [Phi.upd, hn] at e
      split at e
      · cases e; exact hlt
      · cases e
    · intro i b c e hXb
      simp only [Phi.upd, hn] at e
      split at e
      · cases e
        have := hX _ hXb
        omega
      · cases e
    · intro i e
      simp only [lk] at e
      split at e
      · cases e
      · rename_i hne
        simp only [Phi.upd, hn]
        rw [if_neg (by simpa using hne)]
    · intro i b c e
      simp only [Phi.upd, hn] at e
      split at e
      · cases e; exact .inr hg0
      · cases e
    · intro i blk e
      simp only [lk] at e
      split at e
      · rename_i he
        have he' : i = id := by simpa using he
        subst he'
        cases e
        rw [upd_same]
        have e1 : cur.toList.take xs.length = xs := by
          rw [← h4, List.length_take, h4]
          have : (cur.toList.take (k * 1)).length = xs.length := by rw [h4]
          rw [List.length_take] at this
          rw [this, hk]
          rw [Nat.mul_one] at h4
          exact h4
        refine CRel.blk ⟨cur, t, hgb, ?_, rfl, cap, k, rfl, by simp; omega, h1, h2, h3⟩ (isMp_some rfl (by omega))
        simp only [List.length_map]
        rw [e1]
        refine ⟨by simp, fun i hi => ?_, fun u hu => scalar_one (hs u hu)⟩
        have hi' : i < xs.length := by simpa using hi
        rw [List.getElem_map, List.getD_eq_getElem?_getD, List.getElem?_eq_getElem hi']
        exact .val (hs _ (List.getElem_mem hi'))
      · cases e
    · exact .sl (b := g) (c := some cap) (by simp [Phi.upd]) h1 h2 (fun c' e _ => by cases e; rfl)
    · intro i _ e
      rw [hn] at e
      exact e.elim
/-- A result that stands for a value in whatever memory. -/
theorem Con.of_belowR {P : Program} {f : FuncId} {args : List V} {r : V} {v : Value} (hf : FnOk P f) (hs : ∀ (I : Nat → Prop) (w : World) (φ : Phi), Rel I w φ r v)
    (h : ∀ (w : World) (us : List Value), Rels (OldB w) w Phi.emp args us → GOk (OldB w) w → Calls P f us.toArray w fun e w' => e = .returned v ∧ Below w.heap.size w w') : Con P f [] args [] r := by
  refine ⟨hf, fun X φ w us hφ hX hH hu hg => ?_⟩
  have hn : ∀ i, φ i = .none := fun i => hφ.dom i rfl
  refine (h w us (hu.im (fun b hb => hb.1) hn) (hg.mono fun b hb => ⟨hb.1, rfl⟩)).mono ?_
  rintro e w' ⟨rfl, hb⟩
  exact ⟨v, φ, rfl, ⟨hb.os, hb.tape, hb.output, hb.size, fun b hb' _ => hb.block b hb'⟩, ⟨fun i j b c c' e _ => (by rw [hn] at e; cases e), fun i b c e => (by rw [hn] at e; cases e), fun i b c e => (by rw [hn] at e; cases e), fun i _ => hn i⟩,
    fun id b c e => (by rw [hn] at e; cases e), fun id blk e => (by cases e), hs _ _ _, fun id _ _ => .inl rfl⟩
end Go.Ab
