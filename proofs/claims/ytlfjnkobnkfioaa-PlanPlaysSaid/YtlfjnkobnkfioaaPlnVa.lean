/- The document's plan: a list that was let go. -/
import Derived.Test.YtlfjnkobnkfioaaPlnV
namespace Go.Proofs.Ytlfjnkobnkfioaa
open Go.Ab
set_option linter.unusedSimpArgs false
set_option linter.unusedVariables false
theorem Con.nilR {P : Program} {f : FuncId} {Hin : List (Nat × Blk)} {args : List V} {blk b1 : Blk} {off fl : Bool} {e sz : Nat} {r : V}
    (h : Con P f Hin args [(1000000000, b1), (2000000030, ⟨[.val (.slice none 0 0), vb off], fl, 2, none⟩)] r) (hsz : 0 < sz)
    (hin : lk Hin 1000000000 = some blk) (hmv : mv blk = true) (hr0 : ids0 r) :
    Con P f Hin args [(1000000000, ⟨[], true, 0, some (e, sz)⟩), (2000000030, ⟨[.sl 1000000000 0 0, vb off], false, 2, none⟩)] r := by
  refine ⟨h.1, fun X φ w us a b c d g => Calls.mono (h.2 X φ w us a b c d g) ?_⟩
  rintro e' w' ⟨u, φ', he, hf, hok, hown, hhr, hrel, hfix⟩
  have hns := notStay_mv (B := 1000000000) (by decide) hmv (c 1000000000 blk hin)
  obtain ⟨ψ, hψ⟩ : ∃ ψ, ψ = φ'.upd 1000000000 .nil := ⟨_, rfl⟩
  have p1 : ψ 1000000000 = .nil := by simp [hψ, Phi.upd]
  have p2 : ∀ i, i ≠ 1000000000 → ψ i = φ' i := fun i hi => by simp [hψ, Phi.upd, hi]
  have p3 : ∀ i b c, ψ i = .at b c → φ' i = .at b c := fun i b c hi => by
    by_cases h : i = 1000000000
    · subst h; rw [p1] at hi; cases hi
    · rwa [p2 i h] at hi
  have him : ∀ x, Imm φ' X w' x → Imm ψ X w' x ∧ w'.heap[x]? = w'.heap[x]? := fun x hx => ⟨⟨hx.1, fun i c hi => hx.2.1 i c (p3 i x c hi), hx.2.2⟩, rfl⟩
  have hlk : ∀ i, i ≠ 1000000000 → (lk [(1000000000, (⟨[], true, 0, some (e, sz)⟩ : Blk)), (2000000030, ⟨[.sl 1000000000 0 0, vb off], false, 2, none⟩)] i = none ↔ lk [(1000000000, b1), (2000000030, ⟨[.val (.slice none 0 0), vb off], fl, 2, none⟩)] i = none) := fun i hi => by
    have hb : (i == 1000000000) = false := by simpa using hi
    simp only [lk, hb, Bool.false_eq_true, if_false]
    by_cases h2 : i = 2000000030
    · simp [h2]
    · simp [h2]
  refine ⟨u, ψ, he, hf, ⟨fun i j b c c' e1 e2 => hok.inj i j b c c' (p3 _ _ _ e1) (p3 _ _ _ e2), fun i b c e => hok.lt i b c (p3 _ _ _ e), fun i b c e => hok.free i b c (p3 _ _ _ e), fun i hi => ?_⟩, fun i b c e => hown i b c (p3 _ _ _ e), fun i bl hi => ?_, hr0 _ _ _ _ _ _ (fun b hb => (him b hb).1) hrel, fun i hi hs => ?_⟩
  · have hne : i ≠ 1000000000 := fun h => by subst h; simp [lk] at hi
    rw [p2 i hne]
    exact hok.dom i ((hlk i hne).1 hi)
  · simp only [lk] at hi
    split at hi
    · rename_i q1
      have q1' : i = 1000000000 := by simpa using q1
      subst q1'
      cases hi
      rw [p1]
      exact ⟨rfl, mv_some rfl hsz⟩
    · split at hi
      · rename_i q1 q2
        have q2' : i = 2000000030 := by simpa using q2
        subst q2'
        cases hi
        rw [p2 _ (by decide)]
        have h0 := hhr 2000000030 _ rfl
        cases hs : φ' 2000000030 with
        | none => trivial
        | nil =>
          rw [hs] at h0
          exact absurd h0.1 (by simp)
        | «at» bb cc =>
          rw [hs] at h0
          obtain ⟨us, el, h1, h2, h3⟩ := h0
          refine CRel.blk ⟨us, el, h1, ?_, h3⟩ rfl
          refine ⟨h2.1, fun k hk => ?_, h2.2.2⟩
          have hr := h2.2.1 k hk
          have hk2 : k < 2 := hk
          rcases (by omega : k = 0 ∨ k = 1) with rfl | rfl
          · exact cell_nil hr p1
          · exact cell_val hr
      · cases hi
  · by_cases hne : i = 1000000000
    · subst hne
      exact (hns hs).elim
    · rw [p2 i hne]
      exact (hfix i hi hs).imp id fun h => (hlk i hne).2 h
end Go.Proofs.Ytlfjnkobnkfioaa
