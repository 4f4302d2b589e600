/- The document's plan: a list that was made anew. -/
import Derived.Test.YtlfjnkobnkfioaaPlnU
namespace Go.Proofs.Ytlfjnkobnkfioaa
open Go.Ab
set_option linter.unusedSimpArgs false
set_option linter.unusedVariables false
/-- A builder that is lent may move. -/
theorem notStay_mv {I : Nat → Prop} {w : World} {φ : Phi} {B : Nat} {blk : Blk} (hB : B < BIG2) (hmv : mv blk = true) (hb : BlkRel I w φ (φ B) blk) : ¬stayS B (φ B) := by
  simp only [mv, Bool.and_eq_true, Bool.not_eq_true'] at hmv
  cases hs : φ B with
  | none => exact id
  | nil =>
    intro h
    have h : BIG2 ≤ B := h
    omega
  | «at» bb cc =>
    rw [hs] at hb
    simp only [BlkRel, hmv.2] at hb
    obtain ⟨us, el, _, _, h3⟩ := hb
    rintro (h | h)
    · subst h
      cases hbl : blk.bld with
      | none => rw [hbl] at hmv; simp at hmv
      | some q =>
        rw [hbl] at h3
        obtain ⟨_, cap, n, h4, _⟩ := h3
        cases h4
    · omega
def ids0 (r : V) : Prop := ∀ (I I' : Nat → Prop) (w : World) (φ φ' : Phi) (u : Value), (∀ b, I b → I' b) → Rel I w φ r u → Rel I' w φ' r u
theorem ids0_flat {r : V} (h : flat r = true) : ids0 r := fun I I' w φ φ' u hI hr => Rel.of_emp ((hr.emp h).mono (fun b hb => ⟨hI b hb, rfl⟩) _ (fun _ _ _ h => h) (fun _ h => h))
theorem ids0_tup {x y : V} (hx : ids0 x) (hy : ids0 y) : ids0 (.tup [x, y]) := fun I I' w φ φ' u hI hr => by
  cases hr with
  | tup hl hr =>
    refine .tup hl fun i hi => ?_
    have h2 : i < 2 := hi
    rcases (by omega : i = 0 ∨ i = 1) with rfl | rfl
    · exact hx _ _ _ _ _ _ hI (hr 0 hi)
    · exact hy _ _ _ _ _ _ hI (hr 1 hi)
theorem cell_sl {I I' : Nat → Prop} {w w' : World} {φ ψ : Phi} {i j n : Nat} {u : Value} (h : Rel I w φ (.sl j 0 n) u) (p : ψ i = φ j) : Rel I' w' ψ (.sl i 0 n) u := by
  cases h with
  | sl h1 h2 h3 h4 => exact .sl (p.trans h1) h2 h3 h4
  | slnil h1 => exact .slnil (p.trans h1)
theorem Con.newB {P : Program} {f : FuncId} {Hin : List (Nat × Blk)} {args : List V} {blk b1 : Blk} {off : Bool} {j n : Nat} {cs : List V} {e sz : Nat} {r : V}
    (h : Con P f Hin args [(j, ⟨cs, true, 0, some (e, sz)⟩), (1000000000, b1), (2000000030, ⟨[.sl j 0 n, vb off], false, 2, none⟩)] r) (hj : j < 1000000000) (hsz : 0 < sz)
    (hin : lk Hin 1000000000 = some blk) (hmv : mv blk = true) (hr0 : ids0 r) :
    Con P f Hin args [(1000000000, ⟨cs, true, 0, some (e, sz)⟩), (2000000030, ⟨[.sl 1000000000 0 n, vb off], false, 2, none⟩)] r := by
  refine ⟨h.1, fun X φ w us a b c d g => Calls.mono (h.2 X φ w us a b c d g) ?_⟩
  rintro e' w' ⟨u, φ', he, hf, hok, hown, hhr, hrel, hfix⟩
  have hns := notStay_mv (B := 1000000000) (by decide) hmv (c 1000000000 blk hin)
  obtain ⟨ψ, hψ⟩ : ∃ ψ : Phi, ψ = fun i => if i = 1000000000 then φ' j else if i = j then .none else φ' i := ⟨_, rfl⟩
  have p1 : ψ 1000000000 = φ' j := by simp [hψ]
  have pj : ψ j = .none := by subst hψ; show (if j = 1000000000 then φ' j else if j = j then Slot.none else φ' j) = _; rw [if_neg (by omega), if_pos rfl]
  have p2 : ∀ i, i ≠ 1000000000 → i ≠ j → ψ i = φ' i := fun i hi hi2 => by subst hψ; show (if i = 1000000000 then φ' j else if i = j then Slot.none else φ' i) = _; rw [if_neg hi, if_neg hi2]
  have p3 : ∀ i b c, ψ i = .at b c → ∃ i', φ' i' = .at b c ∧ (i = 1000000000 ∧ i' = j ∨ i ≠ 1000000000 ∧ i ≠ j ∧ i' = i) := fun i b c hi => by
    by_cases h1 : i = 1000000000
    · subst h1; exact ⟨j, by rwa [p1] at hi, .inl ⟨rfl, rfl⟩⟩
    · by_cases h2 : i = j
      · subst h2; rw [pj] at hi; cases hi
      · exact ⟨i, by rwa [p2 i h1 h2] at hi, .inr ⟨h1, h2, rfl⟩⟩
  have him : ∀ x, Imm φ' X w' x → Imm ψ X w' x ∧ w'.heap[x]? = w'.heap[x]? := fun x hx => ⟨⟨hx.1, fun i c hi => by
    obtain ⟨i', hi', _⟩ := p3 _ _ _ hi
    exact hx.2.1 i' c hi', hx.2.2⟩, rfl⟩
  refine ⟨u, ψ, he, hf, ⟨fun i k b c c' e1 e2 => ?_, fun i b c e => ?_, fun i b c e => ?_, fun i hi => ?_⟩, fun i b c e => ?_, fun i bl hi => ?_, hr0 _ _ _ _ _ _ (fun b hb => (him b hb).1) hrel, fun i hi hs => ?_⟩
  · obtain ⟨i', q1, q2⟩ := p3 _ _ _ e1
    obtain ⟨k', q3, q4⟩ := p3 _ _ _ e2
    have := hok.inj _ _ _ _ _ q1 q3
    omega
  · obtain ⟨i', q1, _⟩ := p3 _ _ _ e
    exact hok.lt _ _ _ q1
  · obtain ⟨i', q1, _⟩ := p3 _ _ _ e
    exact hok.free _ _ _ q1
  · have hne : i ≠ 1000000000 := fun h => by subst h; simp [lk] at hi
    by_cases hij : i = j
    · subst hij; exact pj
    · rw [p2 i hne hij]
      refine hok.dom i ?_
      simp only [lk] at hi ⊢
      rw [if_neg (by simpa using hij)]
      split at hi
      · cases hi
      · rename_i q1
        rw [if_neg q1]
        split at hi
        · cases hi
        · rename_i q2
          rw [if_neg q2]
  · obtain ⟨i', q1, _⟩ := p3 _ _ _ e
    exact hown _ _ _ q1
  · simp only [lk] at hi
    split at hi
    · rename_i q1
      have q1' : i = 1000000000 := by simpa using q1
      subst q1'
      cases hi
      rw [p1]
      have h0 := hhr j _ (by simp [lk]; rfl)
      cases hs : φ' j with
      | none => trivial
      | nil =>
        rw [hs] at h0
        exact h0
      | «at» bb cc =>
        rw [hs] at h0
        have hm : isMp ⟨cs, true, 0, some (e, sz)⟩ = false := isMp_some rfl hsz
        simp only [BlkRel, hm] at h0
        obtain ⟨us, el, h1, h2, h3⟩ := h0
        exact CRel.blk ⟨us, el, h1, h2.mono him (fun _ _ _ h => by cases h) (fun _ h => by cases h), h3⟩ hm
    · split at hi
      · rename_i q1 q2
        have q2' : i = 2000000030 := by simpa using q2
        subst q2'
        cases hi
        rw [p2 _ (by decide) (by omega)]
        have h0 := hhr 2000000030 _ (by simp only [lk]; rw [if_neg (by simp; omega), if_neg (by decide), if_pos (by decide)])
        cases hs : φ' 2000000030 with
        | none => trivial
        | nil =>
          rw [hs] at h0
          exact absurd h0.1 (by simp)
        | «at» bb cc =>
          rw [hs] at h0
          obtain ⟨us, el, h1, h2, h3⟩ := h0
          refine CRel.blk ⟨us, el, h1, ?_, h3⟩ rfl
          refine ⟨h2.1, fun k hk => ?_, h2.2.2⟩
          have hr := h2.2.1 k hk
          have hk2 : k < 2 := hk
          rcases (by omega : k = 0 ∨ k = 1) with rfl | rfl
          · exact cell_sl hr p1
          · exact cell_val hr
      · cases hi
  · by_cases hne : i = 1000000000
    · subst hne
      exact (hns hs).elim
    · have hij : i ≠ j := fun h => by
        have hB : 1000000000 ≤ i := hi
        omega
      rw [p2 i hne hij]
      refine (hfix i hi hs).imp id fun h => ?_
      simp only [lk] at h ⊢
      rw [if_neg (by simpa using hij)] at h
      split at h
      · cases h
      · rename_i q1
        rw [if_neg q1]
        split at h
        · cases h
        · rename_i q2
          rw [if_neg q2]
end Go.Proofs.Ytlfjnkobnkfioaa
