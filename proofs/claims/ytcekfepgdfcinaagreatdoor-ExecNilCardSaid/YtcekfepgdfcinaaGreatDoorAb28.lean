/- A nil slice in a block's cell becomes an own one that may be appended to. -/
import Derived.Test.YtcekfepgdfcinaaGreatDoorAb27
import Derived.Test.YtcekfepgdfcinaaGreatDoorAb26
set_option linter.unusedSimpArgs false
set_option linter.unusedVariables false
namespace Go.Ab
open Go.RowKit
/-- The k-th one, if it is a nil slice, is d's. -/
def nbC (d : Nat) : Nat → List V → Option (List V)
  | _, [] => none
  | 0, .val (.slice none 0 0) :: r => some (.sl d 0 0 :: r)
  | 0, _ => none
  | k + 1, x :: r => (nbC d k r).map fun r' => x :: r'
def nbS (id k d e sz : Nat) (s : St) : Option St :=
  match lkC s.H id, lk s.H d, Nat.blt d BIG && Nat.blt 0 sz with
  | some b, none, true => (nbC d k b.cells).map fun cs => ⟨s.tm, ins d ⟨[], true, 0, some (e, sz)⟩ (ins id { b with cells := cs, flat := false } s.H)⟩
  | _, _, _ => none
theorem nbC_len {d : Nat} : ∀ {k : Nat} {cs cs' : List V}, nbC d k cs = some cs' → cs'.length = cs.length
  | _, [], _, h => by simp [nbC] at h
  | 0, x :: r, cs', h => by
    unfold nbC at h
    split at h
    · simp_all
    · rename_i heq
      simp at heq
      obtain ⟨_, rfl⟩ := heq
      cases h
      rfl
    · cases h
    · simp_all
  | k + 1, x :: r, cs', h => by
    simp only [nbC, Option.map_eq_some_iff] at h
    obtain ⟨r', h1, rfl⟩ := h
    simp [nbC_len h1]
theorem nbC_rel {I : Nat → Prop} {w : World} {φ : Phi} {d : Nat} (hd : φ d = .nil) : ∀ {k : Nat} {cs cs' : List V} {us : List Value}, nbC d k cs = some cs' → RelL I w φ cs us → RelL I w φ cs' us
  | _, [], _, _, h, _ => by simp [nbC] at h
  | 0, x :: r, cs', us, h, hr => by
    unfold nbC at h
    split at h
    · simp_all
    · rename_i heq
      simp at heq
      obtain ⟨rfl, rfl⟩ := heq
      cases h
      cases us with
      | nil => have := hr.1; simp at this
      | cons u us =>
        have h0 := hr.2.1 0 (by simp)
        have ht : RelL I w φ r us := by
          have := hr.drop 1
          simpa using this
        have hu : u = .slice none 0 0 := by
          have h0' : Rel I w φ (.val (.slice none 0 0)) u := by simpa using h0
          exact h0'.val_inv
        subst hu
        exact RelL.cons (.slnil hd) (hr.2.2 _ (by simp)) ht
    · cases h
    · simp_all
  | k + 1, x :: r, cs', us, h, hr => by
    simp only [nbC, Option.map_eq_some_iff] at h
    obtain ⟨r', h1, rfl⟩ := h
    cases us with
    | nil => have := hr.1; simp at this
    | cons u us =>
      have h0 := hr.2.1 0 (by simp)
      have ht : RelL I w φ r us := by
        have := hr.drop 1
        simpa using this
      exact RelL.cons (by simpa using h0) (hr.2.2 u (by simp)) (nbC_rel hd h1 ht)
theorem nbC_ne {d k : Nat} {cs : List V} : nbC d k [] = some cs → False := by
  cases k <;> simp [nbC]
theorem Inv.nb {C : Cx} {G : Gl} {s s' : St} {φ : Phi} {a : Act} {w : World} (hI : Inv C G s φ a w) {id k d e sz : Nat} (h : nbS id k d e sz s = some s') : Inv C G s' (φ.upd d .nil) a w := by
  unfold nbS at h
  split at h
  case h_2 => cases h
  rename_i b hb hd hbs
  simp only [Bool.and_eq_true] at hbs
  obtain ⟨hbig, hsz⟩ := hbs
  rw [Nat.blt_eq] at hsz
  simp only [Option.map_eq_some_iff] at h
  obtain ⟨cs, hcs, rfl⟩ := h
  have hφd : φ d = .none := hI.ok.dom d hd
  have hne : id ≠ d := fun e => by
    have := (lkC_lk hb).1
    rw [e, hd] at this
    cases this
  have up : ∀ i b c, φ i = .at b c → (φ.upd d .nil) i = .at b c := fun i b c hi => by
    unfold Phi.upd
    rw [if_neg (fun e => by rw [e, hφd] at hi; cases hi)]
    exact hi
  have upn : ∀ i, φ i = .nil → (φ.upd d .nil) i = .nil := fun i hi => by
    unfold Phi.upd
    split
    · rfl
    · exact hi
  have dn : ∀ i b c, (φ.upd d .nil) i = .at b c → φ i = .at b c := fun i b c hi => by
    unfold Phi.upd at hi
    split at hi
    · cases hi
    · exact hi
  have hdd : (φ.upd d .nil) d = .nil := by simp [Phi.upd]
  have im : ∀ b, Imm φ G.X w b → Imm (φ.upd d .nil) G.X w b ∧ w.heap[b]? = w.heap[b]? := fun b h => ⟨⟨h.1, fun i c hi => h.2.1 i c (dn i b c hi), h.2.2⟩, rfl⟩
  refine ⟨hI.size, hI.defers, fun t x hx => ?_, fun i blk hl => ?_, ⟨fun i j b c c' hi hj => hI.ok.inj i j b c c' (dn _ _ _ hi) (dn _ _ _ hj), fun i b c hi => hI.ok.lt i b c (dn _ _ _ hi), fun i b c hi => hI.ok.free i b c (dn _ _ _ hi), fun i hi => ?_⟩, hI.x, hI.frm, fun i b c hi => hI.own i b c (dn _ _ _ hi), fun i hq h0 => ?_⟩
  · have h0 := hI.tm t x hx
    cases x with
    | plain x => exact Rel.mono im h0 _ up upn
    | gd d' want x => exact ⟨fun h => Rel.mono im (h0.1 h) _ up upn, h0.2⟩
  · rw [lk_ins] at hl
    split at hl
    · rename_i e
      subst e
      cases hl
      rw [hdd]
      exact ⟨rfl, mv_some rfl hsz⟩
    · rename_i hnd
      rw [lk_ins] at hl
      split at hl
      · rename_i e
        subst e
        cases hl
        have h0 := hI.hr i b (lkC_lk hb).1
        have hmp := (lkC_lk hb).2
        have e2 : (φ.upd d .nil) i = φ i := by simp [Phi.upd, hnd]
        rw [e2]
        cases hs : φ i with
        | none => trivial
        | nil =>
          rw [hs] at h0
          rw [show b.cells = [] from h0.1] at hcs
          exact (nbC_ne hcs).elim
        | «at» bb c =>
          rw [hs] at h0
          simp only [BlkRel, hmp] at h0
          obtain ⟨us, el, h1, h2, h3⟩ := h0
          refine CRel.blk ⟨us, el, h1, ?_, ?_⟩ hmp
          · show RelL _ _ (φ.upd d .nil) cs (us.toList.take cs.length)
            rw [nbC_len hcs]
            refine nbC_rel hdd hcs (h2.mono im (fun j b c hj => ?_) (fun j hj => ?_))
            · unfold bFlat at hj
              split at hj
              · cases hj
              · exact up _ _ _ hj
            · unfold bFlat at hj
              split at hj
              · cases hj
              · exact upn _ hj
          · simp only [nbC_len hcs]
            exact h3
      · have h0 := hI.hr i blk hl
        have e2 : (φ.upd d .nil) i = φ i := by simp [Phi.upd, hnd]
        rw [e2]
        exact BlkRel.mono im (fun _ _ _ => rfl) up upn h0
  · rw [lk_ins] at hi
    split at hi
    · cases hi
    · rename_i hnd
      rw [lk_ins] at hi
      split at hi
      · cases hi
      · unfold Phi.upd
        rw [if_neg hnd]
        exact hI.ok.dom i hi
  · have hnd : i ≠ d := fun e => by
      subst e
      rw [Nat.blt_eq] at hbig
      omega
    rcases hI.fix i hq h0 with h | h
    · exact .inl (by unfold Phi.upd; rw [if_neg hnd]; exact h)
    · refine .inr ?_
      show lk (ins d _ (ins id _ s.H)) i = none
      rw [lk_ins, if_neg hnd, lk_ins, if_neg (fun e => by subst e; rw [(lkC_lk hb).1] at h; cases h)]
      exact h
theorem AWP.nb {C : Cx} {c : Code} {s s' : St} {K : Exit → St → Prop} (id k d e sz : Nat) (hs : nbS id k d e sz s = some s') (h : AWP C c s' K) : AWP C c s K := ⟨fun G φ a w n hI => h.run G _ a w n (hI.nb hs)⟩
end Go.Ab
