/- A region whose order is drawn; the rules of code. -/
import Derived.Test.YtklbonfbiakebaaAb16
set_option linter.unusedSimpArgs false
set_option linter.unusedVariables false
namespace Go.Ab
open Go.RowKit
section
variable {C : Cx} {G : Gl} {ops : List Oper} {hs : List (Nat × Hint)} {φ φ' : Phi} {a : Act} {w w' : World} {s s' sf : St} {Q : Exit → Act → World → Prop} {K : Act → World → Prop} {os : List Prop}

theorem blt_true {a b : Nat} (h : a < b) : Nat.blt a b = true := by
  rw [Nat.blt_eq]
  exact h
theorem blt_false {a b : Nat} (h : b ≤ a) : Nat.blt a b = false := by
  cases hc : Nat.blt a b with
  | false => rfl
  | true =>
    rw [Nat.blt_eq] at hc
    omega
theorem stepB_J {i : Nat} {o : Oper} (h : stepB C hs i s o = some (os, s')) (hJ : J ops i s) : J ops (i + 1) s' := by
  unfold stepB at h
  split at h
  · split at h
    · split at h
      · cases h
        intro t d w x hx
        obtain ⟨j, hj, hd⟩ := hJ t d w x hx
        exact ⟨j, by omega, hd⟩
      · cases h
    · cases h
  · cases h
def Lf (listed : Array Bool) (j : Nat) : Bool := listed.getD j false
theorem getD_tf {listed : Array Bool} {j : Nat} (h : j < listed.size) : listed.getD j true = listed.getD j false := by
  simp [Array.getD_eq_getD_getElem?, h]

theorem drawn (hT : TCok C.P C.tc) (hdw : Dw ops) (hQ : ∀ φ' a' w', Inv C G sf φ' a' w' → Q .normal a' w') : ∀ (f : Nat) (i m : Nat) (op : Nat → Oper) (st : Nat → St) (out : Nat → Out1) (S : Nat → Prop) (φ : Phi) (a : Act) (w : World) (os : List Prop) (listed : Array Bool),
    Seg C ops hs i m op st out → (∀ j, j < m → isBar (op j).op = false) → J ops (i + m) (st m) → runL C ops hs (i + m) (st m) (ops.drop (i + m)) = some (os, sf) → AllP os → i + m ≤ ops.length →
    (ops.drop (i + m) = [] ∨ ∃ o r, ops.drop (i + m) = o :: r ∧ isBar o.op = true) → SegI C G m op st out S φ a w → listed.size = ops.length → DC ops (Lf listed) →
    (∀ j, j < ops.length → (listed.getD j false = true ↔ (j < i ∨ ∃ q, q < m ∧ j = i + q ∧ S q))) → unl listed ops.length ≤ f → wpAny C.P .any ops.toArray Q f listed a w := by
  intro f
  induction f with
  | zero =>
    intro i m op st out S φ a w os listed hseg hnb hJ hrun hos hle hnx hI hsz hdc hl hf
    have hall : ∀ j, j < ops.length → listed.getD j false = true := fun j hj => by
      rw [← getD_tf (by omega)]
      exact unl_zero _ (by omega) j hj
    have hS : ∀ q, q < m → S q := fun q hq => by
      rcases (hl (i + q) (by omega)).1 (hall _ (by omega)) with h | ⟨q', _, h2, h3⟩
      · omega
      · have : q = q' := by omega
        exact this ▸ h3
    have hend : ops.length = i + m := by
      refine Classical.byContradiction fun hne => ?_
      rcases (hl (i + m) (by omega)).1 (hall _ (by omega)) with h | ⟨q', h1, h2, _⟩ <;> omega
    refine ⟨?_, ?_⟩
    · refine List.eq_nil_iff_forall_not_mem.2 fun j hj => ?_
      obtain ⟨h1, o, ho, _⟩ := mem_ready.1 hj
      have hlt : j < ops.length := by have := (Array.getElem?_eq_some_iff.1 ho).1; simpa using this
      rw [getD_tf (by omega), hall j hlt] at h1
      cases h1
    · have hd : ops.drop (i + m) = [] := List.drop_eq_nil_of_le (by omega)
      rw [hd] at hrun
      cases hrun
      exact hQ φ a w (hI.end_ hseg hS)
  | succ f ih =>
    intro i m op st out S φ a w os listed hseg hnb hJ hrun hos hle hnx hI hsz hdc hl hf
    have hbef := befs_ok ops
    refine ⟨fun hr => ?_, fun k hk => ?_⟩
    · -- none may come up: all have
      have hall : ∀ j, j < ops.length → listed.getD j false = true := fun j => by
        induction j using Nat.strongRecOn with
        | _ j ihj =>
          intro hj
          refine Classical.byContradiction fun hno => ?_
          have : j ∈ Region.ready .any ops.toArray listed := mem_ready.2 ⟨by rw [getD_tf (by omega)]; simpa using hno, ops[j], by simp [hj], fun e he hb => by
            have := hdw.back j ops[j] (List.getElem?_eq_getElem hj) e he hb
            exact ihj e.on this (by omega)⟩
          rw [hr] at this
          simp at this
      have hS : ∀ q, q < m → S q := fun q hq => by
        rcases (hl (i + q) (by omega)).1 (hall _ (by omega)) with h | ⟨q', _, h2, h3⟩
        · omega
        · have : q = q' := by omega
          exact this ▸ h3
      have hend : ops.length = i + m := by
        refine Classical.byContradiction fun hne => ?_
        rcases (hl (i + m) (by omega)).1 (hall _ (by omega)) with h | ⟨q', h1, h2, _⟩ <;> omega
      have hd : ops.drop (i + m) = [] := List.drop_eq_nil_of_le (by omega)
      rw [hd] at hrun
      cases hrun
      exact hQ φ a w (hI.end_ hseg hS)
    · obtain ⟨hk0, o, ho, hpre⟩ := mem_ready.1 hk
      have ho' : ops[k]? = some o := by simpa using ho
      have hklt : k < ops.length := (List.getElem?_eq_some_iff.1 ho').1
      have hkl : listed.getD k false = false := by rw [← getD_tf (by omega)]; exact hk0
      have hkn : ¬(k < i ∨ ∃ q, q < m ∧ k = i + q ∧ S q) := fun h => by
        rw [(hl k hklt).2 h] at hkl
        cases hkl
      -- what it waits for has come up
      have hrdy : ∀ j, ((befs ops).getD k 0).testBit j = true → listed.getD j false = true := fun j hj => hbef k j hj (Lf listed) hdc ⟨o, ho', fun e he hb => hpre e he hb⟩
      -- what has come up did not wait for it
      have hnot : ∀ j oj, ops[j]? = some oj → listed.getD j false = true → ((befs ops).getD j 0).testBit k = true → False := fun j oj hj hlj hb => by
        have := hbef j k hb (Lf listed) hdc ⟨oj, hj, fun e he hb' => hdc j oj hlj hj e he hb'⟩
        rw [show Lf listed k = listed.getD k false from rfl, hkl] at this
        cases this
      have hdc' : DC ops (Lf (listed.setIfInBounds k true)) := fun j oj hj hoj e he hb => by
        show (listed.setIfInBounds k true).getD e.on false = true
        by_cases e1 : j = k
        · subst e1
          rw [ho'] at hoj
          cases hoj
          exact getD_set_true (hpre e he hb)
        · have : (listed.setIfInBounds k true).getD j false = true := hj
          rw [getD_set_ne false (Ne.symm e1)] at this
          exact getD_set_true (hdc j oj this hoj e he hb)
      have hunl : unl (listed.setIfInBounds k true) ops.length ≤ f := by
        have := unl_set hk0 ops.length
        rw [if_pos hklt] at this
        omega
      have hkself : (listed.setIfInBounds k true).getD k false = true := by
        have : k < listed.size := by omega
        simp [Array.getD_eq_getD_getElem?, this]
      by_cases hin : ∃ q, q < m ∧ k = i + q
      · obtain ⟨q, hq, rfl⟩ := hin
        have hSq : ¬S q := fun h => hkn (.inr ⟨q, hq, rfl, h⟩)
        have hoq : op q = o := by have := hseg.at_ q hq; rw [ho'] at this; cases this; rfl
        refine hI.step hT hseg hdw hq hSq (fun j g w' hj hSj hg p hp hgp => ?_) (fun t ht j hj hd => ?_) Q _ (fun a' w' φ' hI' => ?_)
        · -- a guard of one that has come up has come up
          have hlj : listed.getD (i + j) false = true := (hl _ (by omega)).2 (.inr ⟨j, hj, rfl, hSj⟩)
          have hjo := hseg.at_ j hj
          have hgj := hdw.gd (i + j) (op j) g w' hjo hg
          have hpo := hseg.at_ p hp
          -- its slot is looked at
          have hrs : ∀ d, (op p).dst = some d → d ∈ rs ops (op j) := fun d hd => by
            unfold rs
            refine List.mem_append.2 (.inr ?_)
            simp only [hg]
            subst hgp
            unfold gch
            simp only [hpo, hd]
            simp
          cases hd : (op p).dst with
          | none =>
            exfalso
            have h1 := hseg.one j hj
            unfold step1 at h1
            rw [hg] at h1
            simp only [hgp, hpo, Option.bind_some, hd] at h1
            cases h1
          | some d =>
            have hor := hdw.rd (i + j) (i + p) (op j) (op p) hjo hpo (by omega) d hd (hrs d hd)
            unfold ordered at hor
            have hlt : Nat.blt (i + p) (i + j) = true := blt_true (by omega)
            rw [hlt] at hor
            simp only [if_true] at hor
            have := hbef (i + j) (i + p) hor (Lf listed) hdc ⟨_, hjo, fun e he hb' => hdc (i + j) _ hlj hjo e he hb'⟩
            rcases (hl (i + p) (by omega)).1 this with h | ⟨p', _, h2, h3⟩
            · omega
            · have : p = p' := by omega
              exact this ▸ h3
        · rw [hoq] at ht
          have hjo := hseg.at_ j hj
          by_cases hjq : j = q
          · subst hjq
            rw [hoq] at hd
            exact absurd ht (hdw.self (i + j) o t ho' hd)
          · have hor := hdw.rd (i + q) (i + j) o (op j) ho' hjo (by omega) t hd ht
            unfold ordered at hor
            refine ⟨fun hlt => ?_, fun hlt hSj => ?_, hjq⟩
            · have hb : Nat.blt (i + j) (i + q) = true := blt_true (by omega)
              rw [hb] at hor
              simp only [if_true] at hor
              rcases (hl (i + j) (by omega)).1 (hrdy _ hor) with h | ⟨p', _, h2, h3⟩
              · omega
              · have : j = p' := by omega
                exact this ▸ h3
            · have hb : Nat.blt (i + j) (i + q) = false := blt_false (by omega)
              rw [hb] at hor
              simp only [Bool.false_eq_true, if_false] at hor
              exact hnot (i + j) _ hjo ((hl _ (by omega)).2 (.inr ⟨j, hj, rfl, hSj⟩)) hor
        · refine ih i m op st out _ φ' a' w' os _ hseg hnb hJ hrun hos hle hnx hI' (by simp [hsz]) hdc' (fun j hj => ?_) hunl
          by_cases e1 : j = i + q
          · subst e1
            exact ⟨fun _ => .inr ⟨q, hq, rfl, .inr rfl⟩, fun _ => hkself⟩
          · rw [getD_set_ne false (Ne.symm e1), hl j hj]
            constructor
            · rintro (h | ⟨p, h1, h2, h3⟩)
              · exact .inl h
              · exact .inr ⟨p, h1, h2, .inl h3⟩
            · rintro (h | ⟨p, h1, h2, h3 | h3⟩)
              · exact .inl h
              · exact .inr ⟨p, h1, h2, h3⟩
              · subst h3
                exact absurd h2 e1
      · -- the next one that writes
        have hkge : i + m ≤ k := by
          refine Classical.byContradiction fun hc => ?_
          by_cases h1 : k < i
          · exact hkn (.inl h1)
          · exact hin ⟨k - i, by omega, by omega⟩
        rcases hnx with hnil | ⟨ob, rb, hcons, hbar⟩
        · have : ops.length ≤ i + m := by
            have := congrArg List.length hnil
            simp at this
            omega
          omega
        · have hob : ops[i + m]? = some ob := by
            have : (ops.drop (i + m))[0]? = some ob := by rw [hcons]; rfl
            simpa using this
          have hke : k = i + m := by
            refine Classical.byContradiction fun hne => ?_
            have hor := hdw.bar (i + m) k ob hob hklt (by omega) hbar
            unfold ordered at hor
            have hb : Nat.blt k (i + m) = false := blt_false (by omega)
            rw [hb] at hor
            simp only [Bool.false_eq_true, if_false] at hor
            rcases (hl (i + m) (by omega)).1 (hrdy _ hor) with h | ⟨p', h1, h2, _⟩ <;> omega
          subst hke
          have hoe : ob = o := by
            rw [hob] at ho'
            exact Option.some.inj ho'
          subst hoe
          have hS : ∀ q, q < m → S q := fun q hq => by
            have hor := hdw.bar (i + m) (i + q) ob hob (by omega) (by omega) hbar
            unfold ordered at hor
            have hb : Nat.blt (i + q) (i + m) = true := blt_true (by omega)
            rw [hb] at hor
            simp only [if_true] at hor
            rcases (hl (i + q) (by omega)).1 (hrdy _ hor) with h | ⟨p', _, h2, h3⟩
            · omega
            · have : q = p' := by omega
              exact this ▸ h3
          have hInv := hI.end_ hseg hS
          rw [hcons] at hrun
          unfold runL at hrun
          rw [hbar] at hrun
          simp only at hrun
          split at hrun
          case h_2 => cases hrun
          rename_i o1 s1 hst
          split at hrun
          case h_2 => cases hrun
          rename_i o2 sf' hrn
          cases hrun
          obtain ⟨p1, p2⟩ := AllP.append.1 hos
          have hrb : rb = ops.drop (i + m + 1) := by
            have := congrArg (List.drop 1) hcons
            simpa using this.symm
          have hJ1 : J ops (i + m + 1) s1 := stepB_J hst hJ
          obtain ⟨m2, op2, st2, out2, os2, e0, hseg2, hnb2, hJ2, hrn2, hos2, hle2, hnx2⟩ := runL_seg hdw rb (i + m + 1) s1 o2 hrb hrn p2 hJ1
          refine stepB_ok hT hInv hob hst p1 (fun a' w' φ' hI' => ?_)
          refine ih (i + m + 1) m2 op2 st2 out2 (fun _ => False) φ' a' w' os2 _ hseg2 hnb2 hJ2 hrn2 hos2 (by omega) hnx2 (SegI.start hseg2 (by rw [e0]; exact hI')) (by simp [hsz]) hdc' (fun j hj => ?_) hunl
          by_cases e1 : j = i + m
          · subst e1
            exact ⟨fun _ => .inl (by omega), fun _ => hkself⟩
          · rw [getD_set_ne false (Ne.symm e1), hl j hj]
            constructor
            · rintro (h | ⟨p, h1, h2, h3⟩)
              · exact .inl (by omega)
              · exact .inl (by omega)
            · rintro (h | ⟨p, h1, h2, h3⟩)
              · by_cases h4 : j < i
                · exact .inl h4
                · exact .inr ⟨j - i, by omega, by omega, hS _ (by omega)⟩
              · exact h3.elim
end
end Go.Ab
