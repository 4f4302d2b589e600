/- A region whose order is drawn; the rules of code. -/
import Derived.Test.YtmeiemdnhjnpcaaAb16
set_option linter.unusedSimpArgs false
set_option linter.unusedVariables false
namespace Go.Ab
open Go.RowKit
section
variable {C : Cx} {G : Gl} {ops : List Oper} {hs : List (Nat × Hint)} {φ φ' : Phi} {a : Act} {w w' : World} {s s' sf : St} {Q : Exit → Act → World → Prop} {K : Act → World → Prop} {os : List Prop}

theorem blt_true {a b : Nat} (h : a < b) : Nat.blt a b = true := by
  rw [Nat.blt_eq]
  exact h
theorem blt_false {a b : Nat} (h : b ≤ a) : Nat.blt a b = false := by
  cases hc : Nat.blt a b with
  | false => rfl
  | true =>
    rw [Nat.blt_eq] at hc
    omega
theorem J.le {i k : Nat} (hJ : J ops i s) (h : i ≤ k) (hs : ∀ t d w x, lk s'.tm t = some (.gd d w x) → lk s.tm t = some (.gd d w x)) : J ops k s' := fun t d w x hx => by
  obtain ⟨j, ⟨hj, hd⟩, hg⟩ := hJ t d w x (hs t d w x hx)
  exact ⟨j, ⟨by omega, hd⟩, hg⟩
theorem stepB0_J {i : Nat} {o : Oper} (h : stepB0 C hs i s o = some (os, s')) (hJ : J ops i s) : J ops (i + 1) s' := by
  unfold stepB0 at h
  split at h
  · split at h
    · split at h
      · cases h
        exact hJ.le (by omega) (fun _ _ _ _ h => h)
      · cases h
    · cases h
  · split at h
    case h_2 => cases h
    split at h
    case h_2 => cases h
    split at h
    case h_2 => cases h
    split at h
    case h_2 => cases h
    split at h
    case h_2 => cases h
    rename_i hput
    cases h
    refine hJ.le (by omega) (fun t d w x hx => ?_)
    rcases put1_tm hput hx with h | ⟨_, h⟩ | ⟨_, h⟩
    · cases h
    · cases h
    · rcases lk_killT h with h | ⟨h, _⟩
      · cases h
      · exact h
  · split at h
    case h_2 => cases h
    split at h
    case h_2 => cases h
    split at h
    case h_2 => cases h
    split at h
    case h_2 => cases h
    rename_i hput
    cases h
    refine hJ.le (by omega) (fun t d w x hx => ?_)
    rcases put1_tm hput hx with h | ⟨_, h⟩ | ⟨_, h⟩
    · cases h
    · cases h
    · exact h
  · split at h
    case h_2 => cases h
    split at h
    case h_2 => cases h
    split at h
    case h_2 => cases h
    split at h
    case h_2 => cases h
    rename_i hput
    cases h
    refine hJ.le (by omega) (fun t d w x hx => ?_)
    rcases put1_tm hput hx with h | ⟨_, h⟩ | ⟨_, h⟩
    · cases h
    · cases h
    · rcases lk_killT h with h | ⟨h, _⟩
      · cases h
      · exact h
  · split at h
    case h_2 => cases h
    split at h
    case h_2 => cases h
    rename_i hev
    split at h
    case h_2 => cases h
    rename_i hput
    cases h
    refine hJ.le (by omega) (fun t d w x hx => ?_)
    rcases put1_tm hput hx with h | ⟨_, h⟩ | ⟨_, h⟩
    · cases h
    · cases h
    · rcases evCallO_tm hev h with h | h
      · cases h
      · exact h
  · cases h
theorem stepB_J {i : Nat} {o : Oper} (h : stepB C ops hs i s o = some (os, s')) (hJ : J ops i s) : J ops (i + 1) s' := by
  unfold stepB at h
  split at h
  · refine stepB0_J h (hJ.le (Nat.le_refl _) (fun t d w x hx => ?_))
    have hx : lk (resG ops s o) t = some (.gd d w x) := hx
    unfold resG at hx
    split at hx
    · exact hx
    · split at hx
      · rcases lk_resT hx with h1 | ⟨_, _, _, h1 | h1⟩
        · exact h1
        · cases h1.2
        · cases h1
      · exact hx
  · split at h
    · rename_i hput
      cases h
      refine hJ.le (by omega) (fun t d w x hx => ?_)
      rcases put1_tm hput hx with h | ⟨_, h⟩ | ⟨_, h⟩
      · cases h
      · cases h
      · exact h
    · cases h
  · cases h
def Lf (listed : Array Bool) (j : Nat) : Bool := listed.getD j false
theorem getD_tf {listed : Array Bool} {j : Nat} (h : j < listed.size) : listed.getD j true = listed.getD j false := by
  simp [Array.getD_eq_getD_getElem?, h]

theorem SegI.all {k0 m : Nat} {op : Nat → Oper} {st : Nat → St} {out : Nat → Out1} {S pd : Nat → Prop} (h : Seg C ops hs k0 m op st out) (hdw : Dw ops) (hI : SegI C ops hs k0 pd G m op st out S φ a w) (hS : ∀ i, i < m → S i) (hp : ∀ j, ¬pd j) : Inv C G (st m) φ a w := by
  obtain ⟨tm, _, k2, hInv, _⟩ := hI.end_ h hdw (fun i hi => .inl (hS i hi))
  refine ⟨hInv.size, hInv.defers, fun t x hx => hInv.tm t x (k2 t x (fun j hj => ?_) hx), hInv.hr, hInv.ok, hInv.x, hInv.frm, hInv.own, hInv.fix⟩
  rcases hj with hj | ⟨q, hq, _, hno⟩
  · exact absurd hj (hp j)
  · exact absurd (hS q hq) hno
theorem drawn (hT : TCok C.P C.tc) (hdw : Dw ops) (hQ : ∀ φ' a' w', Inv C G sf φ' a' w' → Q .normal a' w') : ∀ (f : Nat) (i m : Nat) (op : Nat → Oper) (st : Nat → St) (out : Nat → Out1) (S pd : Nat → Prop) (φ : Phi) (a : Act) (w : World) (os : List Prop) (listed : Array Bool),
    Seg C ops hs i m op st out → (∀ j, j < m → isBar (op j).op = false) → J ops (i + m) (st m) → runL C ops hs (i + m) (st m) (ops.drop (i + m)) = some (os, sf) → AllP os → i + m ≤ ops.length →
    (ops.drop (i + m) = [] ∨ ∃ o r, ops.drop (i + m) = o :: r ∧ isBar o.op = true) → (noLate ops = true ∨ lateAll C ops hs (i + m) (st m) (ops.drop (i + m)) = true) → SegI C ops hs i pd G m op st out S φ a w → listed.size = ops.length → DC ops (Lf listed) →
    (∀ j, j < ops.length → (listed.getD j false = true ↔ ((j < i ∧ ¬pd j) ∨ ∃ q, q < m ∧ j = i + q ∧ S q))) → unl listed ops.length ≤ f → wpAny C.P .any ops.toArray Q f listed a w := by
  intro f
  induction f with
  | zero =>
    intro i m op st out S pd φ a w os listed hseg hnb hJ hrun hos hle hnx hla hI hsz hdc hl hf
    have hall : ∀ j, j < ops.length → listed.getD j false = true := fun j hj => by
      rw [← getD_tf (by omega)]
      exact unl_zero _ (by omega) j hj
    have hS : ∀ q, q < m → S q := fun q hq => by
      rcases (hl (i + q) (by omega)).1 (hall _ (by omega)) with h | ⟨q', _, h2, h3⟩
      · omega
      · have : q = q' := by omega
        exact this ▸ h3
    have hend : ops.length = i + m := by
      refine Classical.byContradiction fun hne => ?_
      rcases (hl (i + m) (by omega)).1 (hall _ (by omega)) with h | ⟨q', h1, h2, _⟩ <;> omega
    refine ⟨?_, ?_⟩
    · refine List.eq_nil_iff_forall_not_mem.2 fun j hj => ?_
      obtain ⟨h1, o, ho, _⟩ := mem_ready.1 hj
      have hlt : j < ops.length := by have := (Array.getElem?_eq_some_iff.1 ho).1; simpa using this
      rw [getD_tf (by omega), hall j hlt] at h1
      cases h1
    · have hd : ops.drop (i + m) = [] := List.drop_eq_nil_of_le (by omega)
      rw [hd] at hrun
      cases hrun
      exact hQ φ a w (hI.all hseg hdw hS (fun j hj => by
        have h0 := (hI.pdk j hj).1
        rcases (hl j (by omega)).1 (hall j (by omega)) with h | ⟨q, _, h2, _⟩
        · exact h.2 hj
        · omega))
  | succ f ih =>
    intro i m op st out S pd φ a w os listed hseg hnb hJ hrun hos hle hnx hla hI hsz hdc hl hf
    have hbef := befs_ok ops
    refine ⟨fun hr => ?_, fun k hk => ?_⟩
    · -- none may come up: all have
      have hall : ∀ j, j < ops.length → listed.getD j false = true := fun j => by
        induction j using Nat.strongRecOn with
        | _ j ihj =>
          intro hj
          refine Classical.byContradiction fun hno => ?_
          have : j ∈ Region.ready .any ops.toArray listed := mem_ready.2 ⟨by rw [getD_tf (by omega)]; simpa using hno, ops[j], by simp [hj], fun e he hb => by
            have := hdw.back j ops[j] (List.getElem?_eq_getElem hj) e he hb
            exact ihj e.on this (by omega)⟩
          rw [hr] at this
          simp at this
      have hS : ∀ q, q < m → S q := fun q hq => by
        rcases (hl (i + q) (by omega)).1 (hall _ (by omega)) with h | ⟨q', _, h2, h3⟩
        · omega
        · have : q = q' := by omega
          exact this ▸ h3
      have hend : ops.length = i + m := by
        refine Classical.byContradiction fun hne => ?_
        rcases (hl (i + m) (by omega)).1 (hall _ (by omega)) with h | ⟨q', h1, h2, _⟩ <;> omega
      have hd : ops.drop (i + m) = [] := List.drop_eq_nil_of_le (by omega)
      rw [hd] at hrun
      cases hrun
      exact hQ φ a w (hI.all hseg hdw hS (fun j hj => by
        have h0 := (hI.pdk j hj).1
        rcases (hl j (by omega)).1 (hall j (by omega)) with h | ⟨q, _, h2, _⟩
        · exact h.2 hj
        · omega))
    · obtain ⟨hk0, o, ho, hpre⟩ := mem_ready.1 hk
      have ho' : ops[k]? = some o := by simpa using ho
      have hklt : k < ops.length := (List.getElem?_eq_some_iff.1 ho').1
      have hkl : listed.getD k false = false := by rw [← getD_tf (by omega)]; exact hk0
      have hkn : ¬((k < i ∧ ¬pd k) ∨ ∃ q, q < m ∧ k = i + q ∧ S q) := fun h => by
        rw [(hl k hklt).2 h] at hkl
        cases hkl
      -- what it waits for has come up
      have hrdy : ∀ j, ((befs ops).getD k 0).testBit j = true → listed.getD j false = true := fun j hj => hbef k j hj (Lf listed) hdc ⟨o, ho', fun e he hb => hpre e he hb⟩
      -- what has come up did not wait for it
      have hnot : ∀ j oj, ops[j]? = some oj → listed.getD j false = true → ((befs ops).getD j 0).testBit k = true → False := fun j oj hj hlj hb => by
        have := hbef j k hb (Lf listed) hdc ⟨oj, hj, fun e he hb' => hdc j oj hlj hj e he hb'⟩
        rw [show Lf listed k = listed.getD k false from rfl, hkl] at this
        cases this
      have hdc' : DC ops (Lf (listed.setIfInBounds k true)) := fun j oj hj hoj e he hb => by
        show (listed.setIfInBounds k true).getD e.on false = true
        by_cases e1 : j = k
        · subst e1
          rw [ho'] at hoj
          cases hoj
          exact getD_set_true (hpre e he hb)
        · have : (listed.setIfInBounds k true).getD j false = true := hj
          rw [getD_set_ne false (Ne.symm e1)] at this
          exact getD_set_true (hdc j oj this hoj e he hb)
      have hunl : unl (listed.setIfInBounds k true) ops.length ≤ f := by
        have := unl_set hk0 ops.length
        rw [if_pos hklt] at this
        omega
      have hkself : (listed.setIfInBounds k true).getD k false = true := by
        have : k < listed.size := by omega
        simp [Array.getD_eq_getD_getElem?, this]
      -- those that wait are not looked at
      have hwait : ∀ j, pd j → listed.getD j false = true → False := fun j hj hlj => by
        have h0 := (hI.pdk j hj).1
        rcases (hl j (by omega)).1 hlj with h | ⟨q, _, h2, _⟩
        · exact h.2 hj
        · omega
      have hlook : ∀ t, t ∈ rs ops o → ∀ j, j < k → listed.getD j false = false → dstAt ops j ≠ some t := fun t ht j hjk hlj hd => by
        unfold dstAt at hd
        cases hoj : ops[j]? with
        | none => simp [hoj] at hd
        | some oj =>
          have hd' : oj.dst = some t := by simpa [hoj] using hd
          have hor := hdw.rd k j o oj ho' hoj (by omega) t hd' ht
          unfold ordered at hor
          rw [blt_true hjk] at hor
          simp only [if_true] at hor
          rw [hrdy j hor] at hlj
          cases hlj
      by_cases hpk : pd k
      · have hki := (hI.pdk k hpk).1
        obtain ⟨_, of, df, rf, hpf⟩ := hI.pdk k hpk
        refine hI.late hT hseg hdw hpk (fun o1 ho1 t ht j hj hd => ?_) Q _ (fun a' w' φ' hI' => ?_)
        · have e1 : o1 = of := by rw [hpf.flt.at_] at ho1; exact (Option.some.inj ho1).symm
          subst e1
          have e2 : o1 = o := by rw [ho'] at ho1; exact (Option.some.inj ho1).symm
          subst e2
          rcases Nat.lt_trichotomy j k with h1 | h1 | h1
          · refine hlook t ht j h1 ?_ hd
            cases hc : listed.getD j false with
            | false => rfl
            | true => exact (hwait j hj hc).elim
          · subst h1
            unfold dstAt at hd
            rw [ho'] at hd
            exact hdw.self j o1 t ho' hd ht
          · unfold dstAt at hd
            cases hoj : ops[j]? with
            | none => simp [hoj] at hd
            | some oj =>
              have hd' : oj.dst = some t := by simpa [hoj] using hd
              exact hpf.flt.last j oj h1 hoj t ht hd'
        · refine ih i m op st out S _ φ' a' w' os _ hseg hnb hJ hrun hos hle hnx hla hI' (by simp [hsz]) hdc' (fun j hj => ?_) hunl
          by_cases e1 : j = k
          · subst e1
            exact ⟨fun _ => .inl ⟨hki, fun h => h.2 rfl⟩, fun _ => hkself⟩
          · rw [getD_set_ne false (Ne.symm e1), hl j hj]
            constructor
            · rintro (⟨h1, h2⟩ | h)
              · exact .inl ⟨h1, fun h3 => h2 h3.1⟩
              · exact .inr h
            · rintro (⟨h1, h2⟩ | h)
              · exact .inl ⟨h1, fun h3 => h2 ⟨h3, e1⟩⟩
              · exact .inr h
      have hpd0 : ∀ j, pd j → listed.getD j false = false := fun j hj => by
        cases hc : listed.getD j false with
        | false => rfl
        | true => exact (hwait j hj hc).elim
      by_cases hin : ∃ q, q < m ∧ k = i + q
      · obtain ⟨q, hq, rfl⟩ := hin
        have hSq : ¬S q := fun h => hkn (.inr ⟨q, hq, rfl, h⟩)
        have hoq : op q = o := by have := hseg.at_ q hq; rw [ho'] at this; cases this; rfl
        refine hI.step hT hseg hdw hq hSq (fun j g w' hj hSj hg p hp hgp => ?_) (fun t ht j hj hd => ?_) (fun t ht j hj => hlook t (hoq ▸ ht) j (by have := (hI.pdk j hj).1; omega) (hpd0 j hj)) Q _ (fun a' w' φ' hI' => ?_)
        · -- a guard of one that has come up has come up
          have hlj : listed.getD (i + j) false = true := (hl _ (by omega)).2 (.inr ⟨j, hj, rfl, hSj⟩)
          have hjo := hseg.at_ j hj
          have hgj := hdw.gd (i + j) (op j) g w' hjo hg
          have hpo := hseg.at_ p hp
          -- its slot is looked at
          have hrs : ∀ d, (op p).dst = some d → d ∈ rs ops (op j) := fun d hd => by
            unfold rs
            refine List.mem_append.2 (.inr ?_)
            simp only [hg]
            subst hgp
            unfold gch
            simp only [hpo, hd]
            simp
          cases hd : (op p).dst with
          | none =>
            exfalso
            have h1 := hseg.one j hj
            unfold step1 at h1
            rw [hg] at h1
            simp only [hgp, hpo, Option.bind_some, hd] at h1
            cases h1
          | some d =>
            have hor := hdw.rd (i + j) (i + p) (op j) (op p) hjo hpo (by omega) d hd (hrs d hd)
            unfold ordered at hor
            have hlt : Nat.blt (i + p) (i + j) = true := blt_true (by omega)
            rw [hlt] at hor
            simp only [if_true] at hor
            have := hbef (i + j) (i + p) hor (Lf listed) hdc ⟨_, hjo, fun e he hb' => hdc (i + j) _ hlj hjo e he hb'⟩
            rcases (hl (i + p) (by omega)).1 this with h | ⟨p', _, h2, h3⟩
            · omega
            · have : p = p' := by omega
              exact this ▸ h3
        · rw [hoq] at ht
          have hjo := hseg.at_ j hj
          by_cases hjq : j = q
          · subst hjq
            rw [hoq] at hd
            exact absurd ht (hdw.self (i + j) o t ho' hd)
          · have hor := hdw.rd (i + q) (i + j) o (op j) ho' hjo (by omega) t hd ht
            unfold ordered at hor
            refine ⟨fun hlt => ?_, fun hlt hSj => ?_, hjq⟩
            · have hb : Nat.blt (i + j) (i + q) = true := blt_true (by omega)
              rw [hb] at hor
              simp only [if_true] at hor
              rcases (hl (i + j) (by omega)).1 (hrdy _ hor) with h | ⟨p', _, h2, h3⟩
              · omega
              · have : j = p' := by omega
                exact this ▸ h3
            · have hb : Nat.blt (i + j) (i + q) = false := blt_false (by omega)
              rw [hb] at hor
              simp only [Bool.false_eq_true, if_false] at hor
              exact hnot (i + j) _ hjo ((hl _ (by omega)).2 (.inr ⟨j, hj, rfl, hSj⟩)) hor
        · refine ih i m op st out _ pd φ' a' w' os _ hseg hnb hJ hrun hos hle hnx hla hI' (by simp [hsz]) hdc' (fun j hj => ?_) hunl
          by_cases e1 : j = i + q
          · subst e1
            exact ⟨fun _ => .inr ⟨q, hq, rfl, .inr rfl⟩, fun _ => hkself⟩
          · rw [getD_set_ne false (Ne.symm e1), hl j hj]
            constructor
            · rintro (h | ⟨p, h1, h2, h3⟩)
              · exact .inl h
              · exact .inr ⟨p, h1, h2, .inl h3⟩
            · rintro (h | ⟨p, h1, h2, h3 | h3⟩)
              · exact .inl h
              · exact .inr ⟨p, h1, h2, h3⟩
              · subst h3
                exact absurd h2 e1
      · -- the next one that writes
        have hkge : i + m ≤ k := by
          refine Classical.byContradiction fun hc => ?_
          by_cases h1 : k < i
          · exact hkn (.inl ⟨h1, hpk⟩)
          · exact hin ⟨k - i, by omega, by omega⟩
        rcases hnx with hnil | ⟨ob, rb, hcons, hbar⟩
        · have : ops.length ≤ i + m := by
            have := congrArg List.length hnil
            simp at this
            omega
          omega
        · have hob : ops[i + m]? = some ob := by
            have : (ops.drop (i + m))[0]? = some ob := by rw [hcons]; rfl
            simpa using this
          have hke : k = i + m := by
            refine Classical.byContradiction fun hne => ?_
            rcases hdw.bar (i + m) k ob hob hklt (by omega) hbar with hor | ⟨_, h1, _⟩
            · unfold ordered at hor
              have hb : Nat.blt k (i + m) = false := blt_false (by omega)
              rw [hb] at hor
              simp only [Bool.false_eq_true, if_false] at hor
              rcases (hl (i + m) (by omega)).1 (hrdy _ hor) with h | ⟨p', h1, h2, _⟩
              · have := h.1
                omega
              · omega
            · omega
          subst hke
          have hoe : ob = o := by
            rw [hob] at ho'
            exact Option.some.inj ho'
          subst hoe
          have hS : ∀ q, q < m → S q ∨ (¬S q ∧ floats ops (i + q) = true) := fun q hq => by
            by_cases hSq : S q
            · exact .inl hSq
            · rcases hdw.bar (i + m) (i + q) ob hob (by omega) (by omega) hbar with hor | ⟨_, _, h1⟩
              · exfalso
                unfold ordered at hor
                have hb : Nat.blt (i + q) (i + m) = true := blt_true (by omega)
                rw [hb] at hor
                simp only [if_true] at hor
                rcases (hl (i + q) (by omega)).1 (hrdy _ hor) with h | ⟨p', _, h2, h3⟩
                · have := h.1
                  omega
                · have : q = p' := by omega
                  exact hSq (this ▸ h3)
              · exact .inr ⟨hSq, h1⟩
          obtain ⟨tm, k1, k2, hInv, hpd'⟩ := hI.end_ hseg hdw hS
          rw [hcons] at hrun
          unfold runL at hrun
          rw [hbar] at hrun
          simp only at hrun
          split at hrun
          case h_2 => cases hrun
          rename_i o1 s1 hst
          split at hrun
          case h_2 => cases hrun
          rename_i o2 sf' hrn
          cases hrun
          obtain ⟨p1, p2⟩ := AllP.append.1 hos
          have hrb : rb = ops.drop (i + m + 1) := by
            have := congrArg (List.drop 1) hcons
            simpa using this.symm
          have hJ1 : J ops (i + m + 1) s1 := stepB_J hst hJ
          obtain ⟨m2, op2, st2, out2, os2, e0, hseg2, hnb2, hJ2, hrn2, hos2, hle2, hnx2, hlate2⟩ := runL_seg hdw rb (i + m + 1) s1 o2 hrb hrn p2 hJ1
          have hla2 : noLate ops = true ∨ lateAll C ops hs (i + m + 1) s1 rb = true := by
            rcases hla with h | h
            · exact .inl h
            · rw [hcons] at h
              unfold lateAll at h
              rw [hbar] at h
              simp only [hst] at h
              split at h
              · rename_i e1 e2
                cases e2
                exact .inr h
              · cases h
          have hla3 : noLate ops = true ∨ lateAll C ops hs (i + m + 1 + m2) (st2 m2) (ops.drop (i + m + 1 + m2)) = true := hla2.imp id hlate2
          by_cases hsto : isSto ob.op = true
          case neg =>
            have hstrict : ∀ k, k < i + m → listed.getD k false = true := fun k hk => by
              rcases hdw.bar (i + m) k ob hob (by omega) (by omega) hbar with hor | ⟨h1, _⟩
              · unfold ordered at hor
                rw [blt_true hk] at hor
                simp only [if_true] at hor
                exact hrdy _ hor
              · exact absurd h1 hsto
            have hpd1 : ∀ j, ¬pd j := fun j hj => by
              have h0 := (hI.pdk j hj).1
              have := hpd0 j hj
              rw [hstrict j (by omega)] at this
              cases this
            have hS1 : ∀ q, q < m → S q := fun q hq => by
              rcases (hl (i + q) (by omega)).1 (hstrict _ (by omega)) with h | ⟨p', _, h2, h3⟩
              · have := h.1
                omega
              · have : q = p' := by omega
                exact this ▸ h3
            refine stepB_ok hT (hI.all hseg hdw hS1 hpd1) hob hst p1 (fun a' w' φ' hI' => ?_)
            refine ih (i + m + 1) m2 op2 st2 out2 (fun _ => False) (fun _ => False) φ' a' w' os2 _ hseg2 hnb2 hJ2 hrn2 hos2 (by omega) hnx2 hla3 (SegI.start (tm := s1.tm) hseg2 (by rw [e0]; exact hI') (fun t hn x hx => by rw [e0] at hx; exact hx) (fun j hj => hj.elim)) (by simp [hsz]) hdc' (fun j hj => ?_) hunl
            by_cases e1 : j = i + m
            · subst e1
              exact ⟨fun _ => .inl ⟨by omega, fun h => h⟩, fun _ => hkself⟩
            · rw [getD_set_ne false (Ne.symm e1), hl j hj]
              constructor
              · rintro (⟨h1, h2⟩ | ⟨p, h1, h2, h3⟩)
                · exact .inl ⟨by omega, fun h => h⟩
                · exact .inl ⟨by omega, fun h => h⟩
              · rintro (⟨h1, h2⟩ | ⟨p, h1, h2, h3⟩)
                · by_cases h4 : j < i
                  · exact .inl ⟨h4, hpd1 j⟩
                  · exact .inr ⟨j - i, by omega, by omega, hS1 _ (by omega)⟩
                · exact h3.elim
          obtain ⟨hstm, hst'⟩ := stepB_sub (ops := ops) (tm := tm) hsto hst (fun t ht x hx => k2 t x (fun j hj => by
            refine hlook t ht j (hpd' j hj).1 ?_
            rcases hj with hj | ⟨q, hq, rfl, hno⟩
            · exact hpd0 j hj
            · cases hc : listed.getD (i + q) false with
              | false => rfl
              | true =>
                rcases (hl (i + q) (by omega)).1 hc with h | ⟨p', _, h2, h3⟩
                · have := h.1
                  omega
                · have : q = p' := by omega
                  exact absurd (this ▸ h3) hno) hx)
          refine stepB_ok hT hInv hob hst' p1 (fun a' w' φ' hI' => ?_)
          refine ih (i + m + 1) m2 op2 st2 out2 (fun _ => False) (fun j => pd j ∨ ∃ q, q < m ∧ j = i + q ∧ ¬S q) φ' a' w' os2 _ hseg2 hnb2 hJ2 hrn2 hos2 (by omega) hnx2 hla3 (SegI.start (tm := tm) hseg2 (by rw [e0]; exact hI') (fun t hn x hx => k2 t x hn (by rw [e0, hstm] at hx; exact hx)) (fun j hj => ?_)) (by simp [hsz]) hdc' (fun j hj => ?_) hunl
          · obtain ⟨h1, o3, d3, r3, hp3⟩ := hpd' j hj
            obtain ⟨tm3, H3, q1, q2, q3⟩ := hp3.one
            refine ⟨by omega, o3, d3, r3, hp3.flt, hp3.ne, hp3.lt, ⟨tm3, H3, fun t x hx => by rw [e0, hstm]; exact q1 t x hx, fun id blk hl3 => ?_, q3⟩, hp3.obl, hp3.new, hp3.pl, by rw [e0, hstm]; exact hp3.val⟩
            obtain ⟨z1, ty3, t3, off3, z2, z3, z4⟩ := q2 id blk hl3
            refine ⟨?_, ty3, t3, off3, z2, z3, by rw [e0, hstm]; exact z4⟩
            obtain ⟨idw, tyw, xw, offw, zw, w1, w2, w3⟩ := stepB_other hsto hst
            rw [e0, w3 id ?_]
            · exact z1
            · -- it has not come up, so it is among those that are looked at
              have hjn : listed.getD j false = false := by
                rcases hj with hj | ⟨q, hq, rfl, hno⟩
                · exact hpd0 j hj
                · cases hc : listed.getD (i + q) false with
                  | false => rfl
                  | true =>
                    rcases (hl (i + q) (by omega)).1 hc with h | ⟨p', _, h2, h3⟩
                    · have := h.1
                      omega
                    · have : q = p' := by omega
                      exact absurd (this ▸ h3) hno
              have hnor : ordered (befs ops) j (i + m) = false := by
                cases hc : ordered (befs ops) j (i + m) with
                | false => rfl
                | true =>
                  exfalso
                  unfold ordered at hc
                  rw [blt_true h1] at hc
                  simp only [if_true] at hc
                  rw [hrdy _ hc] at hjn
                  cases hjn
              have hfl : floats ops j = true := by
                rcases hdw.bar (i + m) j ob hob (by omega) (by omega) hbar with hor | ⟨_, _, h⟩
                · rw [hnor] at hor
                  cases hor
                · exact h
              have hmem := lateLds_mem h1 hp3.flt.at_ z2 hfl hnor
              have hok : lateOk ops (i + m) (st m) ob = true := by
                rcases hla with h | h
                · unfold noLate at h
                  simp only [List.all_eq_true, List.mem_range] at h
                  have := h (i + m) hklt
                  simp only [hob, hbar, Bool.not_true, Bool.false_or, List.isEmpty_iff] at this
                  rw [this] at hmem
                  cases hmem
                · rw [hcons] at h
                  unfold lateAll at h
                  rw [hbar] at h
                  simp only at h
                  split at h
                  · assumption
                  · cases h
              exact lateOk_ne hok hmem w1 w2 z4
          by_cases e1 : j = i + m
          · subst e1
            refine ⟨fun _ => .inl ⟨by omega, fun h => ?_⟩, fun _ => hkself⟩
            rcases h with h | ⟨q, hq, h2, _⟩
            · have := (hI.pdk _ h).1
              omega
            · omega
          · rw [getD_set_ne false (Ne.symm e1), hl j hj]
            constructor
            · rintro (⟨h1, h2⟩ | ⟨p, h1, h2, h3⟩)
              · refine .inl ⟨by omega, fun h => ?_⟩
                rcases h with h | ⟨q, hq, h4, _⟩
                · exact h2 h
                · omega
              · refine .inl ⟨by omega, fun h => ?_⟩
                rcases h with h | ⟨q, hq, h4, h5⟩
                · have := (hI.pdk _ h).1
                  omega
                · have : q = p := by omega
                  exact h5 (this ▸ h3)
            · rintro (⟨h1, h2⟩ | ⟨p, h1, h2, h3⟩)
              · by_cases h4 : j < i
                · exact .inl ⟨h4, fun h => h2 (.inl h)⟩
                · exact .inr ⟨j - i, by omega, by omega, Classical.byContradiction fun hc => h2 (.inr ⟨j - i, by omega, by omega, hc⟩)⟩
              · exact h3.elim
end
end Go.Ab
