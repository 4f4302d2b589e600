/- What one operation yields, read on plain data: operators, conversions, slices of slices, lengths. -/
import Derived.Test.YtcekfepgdfcinaaGreatDoorAb1
import Derived.Test.YtcekfepgdfcinaaGreatDoorGt
import Derived.Deep.MidRow
import Derived.Laws.BytesString
import Derived.Laws.Cover3
set_option linter.unusedSimpArgs false
set_option linter.unusedVariables false
namespace Go.Ab
open Go.RowKit

structure TI where
  desc : TypeDesc
  size : Nat
  bytes : Nat
  zero : List Value
  cmp : Bool

def isRow : TypeDesc → Bool
  | .struct _ | .array _ _ => true
  | _ => false
def aggB : Value → Bool
  | .agg _ => true
  | _ => false
structure TIok (P : Program) (t : TypeId) (ti : TI) : Prop where
  desc : P.underlying t = some ti.desc
  info : ∃ i, P.info? t = some i ∧ i.size = ti.size ∧ i.bytes = ti.bytes ∧ ∃ z, i.zero = some z ∧ z.cells.toList = ti.zero ∧ aggB z = isRow ti.desc
  cmp : ti.cmp = true → P.stoodInHeld t = false ∧ P.eqGuardType P.depth t = false
/-- What the program says of a type. -/
def tiOf (P : Program) (t : TypeId) : Option TI :=
  match P.underlying t, P.info? t with
  | some d, some i => match i.zero with
    | some z => match aggB z == isRow d with
      | true => some ⟨d, i.size, i.bytes, z.cells.toList, isRow d && (!(P.stoodInHeld t) && !(P.eqGuardType P.depth t))⟩
      | false => none
    | none => none
  | _, _ => none
theorem TIok.of {P : Program} {t : TypeId} {ti : TI} (h : tiOf P t = some ti) : TIok P t ti := by
  unfold tiOf at h
  split at h
  · rename_i d i hd hi
    split at h
    · rename_i z hz
      split at h
      · rename_i hr
        cases h
        refine ⟨hd, ⟨i, hi, rfl, rfl, z, hz, rfl, by simpa using hr⟩, fun hc => ?_⟩
        simp only [Bool.and_eq_true, Bool.not_eq_true'] at hc
        exact hc.2
      · cases h
    · cases h
  · cases h
def TCok (P : Program) : List (Nat × TI) → Prop
  | [] => True
  | (t, ti) :: r => TIok P t ti ∧ TCok P r
def tcs (P : Program) : List (Nat × TI) → List (Option TI)
  | [] => []
  | (t, _) :: r => tiOf P t :: tcs P r
def tis : List (Nat × TI) → List (Option TI)
  | [] => []
  | (_, ti) :: r => some ti :: tis r
theorem TCok.of {P : Program} : ∀ {tc : List (Nat × TI)}, tcs P tc = tis tc → TCok P tc
  | [], _ => trivial
  | (t, ti) :: r, h => by
    simp only [tcs, tis, List.cons.injEq] at h
    exact ⟨TIok.of h.1, TCok.of h.2⟩
theorem TCok.get {P : Program} {tc : List (Nat × TI)} (h : TCok P tc) {t : Nat} {ti : TI} (ht : lk tc t = some ti) : TIok P t ti := by
  induction tc with
  | nil => cases ht
  | cons p r ih =>
    obtain ⟨k, x⟩ := p
    simp only [lk] at ht
    split at ht
    · rename_i e
      simp at e
      subst e
      cases ht
      exact h.1
    · exact ih h.2 ht
section
variable {P : Program} {t : TypeId} {ti : TI}
theorem TIok.und (h : TIok P t ti) (w : World) : (underlying t).run P w = .ok ti.desc w := run_underlying h.desc w
theorem TIok.info_ (h : TIok P t ti) : (P.info? t).map (·.size) = some ti.size := by
  obtain ⟨i, h1, h2, _⟩ := h.info
  simp [h1, h2]
theorem TIok.sizeOf (h : TIok P t ti) (w : World) : (sizeOf t).run P w = .ok ti.size w := by
  obtain ⟨i, h1, h2, _⟩ := h.info
  simp [Go.sizeOf, typeInfo, h1, h2]
theorem TIok.typeInfo (h : TIok P t ti) (w : World) : ∃ i, (typeInfo t).run P w = .ok i w ∧ i.size = ti.size ∧ i.bytes = ti.bytes := by
  obtain ⟨i, h1, h2, h3, _⟩ := h.info
  exact ⟨i, by simp [Go.typeInfo, h1], h2, h3⟩
theorem TIok.zeroValue (h : TIok P t ti) (w : World) : ∃ z, (zeroValue t).run P w = .ok z w ∧ z.cells.toList = ti.zero ∧ aggB z = isRow ti.desc := by
  obtain ⟨i, h1, _, _, z, h2, h3⟩ := h.info
  exact ⟨z, by simp [Go.zeroValue, Go.typeInfo, h1, h2], h3⟩
end
theorem TIok.isAgg {P : Program} {t : TypeId} {ti : TI} (h : TIok P t ti) (w : World) : (isAgg t).run P w = .ok (isRow ti.desc) w := by
  unfold Go.isAgg
  rw [Sem.run_bind, h.und w]
  cases ti.desc <;> rfl

def AllP : List Prop → Prop
  | [] => True
  | p :: r => p ∧ AllP r
theorem AllP.append {l r : List Prop} : AllP (l ++ r) ↔ AllP l ∧ AllP r := by
  induction l with
  | nil => simp [AllP]
  | cons p l ih => simp [AllP, ih, and_assoc]

abbrev Out := Option (List Prop × V)

/-- A bound: reckoned, or owed. -/
def chk (sym : Bool) (b : Bool) (p : Prop) : Option (List Prop) := if sym then some [p] else if b then some [] else none
theorem chk_ok {sym b : Bool} {p : Prop} {o : List Prop} (h : chk sym b p = some o) (hb : b = true → p) (ho : AllP o) : p := by
  unfold chk at h
  cases sym
  · cases b
    · simp at h
    · exact hb rfl
  · simp at h
    subst h
    exact ho.1

def gI (cs : List V) (i : Nat) : V := cs.getD i .top
theorem RelL.gI {I : Nat → Prop} {w : World} {φ : Phi} {cs : List V} {us : List Value} (h : RelL I w φ cs us) {i : Nat} (hi : i < cs.length) : ∃ u, us[i]? = some u ∧ Rel I w φ (gI cs i) u ∧ u.oneCell' = true := by
  have := h.get (List.getElem?_eq_getElem hi)
  simpa [Ab.gI, List.getD_eq_getElem?_getD, List.getElem?_eq_getElem hi] using this

/-! Loads. -/
def part_ (fl row : Bool) (cs : List V) (off s : Nat) : V := if row then .agg fl ((cs.drop off).take s) else gI cs off

inductive Mem (I : Nat → Prop) (w : World) (φ : Phi) : List V → Addr → Prop
  | mk {cs us a} : RelL I w φ cs us → (∀ j u, us[j]? = some u → w.cell? ⟨a.block, a.off + j, none⟩ = some u) → a.spot = none → Mem I w φ cs a

theorem mem_vp {I : Nat → Prop} {w : World} {φ : Phi} {cs : List V} {u : Value} (h : Rel I w φ (.vp cs) u) (hne : 0 < cs.length) : ∃ a, u = .pointer (some a) ∧ Mem I w Phi.emp cs a ∧ I a.block := by
  cases h with
  | vp hl hr h1 hc =>
    rename_i us a
    have h0 : 0 < us.length := by omega
    obtain ⟨b, o, e, hi, _⟩ := hc 0 _ (List.getElem?_eq_getElem h0)
    cases e
    refine ⟨_, rfl, .mk ⟨hl, hr, h1⟩ (fun j u hu => ?_) rfl, hi⟩
    obtain ⟨b', o', e, _, hcell⟩ := hc j u hu
    cases e
    exact hcell
theorem Mem.drop {I : Nat → Prop} {w : World} {φ : Phi} {cs : List V} {b o : Nat} (h : Mem I w φ cs ⟨b, o, none⟩) (n : Nat) : Mem I w φ (cs.drop n) ⟨b, o + n, none⟩ := by
  cases h with
  | mk hr hc hs =>
    refine .mk (hr.drop n) (fun j u hu => ?_) rfl
    rw [List.getElem?_drop] at hu
    have := hc _ _ hu
    simpa [Nat.add_assoc] using this
theorem mem_blk {I : Nat → Prop} {w : World} {φ : Phi} {blk : Blk} {b : Nat} {c : Option Nat} (h : CRel I w φ b c blk) : Mem I w (bFlat φ blk.flat) blk.cells ⟨b, 0, none⟩ := by
  obtain ⟨us, el, hh, hr, _⟩ := h
  refine .mk hr (fun j u hu => ?_) rfl
  rw [List.getElem?_take] at hu
  split at hu
  · simp only [Nat.zero_add]
    simp [World.cell?, hh]
    simpa using hu
  · cases hu

theorem run_load_mem {P : Program} {I : Nat → Prop} {w : World} {φ : Phi} {cs : List V} {b o : Nat} {t : TypeId} {ti : TI} (ht : TIok P t ti) (h : Mem I w φ cs ⟨b, o, none⟩) (fl : Bool) (φ' : Phi) (hφ : φ = bFlat φ' fl)
    (hs : ti.size ≤ cs.length) (hs1 : isRow ti.desc = false → ti.size = 1) :
    ∃ u, (loadVar t ⟨b, o, none⟩).run P w = .ok u w ∧ Rel I w φ' (part_ fl (isRow ti.desc) cs 0 ti.size) u := by
  cases h with
  | mk hr hc hsp =>
  rename_i us
  cases hrow : isRow ti.desc with
  | true =>
    have hr' := hr.take ti.size
    have hl : (us.take ti.size).length = ti.size := by simp [hr.1]; omega
    refine ⟨.agg (us.take ti.size).toArray, run_loadVar_mid w b o t (us.take ti.size) ti.desc (fun j v hv => ?_) ht.desc ?_ (by rw [hl]; exact ht.info_), ?_⟩
    · rw [List.getElem?_take] at hv
      split at hv
      · exact hc j v hv
      · cases hv
    · cases hd : ti.desc <;> simp_all [isRow]
    · simp only [part_, if_true, List.drop_zero]
      refine .agg (by simpa using hr'.1) (fun i hi => ?_) (by simpa using hr'.2.2)
      have := hr'.2.1 i hi
      subst hφ
      exact this
  | false =>
    have h0 : 0 < cs.length := by have := hs1 hrow; omega
    obtain ⟨u, hu, hru, _⟩ := hr.gI h0
    refine ⟨u, ?_, ?_⟩
    · have hcell := hc 0 u hu
      simp only [Nat.add_zero] at hcell
      simp [loadVar, Sem.run_bind, ht.isAgg w, hrow, hcell]
    · simp only [part_]
      subst hφ
      cases fl
      · exact hru
      · exact hru.of_emp

def evLoad (tc : List (Nat × TI)) (H : List (Nat × Blk)) (sym : Bool) (t : TypeId) (x : V) : Out :=
  match lk tc t with
  | some ti => if !(isRow ti.desc) && !(ti.size == 1) then none else
    match x with
    | .ptr id off => match lkC H id with
      | some blk =>
        match isRow ti.desc && (blk.bld.isNone && blk.size == ti.size) with
        | true => match chk sym (off == 0) (off = 0) with
          | some o => some (o, .agg blk.flat blk.cells)
          | none => none
        | false => match chk sym (Nat.ble (off + ti.size) blk.cells.length) (off + ti.size ≤ blk.cells.length) with
          | some o => some (o, part_ blk.flat (isRow ti.desc) blk.cells off ti.size)
          | none => none
      | none => none
    | .vp cs => if ti.size == 0 then none else match chk sym (Nat.ble ti.size cs.length) (ti.size ≤ cs.length) with
      | some o => some (o, part_ true (isRow ti.desc) cs 0 ti.size)
      | none => none
    | _ => none
  | none => none

section
variable {P : Program} {I : Nat → Prop} {w : World} {φ : Phi} {tc : List (Nat × TI)} {H : List (Nat × Blk)} {sym : Bool} {o : List Prop} {v x y : V} {u ux uy : Value}
theorem slot_blk (hH : HR I w φ H) {id : Nat} {blk : Blk} (hb : lkC H id = some blk) {b : Nat} {c : Option Nat} (hs : φ id = .at b c) : CRel I w φ b c blk := by
  obtain ⟨h1, h2⟩ := lkC_lk hb
  have := hH id blk h1
  rw [hs] at this
  simp only [BlkRel, h2] at this
  exact this

theorem evLoad_ok (hT : TCok P tc) {t : TypeId} (h : evLoad tc H sym t x = some (o, v)) (ho : AllP o) (hx : Rel I w φ x u) (hH : HR I w φ H) : ∃ r, (Instr.loadAt t u).run P w = .ok r w ∧ Rel I w φ v r := by
  unfold evLoad at h
  cases hti : lk tc t with
  | none => simp [hti] at h
  | some ti =>
    have ht := hT.get hti
    simp only [hti] at h
    cases hc1 : (!(isRow ti.desc) && !(ti.size == 1)) with
    | true => simp [hc1] at h
    | false =>
      have hs1 : isRow ti.desc = false → ti.size = 1 := fun hr => by simpa [hr] using hc1
      simp only [hc1, Bool.false_eq_true, if_false] at h
      cases x with
      | ptr id off =>
        simp only at h
        cases hb : lkC H id with
        | none => simp [hb] at h
        | some blk =>
          simp only [hb] at h
          cases hx with
          | ptr hs =>
          rename_i b c
          have hblk := slot_blk hH hb hs
          have hm := mem_blk hblk
          simp only [Instr.loadAt, Instr.sureAddr, Sem.run_bind, Sem.run_pure, Result.andThen_ok]
          cases hw : (isRow ti.desc && (blk.bld.isNone && blk.size == ti.size)) with
          | true =>
            simp only [hw] at h
            cases hk : chk sym (off == 0) (off = 0) with
            | none => simp [hk] at h
            | some o' =>
              simp only [hk, Option.some.injEq, Prod.mk.injEq] at h
              obtain ⟨rfl, rfl⟩ := h
              have h0 := chk_ok hk (by simp) ho
              subst h0
              simp only [Bool.and_eq_true, beq_iff_eq] at hw
              obtain ⟨hrow, hbn, hsz⟩ := hw
              obtain ⟨us, el, hh, hr, hk⟩ := hblk
              cases hbl : blk.bld with
              | some q => simp [hbl] at hbn
              | none =>
                simp only [hbl] at hk
                obtain ⟨k1, k2, k3⟩ := hk
                obtain ⟨r, hr1, hr2⟩ := run_load_mem ht hm blk.flat φ rfl (by omega) hs1
                refine ⟨r, hr1, ?_⟩
                rw [hrow, part_, if_pos rfl, List.drop_zero, List.take_of_length_le (by omega)] at hr2
                exact hr2
          | false =>
            simp only [hw] at h
            cases hk : chk sym (Nat.ble (off + ti.size) blk.cells.length) (off + ti.size ≤ blk.cells.length) with
            | none => simp [hk] at h
            | some o' =>
              simp only [hk, Option.some.injEq, Prod.mk.injEq] at h
              obtain ⟨rfl, rfl⟩ := h
              have h0 := chk_ok hk (by simp) ho
              have := hm.drop off
              rw [Nat.zero_add] at this
              obtain ⟨r, hr1, hr2⟩ := run_load_mem ht this blk.flat φ rfl (by simp; omega) hs1
              refine ⟨r, hr1, ?_⟩
              unfold part_ at hr2 ⊢
              simpa [gI, List.getD_eq_getElem?_getD] using hr2
      | vp cs =>
        simp only at h
        split at h
        · cases h
        rename_i hz
        cases hk : chk sym (Nat.ble ti.size cs.length) (ti.size ≤ cs.length) with
        | none => simp [hk] at h
        | some o' =>
          simp only [hk, Option.some.injEq, Prod.mk.injEq] at h
          obtain ⟨rfl, rfl⟩ := h
          have h0 := chk_ok hk (by simp) ho
          have hz' : ti.size ≠ 0 := by simpa using hz
          obtain ⟨ad, rfl, hm, _⟩ := mem_vp hx (by omega)
          obtain ⟨b, off, sp⟩ := ad
          have hsp : sp = none := by cases hm with | mk _ _ hs => exact hs
          subst hsp
          simp only [Instr.loadAt, Instr.sureAddr, Sem.run_bind, Sem.run_pure, Result.andThen_ok]
          exact run_load_mem ht hm true φ rfl (by omega) hs1
      | _ => simp at h
end
end Go.Ab

set_option linter.unusedSimpArgs false
set_option linter.unusedVariables false
namespace Go.Ab
open Go.RowKit
section
variable {P : Program} {I : Nat → Prop} {w : World} {φ : Phi} {tc : List (Nat × TI)} {H : List (Nat × Blk)} {sym : Bool} {o : List Prop} {v x y : V} {u ux uy : Value}

theorem Rel.vp_drop {cs : List V} {a : Addr} (h : Rel I w φ (.vp cs) (.pointer (some a))) (n : Nat) : Rel I w φ (.vp (cs.drop n)) (.pointer (some (a.add n))) := by
  cases h with
  | vp hl hr h1 hc =>
    rename_i us
    have hrl : RelL I w Phi.emp cs us := ⟨hl, hr, h1⟩
    have := hrl.drop n
    refine .vp this.1 this.2.1 this.2.2 (fun j u hu => ?_)
    rw [List.getElem?_drop] at hu
    obtain ⟨b, o, e, hi, hcell⟩ := hc _ _ hu
    cases e
    refine ⟨b, o + n, by rw [Addr.add_mid], hi, ?_⟩
    rwa [Nat.add_assoc]
theorem Rel.vp_pointer {cs : List V} {u : Value} (h : Rel I w φ (.vp cs) u) : ∃ a, u = .pointer (some a) := by
  cases h
  exact ⟨_, rfl⟩

def evFieldAddr (tc : List (Nat × TI)) (s : TypeId) (x : V) (f : Nat) : Out :=
  match lk tc s with
  | some ⟨.struct fields, _, _, _, _⟩ => match fields.toList[f]? with
    | some fl => match lk tc fl.type with
      | some fi => if fi.size == 0 then none else
        match x with
        | .ptr id off => some ([], .ptr id (off + fl.offset))
        | .vp cs => some ([], .vp (cs.drop fl.offset))
        | _ => none
      | none => none
    | none => none
  | _ => none
theorem evFieldAddr_ok (hT : TCok P tc) {s : TypeId} {f : Nat} (h : evFieldAddr tc s x f = some (o, v)) (hx : Rel I w φ x u) : ∃ r, (Instr.fieldAt s u f).run P w = .ok r w ∧ Rel I w φ v r := by
  unfold evFieldAddr at h
  split at h
  · rename_i fields s1 s2 s3 s4 hti
    split at h
    · rename_i fl hfl
      split at h
      · rename_i fi hfi
        split at h
        · cases h
        rename_i hz
        have ht := hT.get hti
        have hft := hT.get hfi
        have hf : fields[f]? = some fl := by simpa using hfl
        have hpl : ∀ a : Addr, (fieldPlace a fl).run P w = .ok (a.add fl.offset) w := fun a => by
          have : fi.size ≠ 0 := by simpa using hz
          simp [fieldPlace, Sem.run_bind, hft.sizeOf w, this]
        have hrun : ∀ a : Addr, (Instr.fieldAt s (.pointer (some a)) f).run P w = .ok (.pointer (some (a.add fl.offset))) w := fun a => by
          simp only [Instr.fieldAt, Sem.run_bind, ht.und w, Result.andThen_ok, hf, Instr.sureAddr, Sem.run_pure, hpl]
        split at h
        · cases h
          cases hx with
          | ptr hs =>
            refine ⟨_, hrun _, ?_⟩
            rw [Addr.add_mid]
            exact .ptr hs
        · cases h
          obtain ⟨a, rfl⟩ := hx.vp_pointer
          exact ⟨_, hrun _, hx.vp_drop _⟩
        · cases h
      · cases h
    · cases h
  · cases h

def evField (tc : List (Nat × TI)) (sym : Bool) (s : TypeId) (x : V) (f : Nat) : Out :=
  match lk tc s with
  | some ⟨.struct fields, _, _, _, _⟩ => match fields.toList[f]? with
    | some fl => match lk tc fl.type with
      | some fi => match x with
        | .agg g cs => if isRow fi.desc then some ([], .agg g ((cs.drop fl.offset).take fi.size)) else
          match chk sym (Nat.blt fl.offset cs.length) (fl.offset < cs.length) with
          | some o => some (o, gI cs fl.offset)
          | none => none
        | _ => none
      | none => none
    | none => none
  | _ => none
theorem agg_sub {g : Bool} {cs : List V} {us : Array Value} (h : Rel I w φ (.agg g cs) (.agg us)) (n k : Nat) : Rel I w φ (.agg g ((cs.drop n).take k)) (.agg (us.extract n (n + k))) := by
  cases h with
  | agg hl hr h1 =>
    have hrl : RelL I w (if g then Phi.emp else φ) cs us.toList := ⟨by simpa using hl, hr, h1⟩
    have := (hrl.drop n).take k
    have e : (us.extract n (n + k)).toList = (us.toList.drop n).take k := by simp
    refine .agg (by simp; omega) (fun i hi => ?_) ?_
    · rw [e]; exact this.2.1 i hi
    · rw [e]; exact this.2.2
theorem agg_get {g : Bool} {cs : List V} {us : Array Value} (h : Rel I w φ (.agg g cs) (.agg us)) {n : Nat} (hn : n < cs.length) : ∃ u, us[n]? = some u ∧ Rel I w φ (gI cs n) u := by
  cases h with
  | agg hl hr h1 =>
    have hrl : RelL I w (if g then Phi.emp else φ) cs us.toList := ⟨by simpa using hl, hr, h1⟩
    obtain ⟨u, hu, hru, _⟩ := hrl.gI hn
    refine ⟨u, by simpa using hu, ?_⟩
    cases g
    · exact hru
    · exact hru.of_emp
theorem Rel.agg_inv {g : Bool} {cs : List V} (h : Rel I w φ (.agg g cs) u) : ∃ us, u = .agg us ∧ us.size = cs.length := by
  cases h with
  | agg hl => exact ⟨_, rfl, hl⟩
theorem evField_ok (hT : TCok P tc) {s : TypeId} {f : Nat} (h : evField tc sym s x f = some (o, v)) (ho : AllP o) (hx : Rel I w φ x u) : ∃ r, (Instr.field s u f).run P w = .ok r w ∧ Rel I w φ v r := by
  unfold evField at h
  split at h
  · rename_i fields s1 s2 s3 s4 hti
    split at h
    · rename_i fl hfl
      split at h
      · rename_i fi hfi
        have ht := hT.get hti
        have hft := hT.get hfi
        have hf : fields[f]? = some fl := by simpa using hfl
        split at h
        · rename_i g cs
          obtain ⟨us, rfl, hl⟩ := hx.agg_inv
          split at h
          · rename_i hrow
            cases h
            refine ⟨_, ?_, agg_sub hx fl.offset fi.size⟩
            simp [Instr.field, Sem.run_bind, ht.und w, hf, asAgg, part, hft.isAgg w, hrow, hft.sizeOf w]
          · rename_i hrow
            cases hk : chk sym (Nat.blt fl.offset cs.length) (fl.offset < cs.length) with
            | none => simp [hk] at h
            | some o' =>
              simp only [hk, Option.some.injEq, Prod.mk.injEq] at h
              obtain ⟨rfl, rfl⟩ := h
              have h0 := chk_ok hk (by simp) ho
              obtain ⟨r, hr, hrr⟩ := agg_get hx h0
              refine ⟨r, ?_, hrr⟩
              simp [Instr.field, Sem.run_bind, ht.und w, hf, asAgg, part, hft.isAgg w, hrow, hr]
        · cases h
      · cases h
    · cases h
  · cases h

/-! Indexes. -/
def evIndexAddr (tc : List (Nat × TI)) (sym : Bool) (t : TypeId) (x i : V) : Out :=
  match i with
  | .val (.int _ n) => match lk tc t with
    | some ⟨.array len e, _, _, _, _⟩ => match lk tc e with
      | some ei => match chk sym (decide (0 ≤ n) && decide (n < len)) (0 ≤ n ∧ n < len) with
        | some o => match x with
          | .ptr id off => some (o, .ptr id (off + n.toNat * ei.size))
          | .vp cs => some (o, .vp (cs.drop (n.toNat * ei.size)))
          | _ => none
        | none => none
      | none => none
    | some ⟨.slice e, _, _, _, _⟩ => match lk tc e with
      | some ei => match x with
        | .sl id off len => match chk sym (decide (0 ≤ n) && decide (n < len)) (0 ≤ n ∧ n < len) with
          | some o => some (o, .ptr id (off + n.toNat * ei.size))
          | none => none
        | .vs cs len => match chk sym (decide (0 ≤ n) && decide (n < len)) (0 ≤ n ∧ n < len) with
          | some o => some (o, .vp (cs.drop (n.toNat * ei.size)))
          | none => none
        | _ => none
      | none => none
    | _ => none
  | _ => none
theorem Rel.int_inv {k : IntKind} {n : Int} (h : Rel I w φ (.val (.int k n)) u) : u = .int k n := by cases h; rfl
theorem Rel.val_inv {z : Value} (h : Rel I w φ (.val z) u) : u = z := by cases h; rfl
theorem evIndexAddr_ok (hT : TCok P tc) {t : TypeId} {i : V} {ui : Value} (h : evIndexAddr tc sym t x i = some (o, v)) (ho : AllP o) (hx : Rel I w φ x u) (hi : Rel I w φ i ui) :
    ∃ r, (Instr.indexAt t u ui).run P w = .ok r w ∧ Rel I w φ v r := by
  unfold evIndexAddr at h
  split at h
  · rename_i k n
    obtain rfl := hi.int_inv
    split at h
    · rename_i len e _ _ _ _ hti
      have ht := hT.get hti
      split at h
      · rename_i ei hei
        have he := hT.get hei
        split at h
        · rename_i o' hk
          have hrun : ∀ a : Addr, (0 ≤ n ∧ n < len) → (Instr.indexAt t (.pointer (some a)) (.int k n)).run P w = .ok (.pointer (some (a.add (n.toNat * ei.size)))) w := fun a hb => by
            simp [Instr.indexAt, Sem.run_bind, ht.und w, asIntOf, Instr.sureAddr, hb, he.sizeOf w]
          split at h
          · cases h
            have hb := chk_ok hk (by simp) ho
            cases hx with
            | ptr hs =>
              refine ⟨_, hrun _ hb, ?_⟩
              rw [Addr.add_mid]
              exact .ptr hs
          · cases h
            have hb := chk_ok hk (by simp) ho
            obtain ⟨a, rfl⟩ := hx.vp_pointer
            exact ⟨_, hrun _ hb, hx.vp_drop _⟩
          · cases h
        · cases h
      · cases h
    · rename_i e _ _ _ _ hti
      have ht := hT.get hti
      split at h
      · rename_i ei hei
        have he := hT.get hei
        have hrun : ∀ (a : Addr) (len cap : Nat), (0 ≤ n ∧ n < len) → (Instr.indexAt t (.slice (some a) len cap) (.int k n)).run P w = .ok (.pointer (some (a.add (n.toNat * ei.size)))) w := fun a len cap hb => by
          simp [Instr.indexAt, Sem.run_bind, ht.und w, asIntOf, hb, he.sizeOf w]
        split at h
        · rename_i id off len
          split at h
          · rename_i o' hk
            cases h
            have hb := chk_ok hk (by simp) ho
            cases hx with
            | sl hs h1 h2 h3 =>
              refine ⟨_, hrun _ _ _ hb, ?_⟩
              rw [Addr.add_mid]
              exact .ptr hs
            | slnil => omega
          · cases h
        · rename_i cs len
          split at h
          · rename_i o' hk
            cases h
            have hb := chk_ok hk (by simp) ho
            cases hx with
            | vs hl hr h1 hc hA hlc hcm =>
              rename_i us cap A
              cases A with
              | none => have := hA rfl; omega
              | some a =>
                have hp : Rel I w φ (.vp cs) (.pointer (some a)) := .vp hl hr h1 hc
                exact ⟨_, hrun _ _ _ hb, hp.vp_drop _⟩
          · cases h
        · cases h
      · cases h
    · cases h
  · cases h

def sAt (s : ByteArray) (i : Nat) : Int := ((s.data.toList.getD i 0).toNat : Int)
def evIndex (tc : List (Nat × TI)) (sym : Bool) (t : TypeId) (x i : V) : Out :=
  match i with
  | .val (.int _ n) => match lk tc t with
    | some ⟨.array len e, _, _, _, _⟩ => match lk tc e with
      | some ei => match x with
        | .agg g cs => if isRow ei.desc then
            match chk sym (decide (0 ≤ n) && decide (n < len)) (0 ≤ n ∧ n < len) with
            | some o => some (o, .agg g ((cs.drop (n.toNat * ei.size)).take ei.size))
            | none => none
          else match chk sym (decide (0 ≤ n) && decide (n < len) && Nat.blt (n.toNat * ei.size) cs.length) (0 ≤ n ∧ n < len ∧ n.toNat * ei.size < cs.length) with
            | some o => some (o, gI cs (n.toNat * ei.size))
            | none => none
        | _ => none
      | none => none
    | some ⟨.string, _, _, _, _⟩ => match x with
      | .val (.string s) => match chk sym (decide (0 ≤ n) && decide (n < s.size)) (0 ≤ n ∧ n < s.size) with
        | some o => some (o, .val (.int .u8 (sAt s n.toNat)))
        | none => none
      | _ => none
    | _ => none
  | _ => none
theorem evIndex_ok (hT : TCok P tc) {t : TypeId} {i : V} {ui : Value} (h : evIndex tc sym t x i = some (o, v)) (ho : AllP o) (hx : Rel I w φ x u) (hi : Rel I w φ i ui) :
    ∃ r, (Instr.index t u ui).run P w = .ok r w ∧ Rel I w φ v r := by
  unfold evIndex at h
  split at h
  · rename_i k n
    obtain rfl := hi.int_inv
    split at h
    · rename_i len e _ _ _ _ hti
      have ht := hT.get hti
      split at h
      · rename_i ei hei
        have he := hT.get hei
        split at h
        · rename_i g cs
          obtain ⟨us, rfl, hl⟩ := hx.agg_inv
          split at h
          · rename_i hrow
            split at h
            · rename_i o' hk
              cases h
              have hb := chk_ok hk (by simp) ho
              refine ⟨_, ?_, agg_sub hx (n.toNat * ei.size) ei.size⟩
              simp [Instr.index, Sem.run_bind, ht.und w, asIntOf, hb, he.sizeOf w, part, he.isAgg w, hrow]
            · cases h
          · rename_i hrow
            split at h
            · rename_i o' hk
              cases h
              have hb := chk_ok hk (by simp; omega) ho
              obtain ⟨r, hr, hrr⟩ := agg_get hx hb.2.2
              refine ⟨r, ?_, hrr⟩
              simp [Instr.index, Sem.run_bind, ht.und w, asIntOf, hb, he.sizeOf w, part, he.isAgg w, hrow, hr]
            · cases h
        · cases h
      · cases h
    · rename_i _ _ _ _ hti
      have ht := hT.get hti
      split at h
      · rename_i s
        obtain rfl := hx.val_inv
        split at h
        · rename_i o' hk
          cases h
          have hb := chk_ok hk (by simp) ho
          refine ⟨_, ?_, .val rfl⟩
          have hlt : n.toNat < s.size := by omega
          have hg : s[n.toNat]? = some s[n.toNat] := by simp [hlt]
          have hs : s[n.toNat] = s.data.toList.getD n.toNat 0 := by
            have : n.toNat < s.data.toList.length := by simpa using hlt
            rw [List.getD_eq_getElem?_getD, List.getElem?_eq_getElem this]
            rfl
          simp only [Instr.index, Sem.run_bind, ht.und w, asIntOf, Sem.run_pure, Result.andThen_ok, hb.1, if_true, hg]
          rw [hs]
          rfl
        · cases h
      · cases h
    · cases h
  · cases h

def evExtract (x : V) (i : Nat) : Out :=
  match x with
  | .tup vs => match vs[i]? with
    | some v => some ([], v)
    | none => none
  | _ => none
theorem evExtract_ok {i : Nat} (h : evExtract x i = some (o, v)) (hx : Rel I w φ x u) : ∃ r, (Instr.extract u i).run P w = .ok r w ∧ Rel I w φ v r := by
  unfold evExtract at h
  split at h
  · rename_i vs
    split at h
    · rename_i v' hv
      cases h
      cases hx with
      | tup hl hr =>
        rename_i us
        obtain ⟨hi, rfl⟩ := List.getElem?_eq_some_iff.1 hv
        have hi' : i < us.size := by omega
        refine ⟨us[i], ?_, ?_⟩
        · simp [Instr.extract, hi']
        · have := hr i hi
          simpa [List.getD_eq_getElem?_getD, hi'] using this
    · cases h
  · cases h
end
end Go.Ab

set_option linter.unusedSimpArgs false
set_option linter.unusedVariables false
namespace Go.Ab
open Go.RowKit
section
variable {P : Program} {I : Nat → Prop} {w : World} {φ : Phi} {tc : List (Nat × TI)} {H : List (Nat × Blk)} {sym : Bool} {o : List Prop} {v x y : V} {u ux uy : Value}

def iand (k : IntKind) (a b : Int) : Int := k.wrap (BitVec.ofInt k.bits a &&& BitVec.ofInt k.bits b).toNat
def ior (k : IntKind) (a b : Int) : Int := k.wrap (BitVec.ofInt k.bits a ||| BitVec.ofInt k.bits b).toNat
def ixor (k : IntKind) (a b : Int) : Int := k.wrap (BitVec.ofInt k.bits a ^^^ BitVec.ofInt k.bits b).toNat
def iandNot (k : IntKind) (a b : Int) : Int := k.wrap (BitVec.ofInt k.bits a &&& ~~~(BitVec.ofInt k.bits b)).toNat
def ishl (k : IntKind) (a b : Int) : Int := k.wrap (a * 2 ^ (min b.toNat k.bits))
def ishr (k : IntKind) (a b : Int) : Int := a.fdiv (2 ^ (min b.toNat k.bits))

/-- Whole numbers of one kind. -/
def evInt (sym : Bool) (op : BinOp) (k : IntKind) (a b : Int) : Option (List Prop × Value) :=
  match op with
  | .add => some ([], .int k (k.wrap (a + b)))
  | .sub => some ([], .int k (k.wrap (a - b)))
  | .mul => some ([], .int k (k.wrap (a * b)))
  | .quo => (chk sym (!(decide (b = 0))) (b ≠ 0)).map (·, .int k (k.wrap (a.tdiv b)))
  | .rem => (chk sym (!(decide (b = 0))) (b ≠ 0)).map (·, .int k (a.tmod b))
  | .and => some ([], .int k (iand k a b))
  | .or => some ([], .int k (ior k a b))
  | .xor => some ([], .int k (ixor k a b))
  | .andNot => some ([], .int k (iandNot k a b))
  | .eql => some ([], .bool (a == b))
  | .neq => some ([], .bool (a != b))
  | .lss => some ([], .bool (decide (a < b)))
  | .leq => some ([], .bool (decide (a ≤ b)))
  | .gtr => some ([], .bool (decide (a > b)))
  | .geq => some ([], .bool (decide (a ≥ b)))
  | _ => none
theorem evInt_ok {op : BinOp} {k : IntKind} {a b : Int} {z : Value} (h : evInt sym op k a b = some (o, z)) (ho : AllP o) (t : TypeId) :
    (binOp op t (.int k a) (.int k b)).run P w = .ok z w ∧ scalar z = true := by
  cases op <;> simp only [evInt, Option.some.injEq, Prod.mk.injEq, Option.map_eq_some_iff, reduceCtorEq] at h <;>
    first
    | (obtain ⟨rfl, rfl⟩ := h; exact ⟨by simp [binOp, Op.intArith, Op.intCmp, Op.intBits, iand, ior, ixor, iandNot], rfl⟩)
    | (obtain ⟨o', hk, rfl, rfl⟩ := h
       have hb := chk_ok hk (by simp) ho
       exact ⟨by simp [binOp, Op.intDiv, hb], rfl⟩)

def evStr (sym : Bool) (op : BinOp) (a b : ByteArray) : Option (List Prop × Value) :=
  match op with
  | .add => (chk sym (decide (((a.size + b.size : Nat) : Int) ≤ 9223372036854775807)) (((a.size + b.size : Nat) : Int) ≤ 9223372036854775807)).map (·, .string (a ++ b))
  | .eql => some ([], .bool (a.data.toList == b.data.toList))
  | .neq => some ([], .bool (!(a.data.toList == b.data.toList)))
  | _ => none
theorem evStr_ok {op : BinOp} {a b : ByteArray} {z : Value} (h : evStr sym op a b = some (o, z)) (ho : AllP o) (t : TypeId) :
    (binOp op t (.string a) (.string b)).run P w = .ok z w ∧ scalar z = true := by
  cases op <;> simp only [evStr, Option.some.injEq, Prod.mk.injEq, Option.map_eq_some_iff, reduceCtorEq] at h <;>
    first
    | (obtain ⟨rfl, rfl⟩ := h; exact ⟨by simp [binOp, Op.stringOp, ByteArray.toList_eq], rfl⟩)
    | (obtain ⟨o', hk, rfl, rfl⟩ := h
       have hb := chk_ok hk (by simp) ho
       refine ⟨?_, rfl⟩
       have hm : IntKind.i64.max = 9223372036854775807 := by decide
       simp only [binOp, Op.stringOp, hm]
       rw [if_neg (by omega)]
       rfl)



def evFlds (tc : List (Nat × TI)) (eq : TypeId → V → V → Option Bool) (g h : Bool) (cs ds : List V) : List Field → Option Bool
  | [] => some true
  | f :: fs => match f.name == "_" with
      | true => none
      | false => match lk tc f.type with
        | some fi => match eq f.type (part_ g (isRow fi.desc) cs f.offset fi.size) (part_ h (isRow fi.desc) ds f.offset fi.size), evFlds tc eq g h cs ds fs with
          | some a, some b => some (a && b)
          | _, _ => none
        | none => none
def evElems (eq : TypeId → V → V → Option Bool) (g h : Bool) (row : Bool) (sz : Nat) (e : TypeId) (cs ds : List V) : Nat → Nat → Option Bool
  | 0, _ => some true
  | k + 1, i => match eq e (part_ g row cs (i * sz) sz) (part_ h row ds (i * sz) sz), evElems eq g h row sz e cs ds k (i + 1) with
      | some a, some b => some (a && b)
      | _, _ => none
/-- Equality of two values of a type, as a Bool. -/
def evEq (tc : List (Nat × TI)) : Nat → TypeId → V → V → Option Bool
  | 0, _, _, _ => none
  | n + 1, t, x, y => match lk tc t with
    | some ti => match ti.desc, x, y with
      | .bool, .val (.bool a), .val (.bool b) => some (a == b)
      | .int _, .val (.int k a), .val (.int k' b) => if k = k' then some (a == b) else none
      | .string, .val (.string a), .val (.string b) => some (a.data.toList == b.data.toList)
      | .struct fields, .agg g cs, .agg h ds => if ti.cmp then evFlds tc (evEq tc n) g h cs ds fields.toList else none
      | .array len e, .agg g cs, .agg h ds => match lk tc e with
        | some ei => evElems (evEq tc n) g h (isRow ei.desc) ei.size e cs ds len 0
        | none => none
      | _, _, _ => none
    | none => none

theorem part_run {t : TypeId} {ti : TI} (ht : TIok P t ti) {g : Bool} {cs : List V} {us : Array Value} (h : Rel I w φ (.agg g cs) (.agg us)) (off : Nat) (hb : isRow ti.desc = false → off < cs.length) :
    ∃ r, (part t us off).run P w = .ok r w ∧ Rel I w φ (part_ g (isRow ti.desc) cs off ti.size) r := by
  cases hrow : isRow ti.desc with
  | true =>
    refine ⟨_, ?_, agg_sub h off ti.size⟩
    simp [part, ht.isAgg w, hrow, ht.sizeOf w]
  | false =>
    obtain ⟨r, hr, hrr⟩ := agg_get h (hb hrow)
    exact ⟨r, by simp [part, ht.isAgg w, hrow, hr], hrr⟩
theorem evEq_top {n : Nat} {t : TypeId} {b : Bool} : evEq tc n t .top y ≠ some b := by
  cases n with
  | zero => simp [evEq]
  | succ n =>
    simp only [evEq]
    cases lk tc t with
    | none => simp
    | some ti => cases ti.desc <;> simp
theorem evEq_top' {n : Nat} {t : TypeId} {b : Bool} : evEq tc n t x .top ≠ some b := by
  cases n with
  | zero => simp [evEq]
  | succ n =>
    simp only [evEq]
    cases lk tc t with
    | none => simp
    | some ti => cases ti.desc <;> cases x <;> simp <;> (rename_i v; cases v <;> simp)
theorem gI_out {cs : List V} {i : Nat} (h : ¬ i < cs.length) : gI cs i = .top := by
  simp [gI, List.getD_eq_getElem?_getD, List.getElem?_eq_none (Nat.not_lt.1 h)]

def EqOk (P : Program) (I : Nat → Prop) (w : World) (φ : Phi) (eq : TypeId → V → V → Option Bool) (n : Nat) : Prop :=
  ∀ t x y b ux uy d, eq t x y = some b → Rel I w φ x ux → Rel I w φ y uy → (Op.equalIn (d + n) t ux uy).run P w = .ok b w

theorem evFlds_ok (hT : TCok P tc) {eq : TypeId → V → V → Option Bool} {n : Nat} (he : EqOk P I w φ eq n) (htop : ∀ t y b, eq t .top y ≠ some b) (htop' : ∀ t y b, eq t y .top ≠ some b)
    {g h : Bool} {cs ds : List V} {xs ys : Array Value} (hx : Rel I w φ (.agg g cs) (.agg xs)) (hy : Rel I w φ (.agg h ds) (.agg ys)) (d : Nat) :
    ∀ (fs : List Field) (b : Bool), evFlds tc eq g h cs ds fs = some b → (Op.eqFields (d + n) xs ys fs).run P w = .ok b w
  | [], b, hb => by
    simp only [evFlds, Option.some.injEq] at hb
    subst hb
    simp [Op.eqFields]
  | f :: fs, b, hb => by
    simp only [evFlds] at hb
    split at hb
    · cases hb
    · rename_i hn
      split at hb
      · rename_i fi hfi
        split at hb
        · rename_i a b' h1 h2
          cases hb
          have ht := hT.get hfi
          have hc1 : isRow fi.desc = false → f.offset < cs.length := fun hr => Classical.byContradiction fun hc => by
            rw [part_, hr, if_neg (by simp), gI_out hc] at h1
            exact htop _ _ _ h1
          have hc2 : isRow fi.desc = false → f.offset < ds.length := fun hr => Classical.byContradiction fun hc => by
            rw [part_, part_, hr, if_neg (by simp), if_neg (by simp), gI_out hc] at h1
            exact htop' _ _ _ h1
          obtain ⟨r1, q1, q2⟩ := part_run ht hx f.offset hc1
          obtain ⟨r2, q3, q4⟩ := part_run ht hy f.offset hc2
          have he' := he _ _ _ _ _ _ d h1 q2 q4
          have ih := evFlds_ok hT he htop htop' hx hy d fs b' h2
          have hn' : f.name ≠ "_" := by simpa using hn
          simp only [Op.eqFields, hn', ne_eq, not_false_eq_true, if_true, Sem.run_bind, q1, q3, Result.andThen_ok, he', Sem.run_ite, ih, Sem.run_pure]
          cases a <;> simp
        · cases hb
      · cases hb
theorem evElems_ok {eq : TypeId → V → V → Option Bool} {n : Nat} (he : EqOk P I w φ eq n) (htop : ∀ t y b, eq t .top y ≠ some b) (htop' : ∀ t y b, eq t y .top ≠ some b)
    {g h : Bool} {cs ds : List V} {xs ys : Array Value} (hx : Rel I w φ (.agg g cs) (.agg xs)) (hy : Rel I w φ (.agg h ds) (.agg ys)) {e : TypeId} {ei : TI} (hei : TIok P e ei) (d : Nat) :
    ∀ (k i : Nat) (b : Bool), evElems eq g h (isRow ei.desc) ei.size e cs ds k i = some b → (Op.eqItems (d + n) e ei.size xs ys (List.range' i k)).run P w = .ok b w
  | 0, i, b, hb => by
    simp only [evElems, Option.some.injEq] at hb
    subst hb
    simp [Op.eqItems]
  | k + 1, i, b, hb => by
    simp only [evElems] at hb
    split at hb
    · rename_i a b' h1 h2
      cases hb
      have hc1 : isRow ei.desc = false → i * ei.size < cs.length := fun hr => Classical.byContradiction fun hc => by
        rw [part_, hr, if_neg (by simp), gI_out hc] at h1
        exact htop _ _ _ h1
      have hc2 : isRow ei.desc = false → i * ei.size < ds.length := fun hr => Classical.byContradiction fun hc => by
        rw [part_, part_, hr, if_neg (by simp), if_neg (by simp), gI_out hc] at h1
        exact htop' _ _ _ h1
      obtain ⟨r1, q1, q2⟩ := part_run hei hx (i * ei.size) hc1
      obtain ⟨r2, q3, q4⟩ := part_run hei hy (i * ei.size) hc2
      have he' := he _ _ _ _ _ _ d h1 q2 q4
      have ih := evElems_ok he htop htop' hx hy hei d k (i + 1) b' h2
      rw [List.range'_succ]
      simp only [Op.eqItems, Sem.run_bind, q1, q3, Result.andThen_ok, he', Sem.run_ite, ih, Sem.run_pure]
      cases a <;> simp
    · cases hb
theorem evEq_ok (hT : TCok P tc) : ∀ n : Nat, EqOk P I w φ (evEq tc n) n
  | 0 => fun t x y b ux uy d h => by simp [evEq] at h
  | n + 1 => fun t x y b ux uy d h hx hy => by
    simp only [evEq] at h
    split at h
    · rename_i ti hti
      have ht := hT.get hti
      have hd := ht.desc
      split at h
      · rename_i hdesc
        rw [hdesc] at hd
        cases h
        obtain rfl := hx.val_inv
        obtain rfl := hy.val_inv
        exact run_equalIn_bool' w (d + n) t _ _ hd
      · rename_i hdesc
        rw [hdesc] at hd
        split at h
        · rename_i hk
          subst hk
          cases h
          obtain rfl := hx.val_inv
          obtain rfl := hy.val_inv
          exact run_equalIn_int w (d + n) t _ _ _ _ hd
        · cases h
      · rename_i hdesc
        rw [hdesc] at hd
        cases h
        obtain rfl := hx.val_inv
        obtain rfl := hy.val_inv
        rw [← ByteArray.toList_eq, ← ByteArray.toList_eq]
        exact run_equalIn_string w (d + n) t _ _ hd
      · rename_i fields g cs h' ds hdesc
        rw [hdesc] at hd
        split at h
        · rename_i hcmp
          obtain ⟨xs, rfl, _⟩ := hx.agg_inv
          obtain ⟨ys, rfl, _⟩ := hy.agg_inv
          have hf : P.fieldsOf t = fields := by simp [Program.fieldsOf, hd]
          have := evFlds_ok hT (evEq_ok hT n) (fun _ _ _ => evEq_top) (fun _ _ _ => evEq_top') hx hy d fields.toList b h
          rw [show d + (n + 1) = (d + n) + 1 from rfl, run_equalIn_struct w (d + n) t xs ys (by rw [hf]; exact hd) (ht.cmp hcmp).1, hf]
          exact this
        · cases h
      · rename_i len e g cs h' ds hdesc
        rw [hdesc] at hd
        split at h
        · rename_i ei hei
          have he := hT.get hei
          obtain ⟨xs, rfl, _⟩ := hx.agg_inv
          obtain ⟨ys, rfl, _⟩ := hy.agg_inv
          obtain ⟨i, hi, his, _⟩ := he.info
          have := evElems_ok (evEq_ok hT n) (fun _ _ _ => evEq_top) (fun _ _ _ => evEq_top') hx hy he d len 0 b h
          rw [show d + (n + 1) = (d + n) + 1 from rfl, run_equalIn_array w (d + n) xs ys hd hi, show P.cellsOf e = ei.size by simp [Program.cellsOf, hi, his], List.range_eq_range']
          exact this
        · cases h
      · cases h
    · cases h

/-! All operators of two operands. -/
def isEq : BinOp → Option Bool
  | .eql => some true
  | .neq => some false
  | _ => none
def nonNil (sym : Bool) : V → Option (List Prop)
  | .vs _ n => chk sym (Nat.blt 0 n) (0 < n)
  | .sl _ _ n => chk sym (Nat.blt 0 n) (0 < n)
  | .ptr _ _ | .vp _ => some []
  | _ => none
def bl (e : Bool) (b : Bool) : Bool := match e with | true => b | false => !b
def evBin (tc : List (Nat × TI)) (sym : Bool) (op : BinOp) (t : TypeId) (x y : V) : Out :=
  match x, y with
  | .val (.int k a), .val (.int k' b) => match op with
    | .shl => (chk sym (decide (0 ≤ b)) (0 ≤ b)).map (·, .val (.int k (ishl k a b)))
    | .shr => (chk sym (decide (0 ≤ b)) (0 ≤ b)).map (·, .val (.int k (ishr k a b)))
    | op => if k = k' then (evInt sym op k a b).map fun p => (p.1, .val p.2) else none
  | .val (.string a), .val (.string b) => (evStr sym op a b).map fun p => (p.1, .val p.2)
  | .val (.bool a), .val (.bool b) => match isEq op, lk tc t with
    | some e, some ⟨.bool, _, _, _, _⟩ => some ([], .val (.bool (bl e (a == b))))
    | _, _ => none
  | .agg g cs, .agg h ds => match isEq op, lk tc t with
    | some e, some ti => if ti.cmp || !(isStruct ti.desc) then match evEq tc 10 t (.agg g cs) (.agg h ds) with
        | some b => if ti.cmp then some ([], .val (.bool (bl e b))) else none
        | none => none
      else none
    | _, _ => none
  | x, .val (.slice none _ _) => match isEq op, lk tc t with
    | some e, some ⟨.slice _, _, _, _, _⟩ => match x with
      | .val (.slice none _ _) => some ([], .val (.bool (bl e true)))
      | .vs cs n => (nonNil sym (.vs cs n)).elim (some ([], .bo)) fun o => some (o, .val (.bool (bl e false)))
      | .sl i f n => (nonNil sym (.sl i f n)).elim (some ([], .bo)) fun o => some (o, .val (.bool (bl e false)))
      | _ => none
    | _, _ => none
  | x, .val (.pointer none) => match isEq op, lk tc t with
    | some e, some ⟨.pointer _, _, _, _, _⟩ => match x with
      | .val (.pointer none) => some ([], .val (.bool (bl e true)))
      | .ptr _ _ => some ([], .val (.bool (bl e false)))
      | .vp _ => some ([], .val (.bool (bl e false)))
      | _ => none
    | _, _ => none
  | _, _ => none
where isStruct : TypeDesc → Bool
  | .struct _ => true
  | _ => false
end
end Go.Ab

set_option linter.unusedSimpArgs false
set_option linter.unusedVariables false
namespace Go.Ab
open Go.RowKit
section
variable {P : Program} {I : Nat → Prop} {w : World} {φ : Phi} {tc : List (Nat × TI)} {H : List (Nat × Blk)} {sym : Bool} {o : List Prop} {v x y : V} {u ux uy : Value}

theorem guard_plain {op : BinOp} {t : TypeId} {ox oy : Operand} (h1 : ∀ a b, ¬(ux = .agg a ∧ uy = .agg b)) (h2 : ¬(ux = .nilIface ∧ uy = .nilIface)) : (eqGuard op t ox oy ux uy).run P w = .ok () w := by
  unfold eqGuard
  cases op <;> simp <;> (split <;> first | rfl | (exact absurd ⟨rfl, rfl⟩ h2) | (exact absurd ⟨rfl, rfl⟩ (h1 _ _)))
theorem guard_agg {op : BinOp} {t : TypeId} {ox oy : Operand} {xs ys : Array Value} (hm : P.eqGuardType P.depth t = false) : (eqGuard op t ox oy (.agg xs) (.agg ys)).run P w = .ok () w :=
  run_eqGuard_agg w op t ox oy xs ys hm
theorem isEq_inv {op : BinOp} {e : Bool} (h : isEq op = some e) : (op = .eql ∧ e = true) ∨ (op = .neq ∧ e = false) := by
  cases op <;> simp [isEq] at h <;> simp [h]
theorem bin_eq {op : BinOp} {e b : Bool} {t : TypeId} (he : isEq op = some e) (h1 : (Op.equal t ux uy).run P w = .ok b w)
    (hb1 : (binOp .eql t ux uy).run P w = (do pure (.bool (← Op.equal t ux uy)) : Sem Value).run P w) (hb2 : (binOp .neq t ux uy).run P w = (do pure (.bool (!(← Op.equal t ux uy))) : Sem Value).run P w) :
    (binOp op t ux uy).run P w = .ok (.bool (bl e b)) w := by
  rcases isEq_inv he with ⟨rfl, rfl⟩ | ⟨rfl, rfl⟩
  · rw [hb1]; simp [h1, bl]
  · rw [hb2]; simp [h1, bl]

theorem Rel.nilsl {a b : Nat} (h : Rel I w φ (.val (.slice none a b)) u) : u = .slice none 0 0 := by
  cases h with
  | val hs => cases a <;> cases b <;> simp_all [scalar]

theorem eq_ptr_nil {t : TypeId} (d : Nat) (p : Option Addr) (el : TypeId) (hd : P.underlying t = some (.pointer el)) : (Op.equalIn (d + 1) t (.pointer p) (.pointer none)).run P w = .ok p.isNone w := by
  cases p <;> simp [Op.equalIn, run_underlying hd]

theorem evBin_ok (hT : TCok P tc) {op : BinOp} {t : TypeId} (ox oy : Operand) (h : evBin tc sym op t x y = some (o, v)) (ho : AllP o) (hx : Rel I w φ x ux) (hy : Rel I w φ y uy) :
    ∃ r, (do eqGuard op t ox oy ux uy; binOp op t ux uy : Sem Value).run P w = .ok r w ∧ Rel I w φ v r := by
  unfold evBin at h
  split at h
  · rename_i k a k' b
    obtain rfl := hx.int_inv
    obtain rfl := hy.int_inv
    have hg : ∀ op, (eqGuard op t ox oy (.int k a) (.int k' b)).run P w = .ok () w := fun op => guard_plain (by simp) (by simp)
    have shl : ∀ z, 0 ≤ b → z = Value.int k (ishl k a b) → (binOp .shl t (.int k a) (.int k' b)).run P w = .ok z w := fun z h0 e => by
      subst e
      simp [binOp, Op.shift, ishl, show ¬ b < 0 by omega]
    have shr : ∀ z, 0 ≤ b → z = Value.int k (ishr k a b) → (binOp .shr t (.int k a) (.int k' b)).run P w = .ok z w := fun z h0 e => by
      subst e
      simp [binOp, Op.shift, ishr, show ¬ b < 0 by omega]
    split at h
    · simp only [Option.map_eq_some_iff, Prod.mk.injEq] at h
      obtain ⟨o', hk, rfl, rfl⟩ := h
      exact ⟨_, by simp only [Sem.run_bind, hg, Result.andThen_ok, shl _ (chk_ok hk (by simp) ho) rfl], .val rfl⟩
    · simp only [Option.map_eq_some_iff, Prod.mk.injEq] at h
      obtain ⟨o', hk, rfl, rfl⟩ := h
      exact ⟨_, by simp only [Sem.run_bind, hg, Result.andThen_ok, shr _ (chk_ok hk (by simp) ho) rfl], .val rfl⟩
    · split at h
      · rename_i hk
        subst hk
        simp only [Option.map_eq_some_iff] at h
        obtain ⟨⟨o', z⟩, hk, he⟩ := h
        cases he
        obtain ⟨h1, h2⟩ := evInt_ok (w := w) (P := P) hk ho t
        exact ⟨z, by simp only [Sem.run_bind, hg, Result.andThen_ok, h1], .val h2⟩
      · cases h
  · rename_i a b
    obtain rfl := hx.val_inv
    obtain rfl := hy.val_inv
    simp only [Option.map_eq_some_iff] at h
    obtain ⟨⟨o', z⟩, hk, he⟩ := h
    cases he
    obtain ⟨h1, h2⟩ := evStr_ok (w := w) (P := P) hk ho t
    exact ⟨z, by simp only [Sem.run_bind, guard_plain (P := P) (w := w) (ux := .string a) (uy := .string b) (by simp) (by simp), Result.andThen_ok, h1], .val h2⟩
  · rename_i a b
    obtain rfl := hx.val_inv
    obtain rfl := hy.val_inv
    split at h
    · rename_i e _ _ _ _ he hti
      cases h
      have ht := (hT.get hti).desc
      refine ⟨_, ?_, .val rfl⟩
      rw [Sem.run_bind, guard_plain (by simp) (by simp), Result.andThen_ok]
      exact bin_eq he (run_equal_bool w t a b ht) (by simp [binOp]) (by simp [binOp])
    · cases h
  · rename_i g cs g' ds
    obtain ⟨xs, rfl, _⟩ := hx.agg_inv
    obtain ⟨ys, rfl, _⟩ := hy.agg_inv
    split at h
    · rename_i e ti he hti
      split at h
      · split at h
        · rename_i b hb
          split at h
          · rename_i hcmp
            cases h
            have ht := hT.get hti
            refine ⟨_, ?_, .val rfl⟩
            rw [Sem.run_bind, guard_agg (ht.cmp hcmp).2, Result.andThen_ok]
            exact bin_eq he (evEq_ok hT 10 t _ _ _ _ _ 9990 hb hx hy) (by simp [binOp]) (by simp [binOp])
          · cases h
        · cases h
      · cases h
    · cases h
  · obtain rfl := hy.nilsl
    split at h
    · rename_i e el _ _ _ _ he hti
      have ht := (hT.get hti).desc
      split at h
      · obtain rfl := hx.nilsl
        cases h
        refine ⟨_, ?_, .val rfl⟩
        rw [Sem.run_bind, guard_plain (by simp) (by simp), Result.andThen_ok]
        exact bin_eq he (run_equal_slice_nil w t el none _ _ ht) (by simp [binOp]) (by simp [binOp])
      · cases hk : nonNil sym (.vs _ _) with
        | none =>
          rw [hk] at h
          cases h
          cases hx with
          | vs hl hr h1 hc hA hlc hcm =>
            rename_i us cap A
            refine ⟨.bool (bl e A.isNone), ?_, .bo⟩
            rw [Sem.run_bind, guard_plain (by simp) (by simp), Result.andThen_ok]
            exact bin_eq he (run_equal_slice_nil w t el _ _ _ ht) (by simp [binOp]) (by simp [binOp])
        | some o' =>
          rw [hk] at h
          cases h
          have hn := chk_ok hk (by simp) ho
          cases hx with
          | vs hl hr h1 hc hA hlc hcm =>
            rename_i us cap A
            cases A with
            | none => have := hA rfl; omega
            | some ad =>
              refine ⟨_, ?_, .val rfl⟩
              rw [Sem.run_bind, guard_plain (by simp) (by simp), Result.andThen_ok]
              exact bin_eq he (run_equal_slice_nil w t el (some ad) _ _ ht) (by simp [binOp]) (by simp [binOp])
      · cases hk : nonNil sym (.sl _ _ _) with
        | none =>
          rw [hk] at h
          cases h
          cases hx with
          | sl h1 h2 h3 h4 =>
            refine ⟨.bool (bl e false), ?_, .bo⟩
            rw [Sem.run_bind, guard_plain (by simp) (by simp), Result.andThen_ok]
            exact bin_eq he (run_equal_slice_nil w t el _ _ _ ht) (by simp [binOp]) (by simp [binOp])
          | slnil =>
            refine ⟨.bool (bl e true), ?_, .bo⟩
            rw [Sem.run_bind, guard_plain (by simp) (by simp), Result.andThen_ok]
            exact bin_eq he (run_equal_slice_nil w t el _ _ _ ht) (by simp [binOp]) (by simp [binOp])
        | some o' =>
          rw [hk] at h
          cases h
          have hn := chk_ok hk (by simp) ho
          cases hx with
          | sl h1 h2 h3 h4 =>
            refine ⟨_, ?_, .val rfl⟩
            rw [Sem.run_bind, guard_plain (by simp) (by simp), Result.andThen_ok]
            exact bin_eq he (run_equal_slice_nil w t el (some _) _ _ ht) (by simp [binOp]) (by simp [binOp])
          | slnil => omega
      · cases h
    · cases h
  · obtain rfl := hy.val_inv
    have eqp : ∀ (p : Option Addr) (el : TypeId), P.underlying t = some (.pointer el) → (Op.equal t (.pointer p) (.pointer none)).run P w = .ok p.isNone w := fun p el hd =>
      eq_ptr_nil 9999 p el hd
    split at h
    · rename_i e el _ _ _ _ he hti
      have ht := (hT.get hti).desc
      split at h
      · obtain rfl := hx.val_inv
        cases h
        refine ⟨_, ?_, .val rfl⟩
        rw [Sem.run_bind, guard_plain (by simp) (by simp), Result.andThen_ok]
        exact bin_eq he (eqp none el ht) (by simp [binOp]) (by simp [binOp])
      · cases h
        cases hx with
        | ptr hs =>
          refine ⟨_, ?_, .val rfl⟩
          rw [Sem.run_bind, guard_plain (by simp) (by simp), Result.andThen_ok]
          exact bin_eq he (eqp (some _) el ht) (by simp [binOp]) (by simp [binOp])
      · cases h
        obtain ⟨a, rfl⟩ := hx.vp_pointer
        refine ⟨_, ?_, .val rfl⟩
        rw [Sem.run_bind, guard_plain (by simp) (by simp), Result.andThen_ok]
        exact bin_eq he (eqp (some _) el ht) (by simp [binOp]) (by simp [binOp])
      · cases h
    · cases h
  · cases h

def evUn (op : UnOp) (x : V) : Out :=
  match op, x with
  | .not, .val (.bool b) => some ([], .val (.bool (!b)))
  | .neg, .val (.int k a) => some ([], .val (.int k (k.wrap (0 - a))))
  | .xor, .val (.int k a) => some ([], .val (.int k (ixor k (if k.signed then -1 else k.max) a)))
  | _, _ => none
theorem evUn_ok {op : UnOp} (h : evUn op x = some (o, v)) (hx : Rel I w φ x u) : ∃ r, (Op.unary op u).run P w = .ok r w ∧ Rel I w φ v r := by
  unfold evUn at h
  split at h <;> first | cases h | skip
  · obtain rfl := hx.val_inv
    exact ⟨_, by simp [Op.unary], .val rfl⟩
  · obtain rfl := hx.val_inv
    exact ⟨_, by simp [Op.unary, Op.intArith], .val rfl⟩
  · obtain rfl := hx.val_inv
    exact ⟨_, by simp [Op.unary, Op.intBits, ixor], .val rfl⟩

def byteOf : V → Option Int
  | .val (.int .u8 n) => some n
  | _ => none
def allU8 (cs : List V) : Bool := cs.all fun x => (byteOf x).isSome
def strOf (cs : List V) : ByteArray := (cs.map fun x => (byteOf x).getD 0).foldl (fun r n => r.push (UInt8.ofNat n.toNat)) ByteArray.empty
theorem rel_bytes {cs : List V} {us : List Value} (h : RelL I w φ cs us) (ha : allU8 cs = true) : us = (cs.map fun x => (byteOf x).getD 0).map (Value.int .u8) := by
  apply List.ext_getElem (by simp [h.1])
  intro i h1 h2
  have hi : i < cs.length := by rw [← h.1]; exact h1
  have hr := h.2.1 i hi
  have hb := List.all_eq_true.1 ha _ (List.getElem_mem hi)
  have e : us.getD i undef = us[i] := by simp [List.getD_eq_getElem?_getD, h1]
  rw [e] at hr
  simp only [List.getElem_map]
  cases hx : cs[i] with
  | val v =>
    rw [hx] at hr hb
    cases v with
    | int k n =>
      cases k <;> simp [byteOf] at hb
      have := hr.val_inv
      simpa [byteOf] using this
    | _ => simp [byteOf] at hb
  | _ => rw [hx] at hb; simp [byteOf] at hb
def evConv (tc : List (Nat × TI)) (s d : TypeId) (x : V) : Out :=
  match lk tc s, lk tc d, x with
  | some _, some ⟨.int k, _, _, _, _⟩, .val (.int _ n) => some ([], .val (.int k (k.wrap n)))
  | some _, some ⟨.string, _, _, _, _⟩, .val (.string b) => some ([], .val (.string b))
  | some ⟨.slice e, _, _, _, _⟩, some ⟨.string, _, _, _, _⟩, .vs cs n => match lk tc e with
    | some ⟨.int .u8, _, _, _, _⟩ => some ([n ≤ cs.length, allU8 (cs.take n) = true], .val (.string (strOf (cs.take n))))
    | _ => none
  | _, _, _ => none
theorem evConv_ok (hT : TCok P tc) {s d : TypeId} (h : evConv tc s d x = some (o, v)) (ho : AllP o) (hx : Rel I w φ x u) : ∃ r, (convert s d u).run P w = .ok r w ∧ Rel I w φ v r := by
  unfold evConv at h
  split at h
  · rename_i si k _ _ _ _ k' n hs hd
    cases h
    obtain rfl := hx.val_inv
    exact ⟨_, by simp [convert, (hT.get hs).und w, (hT.get hd).und w, Conv.intToInt], .val rfl⟩
  · rename_i si _ _ _ _ b hs hd
    cases h
    obtain rfl := hx.val_inv
    refine ⟨_, ?_, .val rfl⟩
    simp only [convert, Sem.run_bind, (hT.get hs).und w, (hT.get hd).und w, Result.andThen_ok]
    rfl
  · rename_i e _ _ _ _ _ _ _ _ cs n hs hd
    split at h
    · rename_i _ _ _ _ he
      cases h
      obtain ⟨h1, h2, _⟩ := ho
      cases hx with
      | vs hl hr h1' hc hA hlc hcm =>
        rename_i us cap A
        have hrl : RelL I w Phi.emp cs us := ⟨hl, hr, h1'⟩
        have hb := rel_bytes (hrl.take n) h2
        have hlen : (us.take n).length = n := by simp; omega
        have hconv := run_convert_bytes_string (P := P) w s d e A n cap (hT.get hs).desc (hT.get he).desc (hT.get hd).desc
        rw [hconv]
        cases A with
        | none =>
          have := hA rfl
          have hn0 : n = 0 := by omega
          subst hn0
          exact ⟨_, rfl, .val rfl⟩
        | some a =>
          have hload := run_loadCells_list (P := P) w a (us.take n) (fun j v hj => by
            rw [List.getElem?_take] at hj
            split at hj
            · obtain ⟨b, o, e', _, hcell⟩ := hc j v hj
              cases e'
              simpa [Addr.add_mid] using hcell
            · cases hj)
          rw [hlen, hb] at hload
          have := run_bytesToString (P := P) w a n cap _ hload
          exact ⟨_, this, .val rfl⟩
    · cases h
  · cases h

/-! Lengths. -/
def evLen (tc : List (Nat × TI)) (t : TypeId) (x : V) : Out :=
  match lk tc t, x with
  | some ⟨.string, _, _, _, _⟩, .val (.string s) => some ([], .val (.int .i64 s.size))
  | some ⟨.array n _, _, _, _, _⟩, _ => some ([], .val (.int .i64 n))
  | some ⟨.slice _, _, _, _, _⟩, .sl _ _ n => some ([], .val (.int .i64 n))
  | some ⟨.slice _, _, _, _, _⟩, .vs _ n => some ([], .val (.int .i64 n))
  | some ⟨.slice _, _, _, _, _⟩, .val (.slice none n _) => some ([], .val (.int .i64 n))
  | _, _ => none
theorem evLen_ok (hT : TCok P tc) {t ty : TypeId} (h : evLen tc t x = some (o, v)) (hx : Rel I w φ x u) : ∃ r, (Builtin.len_ #[t] ty #[u]).run P w = .ok r w ∧ Rel I w φ v r := by
  unfold evLen at h
  split at h
  · rename_i hti
    cases h
    obtain rfl := hx.val_inv
    exact ⟨_, by simp [Builtin.len_, (hT.get hti).und w, goInt], .val rfl⟩
  · rename_i hti
    cases h
    exact ⟨_, by simp [Builtin.len_, (hT.get hti).und w, goInt], .val rfl⟩
  · rename_i hti
    cases h
    cases hx with
    | sl => exact ⟨_, by simp [Builtin.len_, (hT.get hti).und w, goInt], .val rfl⟩
    | slnil => exact ⟨_, by simp [Builtin.len_, (hT.get hti).und w, goInt], .val rfl⟩
  · rename_i hti
    cases h
    cases hx
    exact ⟨_, by simp [Builtin.len_, (hT.get hti).und w, goInt], .val rfl⟩
  · rename_i hti
    cases h
    obtain rfl := hx.val_inv
    exact ⟨_, by simp [Builtin.len_, (hT.get hti).und w, goInt], .val rfl⟩
  · cases h

/-- The greatest and the least. -/
def imax (a b : Int) : Int := if b > a then b else a
def imin (a b : Int) : Int := if b < a then b else a
def foldI (f : Int → Int → Int) (k : IntKind) : Int → List V → Option Int
  | a, [] => some a
  | a, .val (.int k' b) :: r => if k = k' then foldI f k (f a b) r else none
  | _, _ => none
def evMM (mx : Bool) : List V → Out
  | .val (.int k a) :: r => match mx with
    | true => (foldI imax k a r).map fun n => ([], .val (.int k n))
    | false => (foldI imin k a r).map fun n => ([], .val (.int k n))
  | _ => none
inductive Rels (I : Nat → Prop) (w : World) (φ : Phi) : List V → List Value → Prop
  | nil : Rels I w φ [] []
  | cons {x u xs us} : Rel I w φ x u → Rels I w φ xs us → Rels I w φ (x :: xs) (u :: us)
theorem foldI_max {k : IntKind} {n : Int} : ∀ {xs : List V} {us : List Value} {a : Int}, foldI imax k a xs = some n → Rels I w φ xs us → (us.foldlM Builtin.max2 (.int k a)).run P w = .ok (.int k n) w
  | [], _, a, h, hr => by
    cases hr
    simp only [foldI, Option.some.injEq] at h
    subst h
    rfl
  | x :: xs, _, a, h, hr => by
    cases hr with
    | cons h1 h2 =>
      unfold foldI at h
      split at h
      · rename_i he
        cases he
      · rename_i k' b r he
        simp only [List.cons.injEq] at he
        obtain ⟨rfl, rfl⟩ := he
        split at h
        · rename_i hk
          subst hk
          obtain rfl := h1.val_inv
          simp only [List.foldlM_cons, Sem.run_bind, Builtin.max2, Sem.run_pure, Result.andThen_ok]
          exact foldI_max h h2
        · cases h
      · cases h
theorem foldI_min {k : IntKind} {n : Int} : ∀ {xs : List V} {us : List Value} {a : Int}, foldI imin k a xs = some n → Rels I w φ xs us → (us.foldlM Builtin.min2 (.int k a)).run P w = .ok (.int k n) w
  | [], _, a, h, hr => by
    cases hr
    simp only [foldI, Option.some.injEq] at h
    subst h
    rfl
  | x :: xs, _, a, h, hr => by
    cases hr with
    | cons h1 h2 =>
      unfold foldI at h
      split at h
      · rename_i he
        cases he
      · rename_i k' b r he
        simp only [List.cons.injEq] at he
        obtain ⟨rfl, rfl⟩ := he
        split at h
        · rename_i hk
          subst hk
          obtain rfl := h1.val_inv
          simp only [List.foldlM_cons, Sem.run_bind, Builtin.min2, Sem.run_pure, Result.andThen_ok]
          exact foldI_min h h2
        · cases h
      · cases h
theorem evMM_ok {mx : Bool} {xs : List V} {us : List Value} (h : evMM mx xs = some (o, v)) (hr : Rels I w φ xs us) (at_ : Array TypeId) (ty : TypeId) :
    ∃ r, (if mx then Builtin.max_ at_ ty us.toArray else Builtin.min_ at_ ty us.toArray).run P w = .ok r w ∧ Rel I w φ v r := by
  unfold evMM at h
  split at h
  · cases mx
    · simp only [Option.map_eq_some_iff, Prod.mk.injEq] at h
      obtain ⟨n, hn, rfl, rfl⟩ := h
      cases hr with
      | cons h1 h2 =>
        obtain rfl := h1.val_inv
        refine ⟨_, ?_, .val rfl⟩
        simpa [Builtin.min_] using foldI_min (P := P) hn h2
    · simp only [Option.map_eq_some_iff, Prod.mk.injEq] at h
      obtain ⟨n, hn, rfl, rfl⟩ := h
      cases hr with
      | cons h1 h2 =>
        obtain rfl := h1.val_inv
        refine ⟨_, ?_, .val rfl⟩
        simpa [Builtin.max_] using foldI_max (P := P) hn h2
  · cases h
end
end Go.Ab
