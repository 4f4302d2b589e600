/- What one operation yields, read on plain data: the operations that write nothing and make nothing. -/
import Derived.Test.YtmeiemdnhjnpcaaAb1
import Derived.Test.YtmeiemdnhjnpcaaGt
import Derived.Deep.MidRow
set_option linter.unusedSimpArgs false
set_option linter.unusedVariables false
namespace Go.Ab
open Go.RowKit

structure TI where
  desc : TypeDesc
  size : Nat
  bytes : Nat
  zero : List Value
  cmp : Bool

structure TIok (P : Program) (t : TypeId) (ti : TI) : Prop where
  desc : P.underlying t = some ti.desc
  info : ∃ i, P.info? t = some i ∧ i.size = ti.size ∧ i.bytes = ti.bytes ∧ ∃ z, i.zero = some z ∧ z.cells.toList = ti.zero
  cmp : ti.cmp = true → P.stoodInHeld t = false ∧ P.eqGuardType P.depth t = false
def TCok (P : Program) : List (Nat × TI) → Prop
  | [] => True
  | (t, ti) :: r => TIok P t ti ∧ TCok P r
theorem TCok.get {P : Program} {tc : List (Nat × TI)} (h : TCok P tc) {t : Nat} {ti : TI} (ht : lk tc t = some ti) : TIok P t ti := by
  induction tc with
  | nil => cases ht
  | cons p r ih =>
    obtain ⟨k, x⟩ := p
    simp only [lk] at ht
    split at ht
    · rename_i e
      simp at e
      subst e
      cases ht
      exact h.1
    · exact ih h.2 ht
section
variable {P : Program} {t : TypeId} {ti : TI}
theorem TIok.und (h : TIok P t ti) (w : World) : (underlying t).run P w = .ok ti.desc w := run_underlying h.desc w
theorem TIok.info_ (h : TIok P t ti) : (P.info? t).map (·.size) = some ti.size := by
  obtain ⟨i, h1, h2, _⟩ := h.info
  simp [h1, h2]
theorem TIok.sizeOf (h : TIok P t ti) (w : World) : (sizeOf t).run P w = .ok ti.size w := by
  obtain ⟨i, h1, h2, _⟩ := h.info
  simp [Go.sizeOf, typeInfo, h1, h2]
theorem TIok.typeInfo (h : TIok P t ti) (w : World) : ∃ i, (typeInfo t).run P w = .ok i w ∧ i.size = ti.size ∧ i.bytes = ti.bytes := by
  obtain ⟨i, h1, h2, h3, _⟩ := h.info
  exact ⟨i, by simp [Go.typeInfo, h1], h2, h3⟩
theorem TIok.zeroValue (h : TIok P t ti) (w : World) : ∃ z, (zeroValue t).run P w = .ok z w ∧ z.cells.toList = ti.zero := by
  obtain ⟨i, h1, _, _, z, h2, h3⟩ := h.info
  exact ⟨z, by simp [Go.zeroValue, Go.typeInfo, h1, h2], h3⟩
end
def isRow : TypeDesc → Bool
  | .struct _ | .array _ _ => true
  | _ => false
theorem TIok.isAgg {P : Program} {t : TypeId} {ti : TI} (h : TIok P t ti) (w : World) : (isAgg t).run P w = .ok (isRow ti.desc) w := by
  unfold Go.isAgg
  rw [Sem.run_bind, h.und w]
  cases ti.desc <;> rfl

def AllP : List Prop → Prop
  | [] => True
  | p :: r => p ∧ AllP r
theorem AllP.append {l r : List Prop} : AllP (l ++ r) ↔ AllP l ∧ AllP r := by
  induction l with
  | nil => simp [AllP]
  | cons p l ih => simp [AllP, ih, and_assoc]

abbrev Rd_ := Operand → Option V
abbrev Out := Option (List Prop × V)

/-- A bound: reckoned, or owed. -/
def chk (sym : Bool) (b : Bool) (p : Prop) : Option (List Prop) := if sym then some [p] else if b then some [] else none
theorem chk_ok {sym b : Bool} {p : Prop} {o : List Prop} (h : chk sym b p = some o) (hb : b = true → p) (ho : AllP o) : p := by
  unfold chk at h
  cases sym
  · cases b
    · simp at h
    · exact hb rfl
  · simp at h
    subst h
    exact ho.1

def gI (cs : List V) (i : Nat) : V := cs.getD i .top
theorem RelL.gI {I : Nat → Prop} {w : World} {φ : Phi} {cs : List V} {us : List Value} (h : RelL I w φ cs us) {i : Nat} (hi : i < cs.length) : ∃ u, us[i]? = some u ∧ Rel I w φ (gI cs i) u ∧ u.oneCell' = true := by
  have := h.get (List.getElem?_eq_getElem hi)
  simpa [Ab.gI, List.getD_eq_getElem?_getD, List.getElem?_eq_getElem hi] using this

/-! Loads. -/
def part_ (fl row : Bool) (cs : List V) (off s : Nat) : V := if row then .agg fl ((cs.drop off).take s) else gI cs off

inductive Mem (I : Nat → Prop) (w : World) (φ : Phi) : List V → Addr → Prop
  | mk {cs us a} : RelL I w φ cs us → (∀ j u, us[j]? = some u → w.cell? ⟨a.block, a.off + j, none⟩ = some u) → a.spot = none → Mem I w φ cs a

theorem mem_vp {I : Nat → Prop} {w : World} {φ : Phi} {cs : List V} {u : Value} (h : Rel I w φ (.vp cs) u) (hne : 0 < cs.length) : ∃ a, u = .pointer (some a) ∧ Mem I w Phi.emp cs a ∧ I a.block := by
  cases h with
  | vp hl hr h1 hc =>
    rename_i us a
    have h0 : 0 < us.length := by omega
    obtain ⟨b, o, e, hi, _⟩ := hc 0 _ (List.getElem?_eq_getElem h0)
    cases e
    refine ⟨_, rfl, .mk ⟨hl, hr, h1⟩ (fun j u hu => ?_) rfl, hi⟩
    obtain ⟨b', o', e, _, hcell⟩ := hc j u hu
    cases e
    exact hcell
theorem Mem.drop {I : Nat → Prop} {w : World} {φ : Phi} {cs : List V} {b o : Nat} (h : Mem I w φ cs ⟨b, o, none⟩) (n : Nat) : Mem I w φ (cs.drop n) ⟨b, o + n, none⟩ := by
  cases h with
  | mk hr hc hs =>
    refine .mk (hr.drop n) (fun j u hu => ?_) rfl
    rw [List.getElem?_drop] at hu
    have := hc _ _ hu
    simpa [Nat.add_assoc] using this
theorem mem_blk {I : Nat → Prop} {w : World} {φ : Phi} {blk : Blk} {b : Nat} {c : Option Nat} (h : BlkRel I w φ (.at b c) blk) : Mem I w (bFlat φ blk.flat) blk.cells ⟨b, 0, none⟩ := by
  obtain ⟨us, el, hh, hr, _⟩ := h
  refine .mk hr (fun j u hu => ?_) rfl
  rw [List.getElem?_take] at hu
  split at hu
  · simp only [Nat.zero_add]
    simp [World.cell?, hh]
    simpa using hu
  · cases hu

theorem run_load_mem {P : Program} {I : Nat → Prop} {w : World} {φ : Phi} {cs : List V} {b o : Nat} {t : TypeId} {ti : TI} (ht : TIok P t ti) (h : Mem I w φ cs ⟨b, o, none⟩) (fl : Bool) (φ' : Phi) (hφ : φ = bFlat φ' fl)
    (hs : ti.size ≤ cs.length) (hs1 : isRow ti.desc = false → ti.size = 1) :
    ∃ u, (loadVar t ⟨b, o, none⟩).run P w = .ok u w ∧ Rel I w φ' (part_ fl (isRow ti.desc) cs 0 ti.size) u := by
  cases h with
  | mk hr hc hsp =>
  rename_i us
  cases hrow : isRow ti.desc with
  | true =>
    have hr' := hr.take ti.size
    have hl : (us.take ti.size).length = ti.size := by simp [hr.1]; omega
    refine ⟨.agg (us.take ti.size).toArray, run_loadVar_mid w b o t (us.take ti.size) ti.desc (fun j v hv => ?_) ht.desc ?_ (by rw [hl]; exact ht.info_), ?_⟩
    · rw [List.getElem?_take] at hv
      split at hv
      · exact hc j v hv
      · cases hv
    · cases hd : ti.desc <;> simp_all [isRow]
    · simp only [part_, if_true, List.drop_zero]
      refine .agg (by simpa using hr'.1) (fun i hi => ?_) (by simpa using hr'.2.2)
      have := hr'.2.1 i hi
      subst hφ
      exact this
  | false =>
    have h0 : 0 < cs.length := by have := hs1 hrow; omega
    obtain ⟨u, hu, hru, _⟩ := hr.gI h0
    refine ⟨u, ?_, ?_⟩
    · have hcell := hc 0 u hu
      simp only [Nat.add_zero] at hcell
      simp [loadVar, Sem.run_bind, ht.isAgg w, hrow, hcell]
    · simp only [part_]
      subst hφ
      cases fl
      · exact hru
      · exact hru.of_emp

/-- The block of an own id, and what is there. -/
def blkAt (H : List (Nat × Blk)) (id : Nat) : Option Blk := lk H id

def evLoad (tc : List (Nat × TI)) (H : List (Nat × Blk)) (sym : Bool) (t : TypeId) (x : V) : Out :=
  match lk tc t with
  | some ti => if !(isRow ti.desc) && !(ti.size == 1) then none else
    match x with
    | .ptr id off => match lk H id with
      | some blk =>
        match isRow ti.desc && (blk.bld.isNone && blk.size == ti.size) with
        | true => match chk sym (off == 0) (off = 0) with
          | some o => some (o, .agg blk.flat blk.cells)
          | none => none
        | false => match chk sym (Nat.ble (off + ti.size) blk.cells.length) (off + ti.size ≤ blk.cells.length) with
          | some o => some (o, part_ blk.flat (isRow ti.desc) blk.cells off ti.size)
          | none => none
      | none => none
    | .vp cs => if ti.size == 0 then none else match chk sym (Nat.ble ti.size cs.length) (ti.size ≤ cs.length) with
      | some o => some (o, part_ true (isRow ti.desc) cs 0 ti.size)
      | none => none
    | _ => none
  | none => none

section
variable {P : Program} {I : Nat → Prop} {w : World} {φ : Phi} {tc : List (Nat × TI)} {H : List (Nat × Blk)} {sym : Bool} {o : List Prop} {v x y : V} {u ux uy : Value}
theorem slot_blk (hH : HR I w φ H) {id : Nat} {blk : Blk} (hb : lk H id = some blk) {b : Nat} {c : Option Nat} (hs : φ id = .at b c) : BlkRel I w φ (.at b c) blk := by
  have := hH id blk hb
  rwa [hs] at this

theorem evLoad_ok (hT : TCok P tc) {t : TypeId} (h : evLoad tc H sym t x = some (o, v)) (ho : AllP o) (hx : Rel I w φ x u) (hH : HR I w φ H) : ∃ r, (Instr.loadAt t u).run P w = .ok r w ∧ Rel I w φ v r := by
  unfold evLoad at h
  cases hti : lk tc t with
  | none => simp [hti] at h
  | some ti =>
    have ht := hT.get hti
    simp only [hti] at h
    cases hc1 : (!(isRow ti.desc) && !(ti.size == 1)) with
    | true => simp [hc1] at h
    | false =>
      have hs1 : isRow ti.desc = false → ti.size = 1 := fun hr => by simpa [hr] using hc1
      simp only [hc1, Bool.false_eq_true, if_false] at h
      cases x with
      | ptr id off =>
        simp only at h
        cases hb : lk H id with
        | none => simp [hb] at h
        | some blk =>
          simp only [hb] at h
          cases hx with
          | ptr hs =>
          rename_i b c
          have hblk := slot_blk hH hb hs
          have hm := mem_blk hblk
          simp only [Instr.loadAt, Instr.sureAddr, Sem.run_bind, Sem.run_pure, Result.andThen_ok]
          cases hw : (isRow ti.desc && (blk.bld.isNone && blk.size == ti.size)) with
          | true =>
            simp only [hw] at h
            cases hk : chk sym (off == 0) (off = 0) with
            | none => simp [hk] at h
            | some o' =>
              simp only [hk, Option.some.injEq, Prod.mk.injEq] at h
              obtain ⟨rfl, rfl⟩ := h
              have h0 := chk_ok hk (by simp) ho
              subst h0
              simp only [Bool.and_eq_true, beq_iff_eq] at hw
              obtain ⟨hrow, hbn, hsz⟩ := hw
              obtain ⟨us, el, hh, hr, hk⟩ := hblk
              cases hbl : blk.bld with
              | some q => simp [hbl] at hbn
              | none =>
                simp only [hbl] at hk
                obtain ⟨k1, k2, k3⟩ := hk
                obtain ⟨r, hr1, hr2⟩ := run_load_mem ht hm blk.flat φ rfl (by omega) hs1
                refine ⟨r, hr1, ?_⟩
                rw [hrow, part_, if_pos rfl, List.drop_zero, List.take_of_length_le (by omega)] at hr2
                exact hr2
          | false =>
            simp only [hw] at h
            cases hk : chk sym (Nat.ble (off + ti.size) blk.cells.length) (off + ti.size ≤ blk.cells.length) with
            | none => simp [hk] at h
            | some o' =>
              simp only [hk, Option.some.injEq, Prod.mk.injEq] at h
              obtain ⟨rfl, rfl⟩ := h
              have h0 := chk_ok hk (by simp) ho
              have := hm.drop off
              rw [Nat.zero_add] at this
              obtain ⟨r, hr1, hr2⟩ := run_load_mem ht this blk.flat φ rfl (by simp; omega) hs1
              refine ⟨r, hr1, ?_⟩
              unfold part_ at hr2 ⊢
              simpa [gI, List.getD_eq_getElem?_getD] using hr2
      | vp cs =>
        simp only at h
        split at h
        · cases h
        rename_i hz
        cases hk : chk sym (Nat.ble ti.size cs.length) (ti.size ≤ cs.length) with
        | none => simp [hk] at h
        | some o' =>
          simp only [hk, Option.some.injEq, Prod.mk.injEq] at h
          obtain ⟨rfl, rfl⟩ := h
          have h0 := chk_ok hk (by simp) ho
          have hz' : ti.size ≠ 0 := by simpa using hz
          obtain ⟨ad, rfl, hm, _⟩ := mem_vp hx (by omega)
          obtain ⟨b, off, sp⟩ := ad
          have hsp : sp = none := by cases hm with | mk _ _ hs => exact hs
          subst hsp
          simp only [Instr.loadAt, Instr.sureAddr, Sem.run_bind, Sem.run_pure, Result.andThen_ok]
          exact run_load_mem ht hm true φ rfl (by omega) hs1
      | _ => simp at h
end
end Go.Ab
