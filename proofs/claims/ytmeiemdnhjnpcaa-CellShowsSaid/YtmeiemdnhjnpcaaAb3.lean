/- What one operation yields, read on plain data: fields, indexes, slices, extracts. -/
import Derived.Test.YtmeiemdnhjnpcaaAb2
set_option linter.unusedSimpArgs false
set_option linter.unusedVariables false
namespace Go.Ab
open Go.RowKit
section
variable {P : Program} {I : Nat → Prop} {w : World} {φ : Phi} {tc : List (Nat × TI)} {H : List (Nat × Blk)} {sym : Bool} {o : List Prop} {v x y : V} {u ux uy : Value}

theorem Rel.vp_drop {cs : List V} {a : Addr} (h : Rel I w φ (.vp cs) (.pointer (some a))) (n : Nat) : Rel I w φ (.vp (cs.drop n)) (.pointer (some (a.add n))) := by
  cases h with
  | vp hl hr h1 hc =>
    rename_i us
    have hrl : RelL I w Phi.emp cs us := ⟨hl, hr, h1⟩
    have := hrl.drop n
    refine .vp this.1 this.2.1 this.2.2 (fun j u hu => ?_)
    rw [List.getElem?_drop] at hu
    obtain ⟨b, o, e, hi, hcell⟩ := hc _ _ hu
    cases e
    refine ⟨b, o + n, by rw [Addr.add_mid], hi, ?_⟩
    rwa [Nat.add_assoc]
theorem Rel.vp_pointer {cs : List V} {u : Value} (h : Rel I w φ (.vp cs) u) : ∃ a, u = .pointer (some a) := by
  cases h
  exact ⟨_, rfl⟩

def evFieldAddr (tc : List (Nat × TI)) (s : TypeId) (x : V) (f : Nat) : Out :=
  match lk tc s with
  | some ⟨.struct fields, _, _, _, _⟩ => match fields.toList[f]? with
    | some fl => match lk tc fl.type with
      | some fi => if fi.size == 0 then none else
        match x with
        | .ptr id off => some ([], .ptr id (off + fl.offset))
        | .vp cs => some ([], .vp (cs.drop fl.offset))
        | _ => none
      | none => none
    | none => none
  | _ => none
theorem evFieldAddr_ok (hT : TCok P tc) {s : TypeId} {f : Nat} (h : evFieldAddr tc s x f = some (o, v)) (hx : Rel I w φ x u) : ∃ r, (Instr.fieldAt s u f).run P w = .ok r w ∧ Rel I w φ v r := by
  unfold evFieldAddr at h
  split at h
  · rename_i fields s1 s2 s3 s4 hti
    split at h
    · rename_i fl hfl
      split at h
      · rename_i fi hfi
        split at h
        · cases h
        rename_i hz
        have ht := hT.get hti
        have hft := hT.get hfi
        have hf : fields[f]? = some fl := by simpa using hfl
        have hpl : ∀ a : Addr, (fieldPlace a fl).run P w = .ok (a.add fl.offset) w := fun a => by
          have : fi.size ≠ 0 := by simpa using hz
          simp [fieldPlace, Sem.run_bind, hft.sizeOf w, this]
        have hrun : ∀ a : Addr, (Instr.fieldAt s (.pointer (some a)) f).run P w = .ok (.pointer (some (a.add fl.offset))) w := fun a => by
          simp only [Instr.fieldAt, Sem.run_bind, ht.und w, Result.andThen_ok, hf, Instr.sureAddr, Sem.run_pure, hpl]
        split at h
        · cases h
          cases hx with
          | ptr hs =>
            refine ⟨_, hrun _, ?_⟩
            rw [Addr.add_mid]
            exact .ptr hs
        · cases h
          obtain ⟨a, rfl⟩ := hx.vp_pointer
          exact ⟨_, hrun _, hx.vp_drop _⟩
        · cases h
      · cases h
    · cases h
  · cases h

def evField (tc : List (Nat × TI)) (sym : Bool) (s : TypeId) (x : V) (f : Nat) : Out :=
  match lk tc s with
  | some ⟨.struct fields, _, _, _, _⟩ => match fields.toList[f]? with
    | some fl => match lk tc fl.type with
      | some fi => match x with
        | .agg g cs => if isRow fi.desc then some ([], .agg g ((cs.drop fl.offset).take fi.size)) else
          match chk sym (Nat.blt fl.offset cs.length) (fl.offset < cs.length) with
          | some o => some (o, gI cs fl.offset)
          | none => none
        | _ => none
      | none => none
    | none => none
  | _ => none
theorem agg_sub {g : Bool} {cs : List V} {us : Array Value} (h : Rel I w φ (.agg g cs) (.agg us)) (n k : Nat) : Rel I w φ (.agg g ((cs.drop n).take k)) (.agg (us.extract n (n + k))) := by
  cases h with
  | agg hl hr h1 =>
    have hrl : RelL I w (if g then Phi.emp else φ) cs us.toList := ⟨by simpa using hl, hr, h1⟩
    have := (hrl.drop n).take k
    have e : (us.extract n (n + k)).toList = (us.toList.drop n).take k := by simp
    refine .agg (by simp; omega) (fun i hi => ?_) ?_
    · rw [e]; exact this.2.1 i hi
    · rw [e]; exact this.2.2
theorem agg_get {g : Bool} {cs : List V} {us : Array Value} (h : Rel I w φ (.agg g cs) (.agg us)) {n : Nat} (hn : n < cs.length) : ∃ u, us[n]? = some u ∧ Rel I w φ (gI cs n) u := by
  cases h with
  | agg hl hr h1 =>
    have hrl : RelL I w (if g then Phi.emp else φ) cs us.toList := ⟨by simpa using hl, hr, h1⟩
    obtain ⟨u, hu, hru, _⟩ := hrl.gI hn
    refine ⟨u, by simpa using hu, ?_⟩
    cases g
    · exact hru
    · exact hru.of_emp
theorem Rel.agg_inv {g : Bool} {cs : List V} (h : Rel I w φ (.agg g cs) u) : ∃ us, u = .agg us ∧ us.size = cs.length := by
  cases h with
  | agg hl => exact ⟨_, rfl, hl⟩
theorem evField_ok (hT : TCok P tc) {s : TypeId} {f : Nat} (h : evField tc sym s x f = some (o, v)) (ho : AllP o) (hx : Rel I w φ x u) : ∃ r, (Instr.field s u f).run P w = .ok r w ∧ Rel I w φ v r := by
  unfold evField at h
  split at h
  · rename_i fields s1 s2 s3 s4 hti
    split at h
    · rename_i fl hfl
      split at h
      · rename_i fi hfi
        have ht := hT.get hti
        have hft := hT.get hfi
        have hf : fields[f]? = some fl := by simpa using hfl
        split at h
        · rename_i g cs
          obtain ⟨us, rfl, hl⟩ := hx.agg_inv
          split at h
          · rename_i hrow
            cases h
            refine ⟨_, ?_, agg_sub hx fl.offset fi.size⟩
            simp [Instr.field, Sem.run_bind, ht.und w, hf, asAgg, part, hft.isAgg w, hrow, hft.sizeOf w]
          · rename_i hrow
            cases hk : chk sym (Nat.blt fl.offset cs.length) (fl.offset < cs.length) with
            | none => simp [hk] at h
            | some o' =>
              simp only [hk, Option.some.injEq, Prod.mk.injEq] at h
              obtain ⟨rfl, rfl⟩ := h
              have h0 := chk_ok hk (by simp) ho
              obtain ⟨r, hr, hrr⟩ := agg_get hx h0
              refine ⟨r, ?_, hrr⟩
              simp [Instr.field, Sem.run_bind, ht.und w, hf, asAgg, part, hft.isAgg w, hrow, hr]
        · cases h
      · cases h
    · cases h
  · cases h

/-! Indexes. -/
def evIndexAddr (tc : List (Nat × TI)) (sym : Bool) (t : TypeId) (x i : V) : Out :=
  match i with
  | .val (.int _ n) => match lk tc t with
    | some ⟨.array len e, _, _, _, _⟩ => match lk tc e with
      | some ei => match chk sym (decide (0 ≤ n) && decide (n < len)) (0 ≤ n ∧ n < len) with
        | some o => match x with
          | .ptr id off => some (o, .ptr id (off + n.toNat * ei.size))
          | .vp cs => some (o, .vp (cs.drop (n.toNat * ei.size)))
          | _ => none
        | none => none
      | none => none
    | some ⟨.slice e, _, _, _, _⟩ => match lk tc e with
      | some ei => match x with
        | .sl id off len => match chk sym (decide (0 ≤ n) && decide (n < len)) (0 ≤ n ∧ n < len) with
          | some o => some (o, .ptr id (off + n.toNat * ei.size))
          | none => none
        | .vs cs len => match chk sym (decide (0 ≤ n) && decide (n < len)) (0 ≤ n ∧ n < len) with
          | some o => some (o, .vp (cs.drop (n.toNat * ei.size)))
          | none => none
        | _ => none
      | none => none
    | _ => none
  | _ => none
theorem Rel.int_inv {k : IntKind} {n : Int} (h : Rel I w φ (.val (.int k n)) u) : u = .int k n := by cases h; rfl
theorem Rel.val_inv {z : Value} (h : Rel I w φ (.val z) u) : u = z := by cases h; rfl
theorem evIndexAddr_ok (hT : TCok P tc) {t : TypeId} {i : V} {ui : Value} (h : evIndexAddr tc sym t x i = some (o, v)) (ho : AllP o) (hx : Rel I w φ x u) (hi : Rel I w φ i ui) :
    ∃ r, (Instr.indexAt t u ui).run P w = .ok r w ∧ Rel I w φ v r := by
  unfold evIndexAddr at h
  split at h
  · rename_i k n
    obtain rfl := hi.int_inv
    split at h
    · rename_i len e _ _ _ _ hti
      have ht := hT.get hti
      split at h
      · rename_i ei hei
        have he := hT.get hei
        split at h
        · rename_i o' hk
          have hrun : ∀ a : Addr, (0 ≤ n ∧ n < len) → (Instr.indexAt t (.pointer (some a)) (.int k n)).run P w = .ok (.pointer (some (a.add (n.toNat * ei.size)))) w := fun a hb => by
            simp [Instr.indexAt, Sem.run_bind, ht.und w, asIntOf, Instr.sureAddr, hb, he.sizeOf w]
          split at h
          · cases h
            have hb := chk_ok hk (by simp) ho
            cases hx with
            | ptr hs =>
              refine ⟨_, hrun _ hb, ?_⟩
              rw [Addr.add_mid]
              exact .ptr hs
          · cases h
            have hb := chk_ok hk (by simp) ho
            obtain ⟨a, rfl⟩ := hx.vp_pointer
            exact ⟨_, hrun _ hb, hx.vp_drop _⟩
          · cases h
        · cases h
      · cases h
    · rename_i e _ _ _ _ hti
      have ht := hT.get hti
      split at h
      · rename_i ei hei
        have he := hT.get hei
        have hrun : ∀ (a : Addr) (len cap : Nat), (0 ≤ n ∧ n < len) → (Instr.indexAt t (.slice (some a) len cap) (.int k n)).run P w = .ok (.pointer (some (a.add (n.toNat * ei.size)))) w := fun a len cap hb => by
          simp [Instr.indexAt, Sem.run_bind, ht.und w, asIntOf, hb, he.sizeOf w]
        split at h
        · rename_i id off len
          split at h
          · rename_i o' hk
            cases h
            have hb := chk_ok hk (by simp) ho
            cases hx with
            | sl hs h1 h2 h3 =>
              refine ⟨_, hrun _ _ _ hb, ?_⟩
              rw [Addr.add_mid]
              exact .ptr hs
            | slnil => omega
          · cases h
        · rename_i cs len
          split at h
          · rename_i o' hk
            cases h
            have hb := chk_ok hk (by simp) ho
            cases hx with
            | vs hl hr h1 hc hA hlc hcm =>
              rename_i us cap A
              cases A with
              | none => have := hA rfl; omega
              | some a =>
                have hp : Rel I w φ (.vp cs) (.pointer (some a)) := .vp hl hr h1 hc
                exact ⟨_, hrun _ _ _ hb, hp.vp_drop _⟩
          · cases h
        · cases h
      · cases h
    · cases h
  · cases h

def sAt (s : ByteArray) (i : Nat) : Int := ((s.data.toList.getD i 0).toNat : Int)
def evIndex (tc : List (Nat × TI)) (sym : Bool) (t : TypeId) (x i : V) : Out :=
  match i with
  | .val (.int _ n) => match lk tc t with
    | some ⟨.array len e, _, _, _, _⟩ => match lk tc e with
      | some ei => match x with
        | .agg g cs => if isRow ei.desc then
            match chk sym (decide (0 ≤ n) && decide (n < len)) (0 ≤ n ∧ n < len) with
            | some o => some (o, .agg g ((cs.drop (n.toNat * ei.size)).take ei.size))
            | none => none
          else match chk sym (decide (0 ≤ n) && decide (n < len) && Nat.blt (n.toNat * ei.size) cs.length) (0 ≤ n ∧ n < len ∧ n.toNat * ei.size < cs.length) with
            | some o => some (o, gI cs (n.toNat * ei.size))
            | none => none
        | _ => none
      | none => none
    | some ⟨.string, _, _, _, _⟩ => match x with
      | .val (.string s) => match chk sym (decide (0 ≤ n) && decide (n < s.size)) (0 ≤ n ∧ n < s.size) with
        | some o => some (o, .val (.int .u8 (sAt s n.toNat)))
        | none => none
      | _ => none
    | _ => none
  | _ => none
theorem evIndex_ok (hT : TCok P tc) {t : TypeId} {i : V} {ui : Value} (h : evIndex tc sym t x i = some (o, v)) (ho : AllP o) (hx : Rel I w φ x u) (hi : Rel I w φ i ui) :
    ∃ r, (Instr.index t u ui).run P w = .ok r w ∧ Rel I w φ v r := by
  unfold evIndex at h
  split at h
  · rename_i k n
    obtain rfl := hi.int_inv
    split at h
    · rename_i len e _ _ _ _ hti
      have ht := hT.get hti
      split at h
      · rename_i ei hei
        have he := hT.get hei
        split at h
        · rename_i g cs
          obtain ⟨us, rfl, hl⟩ := hx.agg_inv
          split at h
          · rename_i hrow
            split at h
            · rename_i o' hk
              cases h
              have hb := chk_ok hk (by simp) ho
              refine ⟨_, ?_, agg_sub hx (n.toNat * ei.size) ei.size⟩
              simp [Instr.index, Sem.run_bind, ht.und w, asIntOf, hb, he.sizeOf w, part, he.isAgg w, hrow]
            · cases h
          · rename_i hrow
            split at h
            · rename_i o' hk
              cases h
              have hb := chk_ok hk (by simp; omega) ho
              obtain ⟨r, hr, hrr⟩ := agg_get hx hb.2.2
              refine ⟨r, ?_, hrr⟩
              simp [Instr.index, Sem.run_bind, ht.und w, asIntOf, hb, he.sizeOf w, part, he.isAgg w, hrow, hr]
            · cases h
        · cases h
      · cases h
    · rename_i _ _ _ _ hti
      have ht := hT.get hti
      split at h
      · rename_i s
        obtain rfl := hx.val_inv
        split at h
        · rename_i o' hk
          cases h
          have hb := chk_ok hk (by simp) ho
          refine ⟨_, ?_, .val rfl⟩
          have hlt : n.toNat < s.size := by omega
          have hg : s[n.toNat]? = some s[n.toNat] := by simp [hlt]
          have hs : s[n.toNat] = s.data.toList.getD n.toNat 0 := by
            have : n.toNat < s.data.toList.length := by simpa using hlt
            rw [List.getD_eq_getElem?_getD, List.getElem?_eq_getElem this]
            rfl
          simp only [Instr.index, Sem.run_bind, ht.und w, asIntOf, Sem.run_pure, Result.andThen_ok, hb.1, if_true, hg]
          rw [hs]
          rfl
        · cases h
      · cases h
    · cases h
  · cases h

def evExtract (x : V) (i : Nat) : Out :=
  match x with
  | .tup vs => match vs[i]? with
    | some v => some ([], v)
    | none => none
  | _ => none
theorem evExtract_ok {i : Nat} (h : evExtract x i = some (o, v)) (hx : Rel I w φ x u) : ∃ r, (Instr.extract u i).run P w = .ok r w ∧ Rel I w φ v r := by
  unfold evExtract at h
  split at h
  · rename_i vs
    split at h
    · rename_i v' hv
      cases h
      cases hx with
      | tup hl hr =>
        rename_i us
        obtain ⟨hi, rfl⟩ := List.getElem?_eq_some_iff.1 hv
        have hi' : i < us.size := by omega
        refine ⟨us[i], ?_, ?_⟩
        · simp [Instr.extract, hi']
        · have := hr i hi
          simpa [List.getD_eq_getElem?_getD, hi'] using this
    · cases h
  · cases h
end
end Go.Ab
