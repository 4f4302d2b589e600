/- What one operation yields, read on plain data: slices of slices; new blocks. -/
import Derived.Test.YtmeiemdnhjnpcaaAb5
set_option linter.unusedSimpArgs false
set_option linter.unusedVariables false
namespace Go.Ab
open Go.RowKit
section
variable {P : Program} {I : Nat → Prop} {w : World} {φ : Phi} {tc : List (Nat × TI)} {H : List (Nat × Blk)} {sym : Bool} {o : List Prop} {v x y : V} {u ux uy : Value}

/-! ### A slice of a slice -/
/-- A bound that is given, or left out. -/
def bnd : Option V → Nat → Option Int
  | none, n => some n
  | some (.val (.int _ i)), _ => some i
  | _, _ => none
def subV (cs : List V) (lo hi : Option V) (l h n : Nat) : List V :=
  match lo, hi with
  | none, none => cs
  | none, some _ => cs.take h
  | some _, _ => (cs.drop l).take n
def evSlice (tc : List (Nat × TI)) (H : List (Nat × Blk)) (sym : Bool) (t : TypeId) (x : V) (lo hi : Option V) : Out :=
  match bnd lo 0 with
  | none => none
  | some l => match lk tc t with
    | some ⟨.string, _, _, _, _⟩ => match x with
      | .val (.string s) => match bnd hi s.size with
        | some h => (chk sym (decide (0 ≤ l) && decide (l ≤ h) && decide (h ≤ s.size)) (0 ≤ l ∧ l ≤ h ∧ h ≤ s.size)).map (·, .val (.string (s.extract l.toNat h.toNat)))
        | none => none
      | _ => none
    | some ⟨.slice e, _, _, _, _⟩ => match lk tc e with
      | some ei => match x with
        | .vs cs n => match bnd hi n with
          | some h => (chk sym (decide (0 ≤ l) && decide (l ≤ h) && decide (h ≤ n)) (0 ≤ l ∧ l ≤ h ∧ h ≤ n)).map
              (·, .vs (subV cs lo hi (l.toNat * ei.size) (h.toNat * ei.size) ((h.toNat - l.toNat) * ei.size)) (h.toNat - l.toNat))
          | none => none
        | .sl id off n => match bnd hi n with
          | some h => if ei.size == 0 then none else match lo with
            | none => (chk sym (decide (0 ≤ h) && decide (h ≤ n)) (0 ≤ h ∧ h ≤ n)).map (·, .sl id off h.toNat)
            | some _ => match !sym && (decide (0 ≤ l) && decide (l = h) && decide (h ≤ n)) with
              | true => some ([], .vs [] 0)
              | false => (chk sym (decide (0 ≤ l) && decide (l < h) && decide (h ≤ n)) (0 ≤ l ∧ l < h ∧ h ≤ n)).map (·, .sl id (off + l.toNat * ei.size) (h.toNat - l.toNat))
          | none => none
        | _ => none
      | none => none
    | some ⟨.array n e, _, _, _, _⟩ => match lk tc e with
      | some ei => match x with
        | .ptr id off => match lk H id with
          | some blk => match blk.bld with
            | some _ => none
            | none => if Nat.ble n 9223372036854775807 then match bnd hi n with
              | some h => (chk sym (decide (0 ≤ l) && decide (l < h) && decide (h ≤ n)) (0 ≤ l ∧ l < h ∧ h ≤ n)).map (·, .sl id (off + l.toNat * ei.size) (h.toNat - l.toNat))
              | none => none
              else none
          | none => none
        | .vp cs => match lo, hi with
          | none, none => if (Nat.ble n 9223372036854775807 && Nat.blt 0 (n * ei.size)) && Nat.ble (n * ei.size) cs.length then some ([], .vs (cs.take (n * ei.size)) n) else none
          | _, _ => none
        | _ => none
      | none => none
    | _ => none
def bndV (b : Option V) (bv : Option Value) : Prop := match b, bv with
  | none, none => True
  | some (.val (.int k i)), some (.int k' i') => k = k' ∧ i = i'
  | _, _ => False
theorem bnd_run {b : Option V} {bv : Option Value} {n : Nat} {i : Int} (h : bnd b n = some i) (hv : bndV b bv) : (b = none ∧ bv = none ∧ i = n) ∨ ∃ k, b = some (.val (.int k i)) ∧ bv = some (.int k i) := by
  unfold bnd at h
  split at h
  · cases h
    cases bv with
    | none => exact .inl ⟨rfl, rfl, rfl⟩
    | some z => simp [bndV] at hv
  · cases h
    rename_i k i'
    cases bv with
    | none => simp [bndV] at hv
    | some z =>
      cases z <;> simp [bndV] at hv
      obtain ⟨rfl, rfl⟩ := hv
      exact .inr ⟨_, rfl, rfl⟩
  · cases h
theorem bounds_run {isS : Bool} {len cap : Nat} {lo hi : Option V} {lv hv : Option Value} {l h : Int} (hl : bnd lo 0 = some l) (hh : bnd hi len = some h) (hlv : bndV lo lv) (hhv : bndV hi hv)
    (h0 : 0 ≤ l) (h1 : l ≤ h) (h2 : h ≤ len) (h3 : len ≤ cap) : (Instr.sliceBounds isS len cap lv hv none).run P w = .ok (l.toNat, h.toNat, cap) w := by
  have e1 : (h.toNat : Int) = h := Int.toNat_of_nonneg (by omega)
  have hb : ∀ (k : IntKind) (c : BoundsCode), (Instr.sliceBound (.int k h) cap c).run P w = .ok h.toNat w := fun k c => run_sliceBound w k h cap c (by omega) (by omega)
  have lb : ∀ (k : IntKind) (c : BoundsCode) (m : Nat), (m : Int) = h → (Instr.sliceBound (.int k l) m c).run P w = .ok l.toNat w := fun k c m hm => run_sliceBound w k l m c h0 (by omega)
  rcases bnd_run hl hlv with ⟨rfl, rfl, rfl⟩ | ⟨k, rfl, rfl⟩ <;> rcases bnd_run hh hhv with ⟨rfl, rfl, rfl⟩ | ⟨k', rfl, rfl⟩
  · simp [Instr.sliceBounds]
  · simp only [Instr.sliceBounds, Sem.run_bind, Sem.run_pure, Result.andThen_ok, hb]
    simp
  · simp only [Instr.sliceBounds, Sem.run_bind, Sem.run_pure, Result.andThen_ok, lb _ _ len rfl]
    simp
  · simp only [Instr.sliceBounds, Sem.run_bind, Sem.run_pure, Result.andThen_ok, hb, lb _ _ _ e1]
theorem evSlice_ok (hT : TCok P tc) (hH : HR I w φ H) {t : TypeId} {lo hi : Option V} {lv hv : Option Value} (h : evSlice tc H sym t x lo hi = some (o, v)) (ho : AllP o) (hx : Rel I w φ x u) (hlv : bndV lo lv) (hhv : bndV hi hv) :
    ∃ r, (Instr.sliceAt t u lv hv none).run P w = .ok r w ∧ Rel I w φ v r := by
  unfold evSlice at h
  split at h
  · cases h
  rename_i l hl
  split at h
  · rename_i _ _ _ _ hti
    have ht := hT.get hti
    split at h
    · rename_i s
      obtain rfl := hx.val_inv
      split at h
      · rename_i h' hh
        simp only [Option.map_eq_some_iff, Prod.mk.injEq] at h
        obtain ⟨o', hk, rfl, rfl⟩ := h
        obtain ⟨h0, h1, h2⟩ := chk_ok hk (by simp; omega) ho
        refine ⟨_, ?_, .val rfl⟩
        rw [run_sliceAt_string w t _ _ _ _ ht.desc]
        simp only [Instr.slice, Sem.run_bind, ht.und w, Result.andThen_ok, Option.isSome_none, Bool.false_eq_true, if_false]
        rw [bounds_run hl hh hlv hhv h0 h1 h2 (Nat.le_refl _)]
        rfl
      · cases h
    · cases h
  · rename_i e _ _ _ _ hti
    have ht := hT.get hti
    split at h
    · rename_i ei hei
      have he := hT.get hei
      have hsl : ∀ (A : Option Addr) (n cap : Nat) (h' : Int), bnd hi n = some h' → 0 ≤ l → l ≤ h' → h' ≤ n → n ≤ cap →
          (Instr.sliceAt t (.slice A n cap) lv hv none).run P w = .ok (.slice (if cap = l.toNat then A else A.map (·.add (l.toNat * ei.size))) (h'.toNat - l.toNat) (cap - l.toNat)) w := fun A n cap h' hh h0 h1 h2 h3 => by
        have hd := ht.desc
        simp only [Instr.sliceAt, Sem.run_bind, ht.und w, Result.andThen_ok, Instr.slice]
        rw [bounds_run hl hh hlv hhv h0 h1 h2 h3]
        simp only [Result.andThen_ok, he.sizeOf w, Sem.run_pure]
      split at h
      · rename_i cs n
        split at h
        · rename_i h' hh
          simp only [Option.map_eq_some_iff, Prod.mk.injEq] at h
          obtain ⟨o', hk, rfl, rfl⟩ := h
          obtain ⟨h0, h1, h2⟩ := chk_ok hk (by simp; omega) ho
          cases hx with
          | vs hlen hr hone hc hA hlc hcm =>
            rename_i us cap A
            refine ⟨_, hsl A n cap h' hh h0 h1 h2 hlc, ?_⟩
            have hrl : RelL I w Phi.emp cs us := ⟨hlen, hr, hone⟩
            rcases bnd_run hl hlv with ⟨rfl, rfl, rfl⟩ | ⟨k, rfl, rfl⟩
            · have hA' : (if cap = (((0 : Nat) : Int)).toNat then A else A.map (·.add ((((0 : Nat) : Int)).toNat * ei.size))) = A := by
                split
                · rfl
                · cases A <;> simp [Addr.add]
              rw [hA']
              cases hi with
              | none =>
                obtain rfl : (n : Int) = h' := by simpa [bnd] using hh
                simpa [subV] using Rel.vs (φ := φ) hlen hr hone hc hA hlc hcm
              | some z =>
                have := hrl.take (h'.toNat * ei.size)
                refine .vs this.1 this.2.1 this.2.2 (fun j z hz => ?_) (fun e => by have := hA e; omega) (by omega) (by omega)
                rw [List.getElem?_take] at hz
                split at hz
                · exact hc _ _ hz
                · cases hz
            · have := (hrl.drop (l.toNat * ei.size)).take ((h'.toNat - l.toNat) * ei.size)
              by_cases hcl : cap = l.toNat
              · have h3 : h'.toNat - l.toNat = 0 := by omega
                rw [if_pos hcl, h3]
                rw [h3, Nat.zero_mul] at this
                simp only [subV, Nat.zero_mul]
                refine .vs this.1 this.2.1 this.2.2 (fun j z hz => by simp at hz) (fun e => by have := hA e; omega) (by omega) (by omega)
              · rw [if_neg hcl]
                refine .vs this.1 this.2.1 this.2.2 (fun j z hz => ?_) (fun e => ?_) (by omega) (by omega)
                · rw [List.getElem?_take] at hz
                  split at hz
                  · rw [List.getElem?_drop] at hz
                    obtain ⟨b, off, rfl, hi', hcell⟩ := hc _ _ hz
                    refine ⟨b, off + l.toNat * ei.size, by simp [Addr.add_mid], hi', ?_⟩
                    rwa [Nat.add_assoc]
                  · cases hz
                · have : A = none := by simpa using e
                  have := hA this
                  omega
        · cases h
      · rename_i id off n
        split at h
        · rename_i h' hh
          split at h
          · cases h
          rename_i hz
          have hz' : 0 < ei.size := by have : ei.size ≠ 0 := by simpa using hz
                                       omega
          cases lo with
          | none =>
            simp only [Option.map_eq_some_iff, Prod.mk.injEq] at h
            obtain ⟨o', hk, rfl, rfl⟩ := h
            obtain ⟨h1, h2⟩ := chk_ok hk (by simp) ho
            obtain rfl : ((0 : Nat) : Int) = l := by simpa [bnd] using hl
            cases hx with
            | sl hs q1 q2 q3 =>
              refine ⟨_, hsl _ n _ h' hh (by omega) (by omega) h2 q1, ?_⟩
              have hA' : ∀ (A : Option Addr) (cap : Nat), (if cap = (((0 : Nat) : Int)).toNat then A else A.map (·.add ((((0 : Nat) : Int)).toNat * ei.size))) = A := fun A cap => by
                split
                · rfl
                · cases A <;> simp [Addr.add]
              rw [hA']
              exact .sl hs (by omega) (by omega) (fun k hk h0 => by have := q3 k hk h0; omega)
            | slnil hs =>
              refine ⟨_, hsl _ 0 _ h' hh (by omega) (by omega) h2 (Nat.le_refl _), ?_⟩
              have : h'.toNat = 0 := by omega
              simp only [this]
              exact .slnil hs
          | some z =>
            simp only at h
            split at h
            · rename_i hc
              cases h
              simp only [Bool.and_eq_true, decide_eq_true_eq] at hc
              obtain ⟨_, ⟨h0, h1⟩, h2⟩ := hc
              have hz : ∀ (B : Option Addr) (m k : Nat), m = 0 → (B = none → k = 0) → k ≤ 9223372036854775807 → Rel I w φ (.vs [] 0) (.slice B m k) := fun B m k hm hB hk => by
                subst hm
                exact .vs (us := []) rfl (fun i h => by simp at h) (fun u h => by simp at h) (fun j u h => by simp at h) hB (Nat.zero_le _) hk
              cases hx with
              | sl hs q1 q2 q3 =>
                refine ⟨_, hsl _ n _ h' hh h0 (by omega) h2 q1, hz _ _ _ (by omega) (fun e => ?_) (by omega)⟩
                split at e
                · cases e
                · cases e
              | slnil hs =>
                exact ⟨_, hsl _ 0 _ h' hh h0 (by omega) h2 (Nat.le_refl _), hz _ _ _ (by omega) (fun _ => by omega) (by omega)⟩
            rename_i hc
            clear hc
            simp only [Option.map_eq_some_iff, Prod.mk.injEq] at h
            obtain ⟨o', hk, rfl, rfl⟩ := h
            obtain ⟨h0, h1, h2⟩ := chk_ok hk (by simp; omega) ho
            cases hx with
            | sl hs q1 q2 q3 =>
              refine ⟨_, hsl _ n _ h' hh (by omega) (by omega) h2 q1, ?_⟩
              rw [if_neg (by omega)]
              simp only [Option.map_some, Addr.add_mid]
              refine .sl hs (by omega) (by omega) (fun k hk h3 => ?_)
              have : l.toNat * ei.size = 0 := by omega
              have hl0 : l.toNat = 0 := by
                rcases Nat.mul_eq_zero.1 this with h | h
                · exact h
                · omega
              have := q3 k hk (by omega)
              omega
            | slnil hs => omega
        · cases h
      · cases h
    · cases h
  · rename_i n e _ _ _ _ hti
    have ht := hT.get hti
    split at h
    · rename_i ei hei
      have he := hT.get hei
      split at h
      · rename_i id off
        split at h
        · rename_i blk hb
          split at h
          · cases h
          · rename_i hbn
            split at h
            case isFalse => cases h
            rename_i hnb
            have hnb' : n ≤ 9223372036854775807 := Nat.le_of_ble_eq_true hnb
            split at h
            · rename_i h' hh
              simp only [Option.map_eq_some_iff, Prod.mk.injEq] at h
              obtain ⟨o', hk, rfl, rfl⟩ := h
              obtain ⟨h0, h1, h2⟩ := chk_ok hk (by simp; omega) ho
              cases hx with
              | ptr hs =>
                rename_i b c
                obtain ⟨us, el, hh2, hr, hkk⟩ := slot_blk hH hb hs
                simp only [hbn] at hkk
                refine ⟨.slice (some ⟨b, off + l.toNat * ei.size, none⟩) (h'.toNat - l.toNat) (n - l.toNat), ?_, .sl hs (by omega) ?_ (fun k hk => by rw [hkk.2.2] at hk; cases hk)⟩
                · simp only [Instr.sliceAt, Sem.run_bind, ht.und w, Result.andThen_ok, Instr.sureAddr, Sem.run_pure]
                  rw [bounds_run hl hh hlv hhv h0 (by omega) h2 (Nat.le_refl _)]
                  simp only [Result.andThen_ok, he.sizeOf w, Addr.add_mid]
                  rw [if_neg (by omega)]
                · omega
            · cases h
        · cases h
      · rename_i cs
        split at h
        · split at h
          · rename_i hcnd
            cases h
            simp only [Bool.and_eq_true, Nat.ble_eq, Nat.blt_eq] at hcnd
            obtain ⟨⟨hn1, hn2⟩, hn3⟩ := hcnd
            obtain rfl : ((0 : Nat) : Int) = l := by simpa [bnd] using hl
            cases hx with
            | vp hl' hr h1 hc =>
              rename_i us a
              have h0 : 0 < us.length := by omega
              obtain ⟨b, off, e, _, _⟩ := hc 0 _ (List.getElem?_eq_getElem h0)
              cases e
              refine ⟨.slice (some ⟨b, off, none⟩) n n, ?_, ?_⟩
              · simp only [Instr.sliceAt, Sem.run_bind, ht.und w, Result.andThen_ok, Instr.sureAddr, Sem.run_pure]
                rw [bounds_run hl (h := (n : Int)) rfl hlv hhv (by omega) (by omega) (by omega) (Nat.le_refl _)]
                simp only [Result.andThen_ok, he.sizeOf w]
                split <;> simp [Addr.add]
              · have hrl : RelL I w Phi.emp (cs.take (n * ei.size)) (us.take (n * ei.size)) := RelL.take ⟨hl', hr, h1⟩ _
                refine .vs hrl.1 hrl.2.1 hrl.2.2 (fun j z hz => ?_) (fun e => by cases e) (Nat.le_refl _) hn1
                rw [List.getElem?_take] at hz
                split at hz
                · exact hc j z hz
                · cases hz
          · cases h
        · cases h
      · cases h
    · cases h
  · cases h
end
end Go.Ab
