/- Values that are put together; calls. -/
import Derived.Test.YtcekfepgdfcinaaGreatDoorAb5
set_option linter.unusedSimpArgs false
set_option linter.unusedVariables false
namespace Go.Ab
open Go.RowKit
section
variable {P : Program} {I : Nat → Prop} {w : World} {φ : Phi} {tc : List (Nat × TI)} {H : List (Nat × Blk)} {sym : Bool} {o : List Prop} {v x y : V} {u ux uy : Value}

/-! ### A slice of a slice -/
/-- A bound that is given, or left out. -/
def bnd : Option V → Nat → Option Int
  | none, n => some n
  | some (.val (.int _ i)), _ => some i
  | _, _ => none
def subV (cs : List V) (lo hi : Option V) (l h n : Nat) : List V :=
  match lo, hi with
  | none, none => cs
  | none, some _ => cs.take h
  | some _, _ => (cs.drop l).take n
def evSlice (tc : List (Nat × TI)) (H : List (Nat × Blk)) (sym em : Bool) (t : TypeId) (x : V) (lo hi : Option V) : Out :=
  match bnd lo 0 with
  | none => none
  | some l => match lk tc t with
    | some ⟨.string, _, _, _, _⟩ => match x with
      | .val (.string s) => match bnd hi s.size with
        | some h => (chk sym (decide (0 ≤ l) && decide (l ≤ h) && decide (h ≤ s.size)) (0 ≤ l ∧ l ≤ h ∧ h ≤ s.size)).map (·, .val (.string (s.extract l.toNat h.toNat)))
        | none => none
      | _ => none
    | some ⟨.slice e, _, _, _, _⟩ => match lk tc e with
      | some ei => match x with
        | .vs cs n => match bnd hi n with
          | some h => (chk sym (decide (0 ≤ l) && decide (l ≤ h) && decide (h ≤ n)) (0 ≤ l ∧ l ≤ h ∧ h ≤ n)).map
              (·, .vs (subV cs lo hi (l.toNat * ei.size) (h.toNat * ei.size) ((h.toNat - l.toNat) * ei.size)) (h.toNat - l.toNat))
          | none => none
        | .sl id off n => match bnd hi n with
          | some h => if ei.size == 0 then none else match lo with
            | none => (chk sym (decide (0 ≤ h) && decide (h ≤ n)) (0 ≤ h ∧ h ≤ n)).map (·, .sl id off h.toNat)
            | some _ => match em with
              | true => some ([0 ≤ l ∧ l = h ∧ h ≤ n], .vs [] 0)
              | false => match !sym && (decide (0 ≤ l) && decide (l = h) && decide (h ≤ n)) with
              | true => some ([], .vs [] 0)
              | false => (chk sym (decide (0 ≤ l) && decide (l < h) && decide (h ≤ n)) (0 ≤ l ∧ l < h ∧ h ≤ n)).map (·, .sl id (off + l.toNat * ei.size) (h.toNat - l.toNat))
          | none => none
        | .val (.slice none 0 0) => match bnd hi 0 with
          | some h => match decide (l = 0) && decide (h = 0) with
            | true => some ([], .val (.slice none 0 0))
            | false => none
          | none => none
        | _ => none
      | none => none
    | some ⟨.array n e, _, _, _, _⟩ => match lk tc e with
      | some ei => match x with
        | .ptr id off => match lkC H id with
          | some blk => match blk.bld with
            | some _ => none
            | none => if Nat.ble n 9223372036854775807 then match bnd hi n with
              | some h => (chk sym (decide (0 ≤ l) && decide (l < h) && decide (h ≤ n)) (0 ≤ l ∧ l < h ∧ h ≤ n)).map (·, .sl id (off + l.toNat * ei.size) (h.toNat - l.toNat))
              | none => none
              else none
          | none => none
        | .vp cs => match lo, hi with
          | none, none => if (Nat.ble n 9223372036854775807 && Nat.blt 0 (n * ei.size)) && Nat.ble (n * ei.size) cs.length then some ([], .vs (cs.take (n * ei.size)) n) else none
          | _, _ => match bnd hi n with
            | some h => if Nat.ble n 9223372036854775807 && ((decide (0 ≤ l) && (decide (l < h) && decide (h ≤ n))) && (Nat.ble (n * ei.size) cs.length && Nat.blt 0 ei.size)) then some ([], .vs ((cs.drop (l.toNat * ei.size)).take ((h.toNat - l.toNat) * ei.size)) (h.toNat - l.toNat)) else none
            | none => none
        | _ => none
      | none => none
    | _ => none
def bndV (b : Option V) (bv : Option Value) : Prop := match b, bv with
  | none, none => True
  | some (.val (.int k i)), some (.int k' i') => k = k' ∧ i = i'
  | _, _ => False
theorem bnd_run {b : Option V} {bv : Option Value} {n : Nat} {i : Int} (h : bnd b n = some i) (hv : bndV b bv) : (b = none ∧ bv = none ∧ i = n) ∨ ∃ k, b = some (.val (.int k i)) ∧ bv = some (.int k i) := by
  unfold bnd at h
  split at h
  · cases h
    cases bv with
    | none => exact .inl ⟨rfl, rfl, rfl⟩
    | some z => simp [bndV] at hv
  · cases h
    rename_i k i'
    cases bv with
    | none => simp [bndV] at hv
    | some z =>
      cases z <;> simp [bndV] at hv
      obtain ⟨rfl, rfl⟩ := hv
      exact .inr ⟨_, rfl, rfl⟩
  · cases h
theorem bounds_run {isS : Bool} {len cap : Nat} {lo hi : Option V} {lv hv : Option Value} {l h : Int} (hl : bnd lo 0 = some l) (hh : bnd hi len = some h) (hlv : bndV lo lv) (hhv : bndV hi hv)
    (h0 : 0 ≤ l) (h1 : l ≤ h) (h2 : h ≤ len) (h3 : len ≤ cap) : (Instr.sliceBounds isS len cap lv hv none).run P w = .ok (l.toNat, h.toNat, cap) w := by
  have e1 : (h.toNat : Int) = h := Int.toNat_of_nonneg (by omega)
  have hb : ∀ (k : IntKind) (c : BoundsCode), (Instr.sliceBound (.int k h) cap c).run P w = .ok h.toNat w := fun k c => run_sliceBound w k h cap c (by omega) (by omega)
  have lb : ∀ (k : IntKind) (c : BoundsCode) (m : Nat), (m : Int) = h → (Instr.sliceBound (.int k l) m c).run P w = .ok l.toNat w := fun k c m hm => run_sliceBound w k l m c h0 (by omega)
  rcases bnd_run hl hlv with ⟨rfl, rfl, rfl⟩ | ⟨k, rfl, rfl⟩ <;> rcases bnd_run hh hhv with ⟨rfl, rfl, rfl⟩ | ⟨k', rfl, rfl⟩
  · simp [Instr.sliceBounds]
  · simp only [Instr.sliceBounds, Sem.run_bind, Sem.run_pure, Result.andThen_ok, hb]
    simp
  · simp only [Instr.sliceBounds, Sem.run_bind, Sem.run_pure, Result.andThen_ok, lb _ _ len rfl]
    simp
  · simp only [Instr.sliceBounds, Sem.run_bind, Sem.run_pure, Result.andThen_ok, hb, lb _ _ _ e1]
theorem evSlice_ok (hT : TCok P tc) (hH : HR I w φ H) {t : TypeId} {lo hi : Option V} {lv hv : Option Value} {em : Bool} (h : evSlice tc H sym em t x lo hi = some (o, v)) (ho : AllP o) (hx : Rel I w φ x u) (hlv : bndV lo lv) (hhv : bndV hi hv) :
    ∃ r, (Instr.sliceAt t u lv hv none).run P w = .ok r w ∧ Rel I w φ v r := by
  unfold evSlice at h
  split at h
  · cases h
  rename_i l hl
  split at h
  · rename_i _ _ _ _ hti
    have ht := hT.get hti
    split at h
    · rename_i s
      obtain rfl := hx.val_inv
      split at h
      · rename_i h' hh
        simp only [Option.map_eq_some_iff, Prod.mk.injEq] at h
        obtain ⟨o', hk, rfl, rfl⟩ := h
        obtain ⟨h0, h1, h2⟩ := chk_ok hk (by simp; omega) ho
        refine ⟨_, ?_, .val rfl⟩
        rw [run_sliceAt_string w t _ _ _ _ ht.desc]
        simp only [Instr.slice, Sem.run_bind, ht.und w, Result.andThen_ok, Option.isSome_none, Bool.false_eq_true, if_false]
        rw [bounds_run hl hh hlv hhv h0 h1 h2 (Nat.le_refl _)]
        rfl
      · cases h
    · cases h
  · rename_i e _ _ _ _ hti
    have ht := hT.get hti
    split at h
    · rename_i ei hei
      have he := hT.get hei
      have hsl : ∀ (A : Option Addr) (n cap : Nat) (h' : Int), bnd hi n = some h' → 0 ≤ l → l ≤ h' → h' ≤ n → n ≤ cap →
          (Instr.sliceAt t (.slice A n cap) lv hv none).run P w = .ok (.slice (if cap = l.toNat then A else A.map (·.add (l.toNat * ei.size))) (h'.toNat - l.toNat) (cap - l.toNat)) w := fun A n cap h' hh h0 h1 h2 h3 => by
        have hd := ht.desc
        simp only [Instr.sliceAt, Sem.run_bind, ht.und w, Result.andThen_ok, Instr.slice]
        rw [bounds_run hl hh hlv hhv h0 h1 h2 h3]
        simp only [Result.andThen_ok, he.sizeOf w, Sem.run_pure]
      split at h
      · rename_i cs n
        split at h
        · rename_i h' hh
          simp only [Option.map_eq_some_iff, Prod.mk.injEq] at h
          obtain ⟨o', hk, rfl, rfl⟩ := h
          obtain ⟨h0, h1, h2⟩ := chk_ok hk (by simp; omega) ho
          cases hx with
          | vs hlen hr hone hc hA hlc hcm =>
            rename_i us cap A
            refine ⟨_, hsl A n cap h' hh h0 h1 h2 hlc, ?_⟩
            have hrl : RelL I w Phi.emp cs us := ⟨hlen, hr, hone⟩
            rcases bnd_run hl hlv with ⟨rfl, rfl, rfl⟩ | ⟨k, rfl, rfl⟩
            · have hA' : (if cap = (((0 : Nat) : Int)).toNat then A else A.map (·.add ((((0 : Nat) : Int)).toNat * ei.size))) = A := by
                split
                · rfl
                · cases A <;> simp [Addr.add]
              rw [hA']
              cases hi with
              | none =>
                obtain rfl : (n : Int) = h' := by simpa [bnd] using hh
                simpa [subV] using Rel.vs (φ := φ) hlen hr hone hc hA hlc hcm
              | some z =>
                have := hrl.take (h'.toNat * ei.size)
                refine .vs this.1 this.2.1 this.2.2 (fun j z hz => ?_) (fun e => by have := hA e; omega) (by omega) (by omega)
                rw [List.getElem?_take] at hz
                split at hz
                · exact hc _ _ hz
                · cases hz
            · have := (hrl.drop (l.toNat * ei.size)).take ((h'.toNat - l.toNat) * ei.size)
              by_cases hcl : cap = l.toNat
              · have h3 : h'.toNat - l.toNat = 0 := by omega
                rw [if_pos hcl, h3]
                rw [h3, Nat.zero_mul] at this
                simp only [subV, Nat.zero_mul]
                refine .vs this.1 this.2.1 this.2.2 (fun j z hz => by simp at hz) (fun e => by have := hA e; omega) (by omega) (by omega)
              · rw [if_neg hcl]
                refine .vs this.1 this.2.1 this.2.2 (fun j z hz => ?_) (fun e => ?_) (by omega) (by omega)
                · rw [List.getElem?_take] at hz
                  split at hz
                  · rw [List.getElem?_drop] at hz
                    obtain ⟨b, off, rfl, hi', hcell⟩ := hc _ _ hz
                    refine ⟨b, off + l.toNat * ei.size, by simp [Addr.add_mid], hi', ?_⟩
                    rwa [Nat.add_assoc]
                  · cases hz
                · have : A = none := by simpa using e
                  have := hA this
                  omega
        · cases h
      · rename_i id off n
        split at h
        · rename_i h' hh
          split at h
          · cases h
          rename_i hz
          have hz' : 0 < ei.size := by have : ei.size ≠ 0 := by simpa using hz
                                       omega
          cases lo with
          | none =>
            simp only [Option.map_eq_some_iff, Prod.mk.injEq] at h
            obtain ⟨o', hk, rfl, rfl⟩ := h
            obtain ⟨h1, h2⟩ := chk_ok hk (by simp) ho
            obtain rfl : ((0 : Nat) : Int) = l := by simpa [bnd] using hl
            cases hx with
            | sl hs q1 q2 q3 =>
              refine ⟨_, hsl _ n _ h' hh (by omega) (by omega) h2 q1, ?_⟩
              have hA' : ∀ (A : Option Addr) (cap : Nat), (if cap = (((0 : Nat) : Int)).toNat then A else A.map (·.add ((((0 : Nat) : Int)).toNat * ei.size))) = A := fun A cap => by
                split
                · rfl
                · cases A <;> simp [Addr.add]
              rw [hA']
              exact .sl hs (by omega) (by omega) (fun k hk h0 => by have := q3 k hk h0; omega)
            | slnil hs =>
              refine ⟨_, hsl _ 0 _ h' hh (by omega) (by omega) h2 (Nat.le_refl _), ?_⟩
              have : h'.toNat = 0 := by omega
              simp only [this]
              exact .slnil hs
          | some z =>
            simp only at h
            have hemp : 0 ≤ l → l = h' → h' ≤ n → ∃ r, (Instr.sliceAt t u lv hv none).run P w = .ok r w ∧ Rel I w φ (.vs [] 0) r := fun h0 h1 h2 => by
              have hz : ∀ (B : Option Addr) (m k : Nat), m = 0 → (B = none → k = 0) → k ≤ 9223372036854775807 → Rel I w φ (.vs [] 0) (.slice B m k) := fun B m k hm hB hk => by
                subst hm
                exact .vs (us := []) rfl (fun i h => by simp at h) (fun u h => by simp at h) (fun j u h => by simp at h) hB (Nat.zero_le _) hk
              cases hx with
              | sl hs q1 q2 q3 =>
                refine ⟨_, hsl _ n _ h' hh h0 (by omega) h2 q1, hz _ _ _ (by omega) (fun e => ?_) (by omega)⟩
                split at e
                · cases e
                · cases e
              | slnil hs =>
                exact ⟨_, hsl _ 0 _ h' hh h0 (by omega) h2 (Nat.le_refl _), hz _ _ _ (by omega) (fun _ => by omega) (by omega)⟩
            split at h
            · cases h
              exact hemp ho.1.1 ho.1.2.1 ho.1.2.2
            split at h
            · rename_i hc
              cases h
              simp only [Bool.and_eq_true, decide_eq_true_eq] at hc
              exact hemp hc.2.1.1 hc.2.1.2 hc.2.2
            rename_i hc
            clear hc
            simp only [Option.map_eq_some_iff, Prod.mk.injEq] at h
            obtain ⟨o', hk, rfl, rfl⟩ := h
            obtain ⟨h0, h1, h2⟩ := chk_ok hk (by simp; omega) ho
            cases hx with
            | sl hs q1 q2 q3 =>
              refine ⟨_, hsl _ n _ h' hh (by omega) (by omega) h2 q1, ?_⟩
              rw [if_neg (by omega)]
              simp only [Option.map_some, Addr.add_mid]
              refine .sl hs (by omega) (by omega) (fun k hk h3 => ?_)
              have : l.toNat * ei.size = 0 := by omega
              have hl0 : l.toNat = 0 := by
                rcases Nat.mul_eq_zero.1 this with h | h
                · exact h
                · omega
              have := q3 k hk (by omega)
              omega
            | slnil hs => omega
        · cases h
      · split at h
        · rename_i h' hh
          split at h
          · rename_i hc
            cases h
            simp only [Bool.and_eq_true, decide_eq_true_eq] at hc
            obtain ⟨hc1, hc2⟩ := hc
            obtain rfl := hx.val_inv
            refine ⟨_, hsl none 0 0 h' hh (by omega) (by omega) (by omega) (Nat.le_refl _), ?_⟩
            rw [hc1, hc2]
            exact .val rfl
          · cases h
        · cases h
      · cases h
    · cases h
  · rename_i n e _ _ _ _ hti
    have ht := hT.get hti
    split at h
    · rename_i ei hei
      have he := hT.get hei
      split at h
      · rename_i id off
        split at h
        · rename_i blk hb
          split at h
          · cases h
          · rename_i hbn
            split at h
            case isFalse => cases h
            rename_i hnb
            have hnb' : n ≤ 9223372036854775807 := Nat.le_of_ble_eq_true hnb
            split at h
            · rename_i h' hh
              simp only [Option.map_eq_some_iff, Prod.mk.injEq] at h
              obtain ⟨o', hk, rfl, rfl⟩ := h
              obtain ⟨h0, h1, h2⟩ := chk_ok hk (by simp; omega) ho
              cases hx with
              | ptr hs =>
                rename_i b c
                obtain ⟨us, el, hh2, hr, hkk⟩ := slot_blk hH hb hs
                simp only [hbn] at hkk
                refine ⟨.slice (some ⟨b, off + l.toNat * ei.size, none⟩) (h'.toNat - l.toNat) (n - l.toNat), ?_, .sl hs (by omega) ?_ (fun k hk => by rw [hkk.2.2] at hk; cases hk)⟩
                · simp only [Instr.sliceAt, Sem.run_bind, ht.und w, Result.andThen_ok, Instr.sureAddr, Sem.run_pure]
                  rw [bounds_run hl hh hlv hhv h0 (by omega) h2 (Nat.le_refl _)]
                  simp only [Result.andThen_ok, he.sizeOf w, Addr.add_mid]
                  rw [if_neg (by omega)]
                · omega
            · cases h
        · cases h
      · rename_i cs
        split at h
        · split at h
          · rename_i hcnd
            cases h
            simp only [Bool.and_eq_true, Nat.ble_eq, Nat.blt_eq] at hcnd
            obtain ⟨⟨hn1, hn2⟩, hn3⟩ := hcnd
            obtain rfl : ((0 : Nat) : Int) = l := by simpa [bnd] using hl
            cases hx with
            | vp hl' hr h1 hc =>
              rename_i us a
              have h0 : 0 < us.length := by omega
              obtain ⟨b, off, e, _, _⟩ := hc 0 _ (List.getElem?_eq_getElem h0)
              cases e
              refine ⟨.slice (some ⟨b, off, none⟩) n n, ?_, ?_⟩
              · simp only [Instr.sliceAt, Sem.run_bind, ht.und w, Result.andThen_ok, Instr.sureAddr, Sem.run_pure]
                rw [bounds_run hl (h := (n : Int)) rfl hlv hhv (by omega) (by omega) (by omega) (Nat.le_refl _)]
                simp only [Result.andThen_ok, he.sizeOf w]
                split <;> simp [Addr.add]
              · have hrl : RelL I w Phi.emp (cs.take (n * ei.size)) (us.take (n * ei.size)) := RelL.take ⟨hl', hr, h1⟩ _
                refine .vs hrl.1 hrl.2.1 hrl.2.2 (fun j z hz => ?_) (fun e => by cases e) (Nat.le_refl _) hn1
                rw [List.getElem?_take] at hz
                split at hz
                · exact hc j z hz
                · cases hz
          · cases h
        · split at h
          case h_2 => cases h
          rename_i h' hh
          split at h
          case isFalse => cases h
          rename_i hcnd
          cases h
          simp only [Bool.and_eq_true, decide_eq_true_eq, Nat.ble_eq, Nat.blt_eq] at hcnd
          obtain ⟨hn1, ⟨h0, h1, h2⟩, h3, h4⟩ := hcnd
          cases hx with
          | vp hl' hr h1' hc =>
            rename_i us a
            have hnp : 0 < n := by omega
            have hpos : 0 < n * ei.size := Nat.mul_pos hnp h4
            have hu0 : 0 < us.length := by omega
            obtain ⟨b, off, e, _, _⟩ := hc 0 _ (List.getElem?_eq_getElem hu0)
            cases e
            refine ⟨.slice (some ⟨b, off + l.toNat * ei.size, none⟩) (h'.toNat - l.toNat) (n - l.toNat), ?_, ?_⟩
            · simp only [Instr.sliceAt, Sem.run_bind, ht.und w, Result.andThen_ok, Instr.sureAddr, Sem.run_pure]
              rw [bounds_run hl hh hlv hhv h0 (by omega) h2 (Nat.le_refl _)]
              simp only [Result.andThen_ok, he.sizeOf w, Addr.add_mid]
              rw [if_neg (by omega)]
            · have hrl := RelL.take (RelL.drop (⟨hl', hr, h1'⟩ : RelL I w Phi.emp cs us) (l.toNat * ei.size)) ((h'.toNat - l.toNat) * ei.size)
              refine .vs hrl.1 hrl.2.1 hrl.2.2 (fun j z hz => ?_) (fun e => by cases e) (by omega) (by omega)
              rw [List.getElem?_take] at hz
              split at hz
              · rw [List.getElem?_drop] at hz
                obtain ⟨b2, off2, e2, hi', hcell⟩ := hc _ z hz
                cases e2
                exact ⟨b, off + l.toNat * ei.size, rfl, hi', by rwa [Nat.add_assoc]⟩
              · cases hz
      · cases h
    · cases h
  · cases h
/-! A slice taken for an array. -/
def evSAP (tc : List (Nat × TI)) (t : TypeId) (x : V) : Out :=
  match lk tc t with
  | some ⟨.array n _, _, _, _, _⟩ => match x with
    | .vs (c :: cs) m => if Nat.ble n m then some ([], .vp (c :: cs)) else none
    | .sl id off m => if Nat.blt 0 n && Nat.ble n m then some ([], .ptr id off) else none
    | _ => none
  | _ => none
theorem evSAP_ok (hT : TCok P tc) {t : TypeId} (h : evSAP tc t x = some (o, v)) (hx : Rel I w φ x u) : ∃ r, (Instr.arrayAt t u).run P w = .ok r w ∧ Rel I w φ v r := by
  unfold evSAP at h
  split at h
  case h_2 => cases h
  rename_i n e _ _ _ _ hti
  have ht := hT.get hti
  have hrun : ∀ (A : Option Addr) (m cap : Nat), n ≤ m → (Instr.arrayAt t (.slice A m cap)).run P w = .ok (.pointer A) w := fun A m cap hm => by
    simp only [Instr.arrayAt, Sem.run_bind, ht.und w, Result.andThen_ok]
    rw [if_neg (by omega)]
    rfl
  split at h
  · rename_i c cs m
    split at h
    case isFalse => cases h
    rename_i hc
    cases h
    have hc := Nat.le_of_ble_eq_true hc
    cases hx with
    | vs hl hr h1 hrd hA hlc hcm =>
      rename_i us cap A
      have hu0 : 0 < us.length := by rw [hl]; simp
      obtain ⟨b, off, e, _, _⟩ := hrd 0 _ (List.getElem?_eq_getElem hu0)
      subst e
      exact ⟨_, hrun _ _ _ hc, .vp hl hr h1 hrd⟩
  · rename_i id off m
    split at h
    case isFalse => cases h
    rename_i hc
    cases h
    simp only [Bool.and_eq_true, Nat.blt_eq, Nat.ble_eq] at hc
    cases hx with
    | sl hs q1 q2 q3 => exact ⟨_, hrun _ _ _ hc.2, .ptr hs⟩
    | slnil hs => omega
  · cases h
end
end Go.Ab

set_option linter.unusedSimpArgs false
set_option linter.unusedVariables false
namespace Go.Ab
open Go.RowKit

/-- From w to w' new blocks have come up, of which the own ones are 'new'; what was there stays. -/
structure Gr (φ : Phi) (w : World) (φ' : Phi) (w' : World) (new : List (Nat × Blk)) : Prop where
  os : w'.os = w.os
  tape : w'.tape = w.tape
  output : w'.output = w.output
  size : w.heap.size ≤ w'.heap.size
  block : ∀ b, b < w.heap.size → w'.heap[b]? = w.heap[b]?
  old : ∀ id, lk new id = none → φ' id = φ id
  fresh : ∀ id b c, lk new id ≠ none → φ' id = .at b c → w.heap.size ≤ b ∧ b < w'.heap.size
  inj : ∀ i j b c c', lk new i ≠ none → lk new j ≠ none → φ' i = .at b c → φ' j = .at b c' → i = j
section
variable {P : Program} {I : Nat → Prop} {w w' : World} {φ φ' : Phi} {X : Nat → Prop} {tc : List (Nat × TI)} {H new : List (Nat × Blk)} {sym : Bool} {o : List Prop} {v x y : V} {u ux uy : Value}

theorem Gr.refl (φ : Phi) (w : World) : Gr φ w φ w [] :=
  ⟨rfl, rfl, rfl, Nat.le_refl _, fun _ _ => rfl, fun _ _ => rfl, fun _ _ _ h => absurd rfl h, fun _ _ _ _ _ h => absurd rfl h⟩
theorem Gr.skip (hn : ∀ id, lk new id ≠ none → φ id = .none) : Gr φ w φ w new :=
  ⟨rfl, rfl, rfl, Nat.le_refl _, fun _ _ => rfl, fun _ _ => rfl, fun id b c h hs => (by rw [hn id h] at hs; cases hs), fun i j b c c' h _ hs _ => (by rw [hn i h] at hs; cases hs)⟩
theorem Gr.xt (h : Gr φ w φ' w' new) (hn : ∀ id, lk new id ≠ none → φ id = .none) : XT (Imm φ X w) w φ (Imm φ' X w') w' φ' := by
  refine ⟨fun id b c hs => ?_, fun id hs => ?_, fun b hb => ?_⟩
  · cases hl : lk new id with
    | none => rw [h.old id hl]; exact hs
    | some z => rw [hn id (by simp [hl])] at hs; cases hs
  · cases hl : lk new id with
    | none => rw [h.old id hl]; exact hs
    | some z => rw [hn id (by simp [hl])] at hs; cases hs
  · obtain ⟨h1, h2, h3⟩ := hb
    refine ⟨⟨Nat.lt_of_lt_of_le h1 h.size, fun id c hs => ?_, h3⟩, h.block b h1⟩
    cases hl : lk new id with
    | none => rw [h.old id hl] at hs; exact h2 id c hs
    | some z => have := (h.fresh id b c (by simp [hl]) hs).1; omega
/-- One new block, which is written out. -/
theorem Gr.one (φ : Phi) (w : World) (d : Nat) (blk : Blk) (c : Option Nat) (ob : Obj) : Gr φ w (φ.upd d (.at w.heap.size c)) (w.alloc ob) [(d, blk)] := by
  have hl : ∀ id, lk [(d, blk)] id ≠ none → id = d := fun id hid => by
    simp only [lk] at hid
    split at hid
    · simp_all
    · simp at hid
  have hsz : (w.alloc ob).heap.size = w.heap.size + 1 := by show (w.heap.push ob).size = _; simp
  refine ⟨rfl, rfl, rfl, by omega, fun b hb => Below.heap_alloc w ob b hb, fun id hid => ?_, fun id b c' hid hs => ?_, fun i j b c' c'' hi hj _ _ => by rw [hl i hi, hl j hj]⟩
  · have : id ≠ d := fun e => by subst e; simp [lk] at hid
    simp [Phi.upd, this]
  · have := hl id hid
    subst this
    simp only [Phi.upd, if_true, Slot.at.injEq] at hs
    obtain ⟨rfl, rfl⟩ := hs
    omega

/-! What is asked of an operation that writes nothing. -/
structure R where
  obl : List Prop
  v : V
  new : List (Nat × Blk)
def OpSnd (P : Program) (op : Oper) (a : Act) (w : World) (φ : Phi) (X : Nat → Prop) (r : R) : Prop :=
  ∀ (Q : Exit → Act → World → Prop) (K : Act → World → Prop),
    (∀ u w' φ', Gr φ w φ' w' r.new → Rel (Imm φ' X w') w' φ' r.v u → (∀ id blk, lk r.new id = some blk → BlkRel (Imm φ' X w') w' φ' (φ' id) blk) → K (a.put op.dst u) w') → op.wp P a w K Q
theorem OpSnd.pure_ {op : Oper} {a : Act} (h : ∃ r, (execOp a.eval op).run P w = .ok (.value r) w ∧ Rel (Imm φ X w) w φ v r) : OpSnd P op a w φ X ⟨o, v, []⟩ := by
  obtain ⟨r, h1, h2⟩ := h
  intro Q K hK
  unfold Oper.wp
  rw [h1]
  exact hK r w φ (Gr.refl φ w) h2 (fun id blk hl => by cases hl)

/-! New blocks. -/
def vals (zs : List Value) : List V := zs.map V.val
theorem vals_rel (zs : List Value) (h : zs.all scalar = true) (φ : Phi) : RelL I w φ (vals zs) zs := by
  refine ⟨by simp [vals], fun i hi => ?_, fun u hu => scalar_one (List.all_eq_true.1 h u hu)⟩
  have hi' : i < zs.length := by simpa [vals] using hi
  simp only [vals, List.getElem_map, List.getD_eq_getElem?_getD, List.getElem?_eq_getElem hi', Option.getD_some]
  exact .val (List.all_eq_true.1 h _ (List.getElem_mem hi'))

theorem upd_same (φ : Phi) (d : Nat) (s : Slot) : φ.upd d s d = s := by simp [Phi.upd]
theorem alloc_blk {us : Array Value} {el : TypeId} {cs : List V} {fl : Bool} (hr : RelL I w (bFlat φ fl) cs us.toList) {n : Nat} (hn : cs.length = n) {w1 : World} (hw : w1.heap[w.heap.size]? = some (.cells us el)) {I' : Nat → Prop} {φ' : Phi}
    (im : ∀ b, I b → I' b ∧ w1.heap[b]? = w.heap[b]?) (ha : ∀ id b c, φ id = .at b c → φ' id = .at b c) (hnil : ∀ id, φ id = .nil → φ' id = .nil) :
    BlkRel I' w1 φ' (.at w.heap.size none) ⟨cs, fl, n, none⟩ := by
  refine ⟨us, el, hw, ?_, ?_⟩
  · have hl := hr.1
    have : us.toList.take cs.length = us.toList := List.take_of_length_le (by omega)
    simp only [this]
    refine hr.mono im ?_ ?_
    · cases fl
      · exact ha
      · exact fun _ _ _ h => h
    · cases fl
      · exact hnil
      · exact fun _ h => h
  · have hl := hr.1
    exact ⟨by simpa using hl, hn, rfl⟩
theorem heap_new (w : World) (ob : Obj) : (w.alloc ob).heap[w.heap.size]? = some ob := heap_alloc_new w ob

def evAlloc (tc : List (Nat × TI)) (d : Nat) (e : TypeId) : Option R :=
  match lk tc e with
  | some ti => if ti.zero.all scalar && ti.zero.length == ti.size then some ⟨[], .ptr d 0, [(d, ⟨vals ti.zero, true, ti.size, none⟩)]⟩ else none
  | none => none
theorem new_snd {op : Oper} {a : Act} {d : Nat} {us : Array Value} {el : TypeId} {cs : List V} {fl : Bool} {n : Nat} (hd : φ d = .none)
    (hrun : (execOp a.eval op).run P w = .ok (.value (.pointer (some ⟨w.heap.size, 0, none⟩))) (w.alloc (.cells us el)))
    (hr : RelL (Imm φ X w) w (bFlat φ fl) cs us.toList) (hn : cs.length = n) : OpSnd P op a w φ X ⟨o, .ptr d 0, [(d, ⟨cs, fl, n, none⟩)]⟩ := by
  intro Q K hK
  unfold Oper.wp
  rw [hrun]
  have hg := Gr.one φ w d ⟨cs, fl, n, none⟩ none (.cells us el)
  have hx := hg.xt (X := X) (fun id hid => by
    simp only [lk] at hid
    split at hid
    · rename_i e; simp at e; subst e; exact hd
    · simp at hid)
  refine hK _ _ _ hg (.ptr (upd_same _ _ _)) (fun id blk hl => ?_)
  simp only [lk] at hl
  split at hl
  · rename_i e
    simp at e
    subst e
    cases hl
    rw [upd_same]
    exact alloc_blk hr hn (heap_new w _) hx.im hx.at_ hx.nil_
  · cases hl
theorem evAlloc_ok (hT : TCok P tc) {d : Nat} {e : TypeId} {r : R} (h : evAlloc tc d e = some r) (hd : φ d = .none) {op : Oper} {a : Act} (hop : op.op = .alloc e) : OpSnd P op a w φ X r := by
  unfold evAlloc at h
  split at h
  · rename_i ti hti
    split at h
    · rename_i hz
      cases h
      simp only [Bool.and_eq_true, beq_iff_eq] at hz
      have ht := hT.get hti
      obtain ⟨z, hz1, hz2, _⟩ := ht.zeroValue w
      refine new_snd (us := z.cells) (el := e) hd ?_ ?_ (by simp [vals, hz.2])
      · simp only [execOp, hop, Instr.alloc, Sem.run_bind, hz1, Result.andThen_ok, newVar, newRow, run_newObj, Sem.run_pure]
        rfl
      · rw [hz2]
        exact vals_rel _ hz.1 _
    · cases h
  · cases h

def evBox (tc : List (Nat × TI)) (sym : Bool) (d : Nat) (e : TypeId) (x : V) : Option R :=
  match lk tc e, x.cells with
  | some ti, some cs => (chk sym (Nat.beq cs.length ti.size) (cs.length = ti.size)).map fun o => ⟨o, .ptr d 0, [(d, ⟨cs, flat x, ti.size, none⟩)]⟩
  | _, _ => none
theorem evBox_ok {d : Nat} {e : TypeId} {r : R} (h : evBox tc sym d e x = some r) (ho : AllP r.obl) (hd : φ d = .none) {op : Oper} {a : Act} {y : Operand} (hop : op.op = .box e y) (hx : Rel (Imm φ X w) w φ x (a.eval y)) : OpSnd P op a w φ X r := by
  unfold evBox at h
  split at h
  · rename_i ti cs hti hcs
    simp only [Option.map_eq_some_iff] at h
    obtain ⟨o', hk, rfl⟩ := h
    have hn := chk_ok hk (by simp) ho
    refine new_snd (us := (a.eval y).cells) (el := e) hd ?_ (hx.cellsB hcs) hn
    simp only [execOp, hop, Instr.box, Sem.run_bind, newVar, newRow, run_newObj, Result.andThen_ok, Sem.run_pure]
    rfl
  · cases h
end
end Go.Ab

set_option linter.unusedSimpArgs false
set_option linter.unusedVariables false
namespace Go.Ab
open Go.RowKit
section
variable {P : Program} {I : Nat → Prop} {w w' : World} {φ φ' : Phi} {X : Nat → Prop} {tc : List (Nat × TI)} {H new : List (Nat × Blk)} {sym : Bool} {o : List Prop} {v x y : V} {u ux uy : Value}

def putAt (cs : List V) (off : Nat) (ds : List V) : List V := cs.take off ++ (ds ++ cs.drop (off + ds.length))
def putAtU (us : List Value) (off : Nat) (vs : List Value) : List Value := us.take off ++ (vs ++ us.drop (off + vs.length))
theorem RelL.putAt {cs ds : List V} {us vs : List Value} (h : RelL I w φ cs us) (k : RelL I w φ ds vs) (off : Nat) : RelL I w φ (putAt cs off ds) (putAtU us off vs) := by
  unfold Ab.putAt putAtU
  rw [k.1]
  exact (h.take off).append (k.append (h.drop _))

theorem fold_put (off : Nat) : ∀ (vs : List Value) (k : Nat) (us : Array Value), off + k + vs.length ≤ us.size →
    ((vs.zipIdx k).foldl (fun (cs : Array Value) (p : Value × Nat) => cs.setIfInBounds (off + p.2) p.1) us).toList = us.toList.take (off + k) ++ (vs ++ us.toList.drop (off + k + vs.length))
  | [], k, us, h => by simp
  | v :: vs, k, us, h => by
    simp only [List.zipIdx_cons, List.foldl_cons, List.length_cons] at h ⊢
    rw [fold_put off vs (k + 1) _ (by simp; omega)]
    have hlt : off + k < us.toList.length := by simp; omega
    simp only [Array.toList_setIfInBounds]
    apply List.ext_getElem?
    intro i
    simp only [List.getElem?_append, List.length_take, List.length_set, List.getElem?_take, List.getElem?_set, List.getElem?_drop, List.length_cons, List.getElem?_cons]
    by_cases h1 : i < off + k
    · have : i < min (off + (k + 1)) us.toList.length := by omega
      have h2 : i < min (off + k) us.toList.length := by omega
      simp only [this, h2, if_true, h1, show i < off + (k + 1) by omega, show ¬ (off + k = i) by omega, if_false]
    · by_cases h3 : i = off + k
      · subst h3
        have h4 : off + k < min (off + (k + 1)) us.toList.length := by omega
        have h5 : ¬ off + k < min (off + k) us.toList.length := by omega
        have e : off + k - min (off + k) us.toList.length = 0 := by omega
        simp only [h4, h5, if_true, if_false, show off + k < off + (k + 1) by omega, hlt, e]
        simp
      · have h4 : ¬ i < min (off + (k + 1)) us.toList.length := by omega
        have h5 : ¬ i < min (off + k) us.toList.length := by omega
        have e1 : i - min (off + (k + 1)) us.toList.length = i - (off + k + 1) := by omega
        have e2 : i - min (off + k) us.toList.length = i - (off + k + 1) + 1 := by omega
        simp only [h4, h5, if_false, e1, e2]
        have e3 : (i - (off + k + 1) + 1 = 0) = False := by simp
        simp only [e3, if_false, Nat.add_sub_cancel]
        have e4 : (i - (off + k + 1) + 1 < vs.length + 1) = (i - (off + k + 1) < vs.length) := by simp
        simp only [e4]
        split
        · rfl
        · have e5 : off + (k + 1) + vs.length + (i - (off + k + 1) - vs.length) = off + k + (vs.length + 1) + (i - (off + k + 1) + 1 - (vs.length + 1)) := by omega
          rw [e5]
          have : ¬ (off + k = off + k + (vs.length + 1) + (i - (off + k + 1) + 1 - (vs.length + 1))) := by omega
          simp only [this, if_false]

/-- The parts that a value is put together of. -/
inductive RelsP (I : Nat → Prop) (w : World) (φ : Phi) : List (Nat × V) → List (Nat × Value) → Prop
  | nil : RelsP I w φ [] []
  | cons {i x u xs us} : Rel I w φ x u → RelsP I w φ xs us → RelsP I w φ ((i, x) :: xs) ((i, u) :: us)
def evFill (place : Nat → Option (Nat × Nat)) (cells : List V) : List (Nat × V) → Option (List V)
  | [] => some cells
  | (i, x) :: r => match place i, x.cells with
    | some (off, sz), some ds => if Nat.beq ds.length sz && Nat.ble (off + sz) cells.length then evFill place (putAt cells off ds) r else none
    | _, _ => none
def allFlat : List (Nat × V) → Bool
  | [] => true
  | (_, x) :: r => flat x && allFlat r
theorem evFill_ok {place : Nat → Option (Nat × Nat)} : ∀ {parts : List (Nat × V)} {pu : List (Nat × Value)} {cells cs : List V} {us : Array Value} (fl : Bool), evFill place cells parts = some cs → RelsP I w φ parts pu → (fl = true → allFlat parts = true) →
    RelL I w (bFlat φ fl) cells us.toList → ∃ us', Instr.fill place us pu = some us' ∧ RelL I w (bFlat φ fl) cs us'.toList
  | [], _, cells, cs, us, fl, h, hr, _, hc => by
    cases hr
    cases h
    exact ⟨us, rfl, hc⟩
  | (i, x) :: r, _, cells, cs, us, fl, h, hr, hf, hc => by
    cases hr with
    | cons h1 h2 =>
      rename_i u us2
      unfold evFill at h
      split at h
      · rename_i off sz ds hp hds
        split at h
        · rename_i hb
          simp only [Bool.and_eq_true, Nat.ble_eq] at hb
          have hb1 : ds.length = sz := Nat.eq_of_beq_eq_true hb.1
          have hd := h1.cellsB hds
          have hd' : RelL I w (bFlat φ fl) ds u.cells.toList := by
            cases fl with
            | true =>
              have := hf rfl
              simp only [allFlat, Bool.and_eq_true] at this
              rw [this.1] at hd
              exact hd
            | false =>
              refine hd.mono (fun _ h => ⟨h, rfl⟩) (fun id b c hs => ?_) (fun id hs => ?_)
              · unfold bFlat at hs
                split at hs
                · cases hs
                · exact hs
              · unfold bFlat at hs
                split at hs
                · cases hs
                · exact hs
          have hul : u.cells.size = ds.length := by have := hd.1; simpa using this
          have hcl := hc.1
          simp only [Array.length_toList] at hcl
          have := evFill_ok (us := (u.cells.zipIdx.foldl (fun cs (c, j) => cs.setIfInBounds (off + j) c) us)) fl h h2 (fun e => by
              have := hf e
              simp only [allFlat, Bool.and_eq_true] at this
              exact this.2) (by
            have e : (u.cells.zipIdx.foldl (fun cs (c, j) => cs.setIfInBounds (off + j) c) us).toList = putAtU us.toList off u.cells.toList := by
              rw [← Array.foldl_toList, Array.toList_zipIdx]
              have := fold_put off u.cells.toList 0 us (by simp; omega)
              simpa [putAtU] using this
            rw [e]
            exact hc.putAt hd' off)
          obtain ⟨us', q1, q2⟩ := this
          refine ⟨us', ?_, q2⟩
          unfold Instr.fill
          simp only [hp]
          rw [if_neg]
          · exact q1
          · simp only [Bool.or_eq_true, decide_eq_true_eq, ne_eq]
            omega
        · cases h
      · cases h

def placesOf (tc : List (Nat × TI)) : List Field → Option (List (Nat × Nat))
  | [] => some []
  | f :: fs => match lk tc f.type, placesOf tc fs with
    | some ti, some r => some ((f.offset, ti.size) :: r)
    | _, _ => none
theorem placesOf_ok (hT : TCok P tc) : ∀ {fs : List Field} {ps : List (Nat × Nat)}, placesOf tc fs = some ps → (fs.mapM fun f => do pure (f.offset, ← sizeOf f.type) : Sem (List (Nat × Nat))).run P w = .ok ps w
  | [], ps, h => by cases h; rfl
  | f :: fs, ps, h => by
    unfold placesOf at h
    split at h
    · rename_i ti r hti hr
      cases h
      have := placesOf_ok hT hr
      simp only [List.mapM_cons, Sem.run_bind, (hT.get hti).sizeOf w, Result.andThen_ok, Sem.run_pure, this]
    · cases h
def evBuild (tc : List (Nat × TI)) (t : TypeId) (parts : List (Nat × V)) : Out :=
  match lk tc t with
  | some ti => if ti.zero.all scalar then match ti.desc with
    | .struct fields => match placesOf tc fields.toList with
      | some ps => (evFill (fun i => ps[i]?) (vals ti.zero) parts).map fun cs => ([], .agg (allFlat parts) cs)
      | none => none
    | .array _ e => match lk tc e with
      | some ei => (evFill (fun i => some (i * ei.size, ei.size)) (vals ti.zero) parts).map fun cs => ([], .agg (allFlat parts) cs)
      | none => none
    | _ => none
    else none
  | none => none
theorem RelL.agg {fl : Bool} {cs : List V} {us : Array Value} (h : RelL I w (bFlat φ fl) cs us.toList) : Rel I w φ (.agg fl cs) (.agg us) :=
  .agg (by simpa using h.1) h.2.1 h.2.2
theorem evBuild_ok (hT : TCok P tc) {t : TypeId} {parts : List (Nat × V)} {pu : List (Nat × Value)} (h : evBuild tc t parts = some (o, v)) (hp : RelsP I w φ parts pu) : ∃ r, (Instr.build t pu.toArray).run P w = .ok r w ∧ Rel I w φ v r := by
  unfold evBuild at h
  split at h
  · rename_i ti hti
    have ht := hT.get hti
    obtain ⟨z, hz1, hz2, _⟩ := ht.zeroValue w
    split at h
    · rename_i hsc
      have hz : RelL I w (bFlat φ (allFlat parts)) (vals ti.zero) z.cells.toList := by rw [hz2]; exact vals_rel _ hsc _
      split at h
      · rename_i fields hd
        split at h
        · rename_i ps hps
          simp only [Option.map_eq_some_iff, Prod.mk.injEq] at h
          obtain ⟨cs, hcs, rfl, rfl⟩ := h
          obtain ⟨us', q1, q2⟩ := evFill_ok _ hcs hp (fun e => e) hz
          refine ⟨.agg us', ?_, q2.agg⟩
          have hpl : (fields.mapM fun f => do pure (f.offset, ← sizeOf f.type) : Sem (Array (Nat × Nat))).run P w = .ok ps.toArray w := by
            have e : fields = fields.toList.toArray := by simp
            rw [e, List.mapM_toArray]
            simp only [Sem.run_map, placesOf_ok hT hps, Result.andThen_ok]
          have hdu := ht.und w
          rw [hd] at hdu
          simp only [Instr.build, Sem.run_bind, hz1, Result.andThen_ok, hdu, hpl]
          have e2 : (fun i : Nat => (ps.toArray)[i]?) = fun i : Nat => ps[i]? := by funext i; simp
          simp only [e2, q1, Sem.run_pure]
        · cases h
      · rename_i n e hd
        split at h
        · rename_i ei hei
          have he := hT.get hei
          simp only [Option.map_eq_some_iff, Prod.mk.injEq] at h
          obtain ⟨cs, hcs, rfl, rfl⟩ := h
          obtain ⟨us', q1, q2⟩ := evFill_ok _ hcs hp (fun e => e) hz
          refine ⟨.agg us', ?_, q2.agg⟩
          have hdu := ht.und w
          rw [hd] at hdu
          simp only [Instr.build, Sem.run_bind, hz1, Result.andThen_ok, hdu, he.sizeOf w, q1, Sem.run_pure]
        · cases h
      · cases h
    · cases h
  · cases h
end

/-! ### Calls -/
/-- The function is there, and has a body. -/
def FnOk (P : Program) (f : FuncId) : Prop := ∃ fn, P.funcs[f]? = some fn ∧ (fn.name == "runtime.NumGoroutine") = false ∧ fn.body.isNone = false

/-- What a function does: handed values that stand so, and own blocks Hin, it returns r, and leaves Hout; all else is as it was. -/
def Con (P : Program) (f : FuncId) (Hin : List (Nat × Blk)) (args : List V) (Hout : List (Nat × Blk)) (r : V) : Prop :=
  FnOk P f ∧ ∀ (X : Nat → Prop) (φ : Phi) (w : World) (us : List Value), Phi.ok φ X w Hin → (∀ b, X b → b < w.heap.size) → HR (Imm φ X w) w φ Hin → Rels (Imm φ X w) w φ args us → GOk (Imm φ X w) w →
    Calls P f us.toArray w fun e w' => ∃ u φ', e = .returned u ∧ Frm φ w w' ∧ Phi.ok φ' X w' Hout ∧ (∀ id b c, φ' id = .at b c → (∃ id0 c0, φ id0 = .at b c0) ∨ w.heap.size ≤ b) ∧
      HR (Imm φ' X w') w' φ' Hout ∧ Rel (Imm φ' X w') w' φ' r u ∧ (∀ id, BIG ≤ id → stayS id (φ id) → φ' id = φ id ∨ lk Hout id = none)

mutual
/-- Other numbers for the own blocks. -/
def ren (k : Nat) : V → V
  | .ptr id off => .ptr (id + k) off
  | .sl id off n => .sl (id + k) off n
  | .agg false cs => .agg false (renL k cs)
  | .tup cs => .tup (renL k cs)
  | .clo fn a b => .clo fn (renL k a) (renL k b)
  | .mp id => .mp (id + k)
  | x => x
  termination_by structural x => x
def renL (k : Nat) : List V → List V
  | [] => []
  | x :: r => ren k x :: renL k r
  termination_by structural x => x
end
theorem renL_eq (k : Nat) (l : List V) : renL k l = l.map (ren k) := by
  induction l with
  | nil => simp [renL]
  | cons x r ih => simp [renL, ih]
def renB (k : Nat) (b : Blk) : Blk := if b.flat then b else { b with cells := renL k b.cells }
def renH (k : Nat) : List (Nat × Blk) → List (Nat × Blk)
  | [] => []
  | (id, b) :: r => (id + k, renB k b) :: renH k r
section
variable {P : Program} {I : Nat → Prop} {w w' : World} {φ φ' : Phi} {X : Nat → Prop} {tc : List (Nat × TI)} {H new : List (Nat × Blk)} {sym : Bool} {o : List Prop} {v x y : V} {u ux uy : Value}
theorem Rel.ren {k : Nat} (h : Rel I w φ x u) : ∀ φ2 : Phi, (∀ id, φ id ≠ .none → φ2 (id + k) = φ id) → Rel I w φ2 (Ab.ren k x) u := by
  induction h with
  | val h => exact fun _ _ => by simpa [Ab.ren] using Rel.val h
  | ptr h =>
      intro φ2 hk
      simp only [Ab.ren]
      exact .ptr (by rw [hk _ (by rw [h]; simp)]; exact h)
  | sl h a b c =>
      intro φ2 hk
      simp only [Ab.ren]
      exact .sl (by rw [hk _ (by rw [h]; simp)]; exact h) a b c
  | slnil h =>
      intro φ2 hk
      simp only [Ab.ren]
      exact .slnil (by rw [hk _ (by rw [h]; simp)]; exact h)
  | vs a b c d e f g => exact fun _ _ => by simpa [Ab.ren] using Rel.vs a b c d e f g
  | vp a b c d => exact fun _ _ => by simpa [Ab.ren] using Rel.vp a b c d
  | @agg φ fl cs us hl hr h1 ih =>
    intro φ2 hk
    cases fl with
    | true => simpa [Ab.ren] using Rel.agg (φ := φ2) (fl := true) hl (by simpa using hr) h1
    | false =>
      simp only [Ab.ren, renL_eq]
      refine .agg (by simpa using hl) (fun i hi => ?_) h1
      have hi' : i < cs.length := by simpa using hi
      simpa using ih i hi' φ2 (by simpa using hk)
  | @tup φ cs us hl hr ih =>
    intro φ2 hk
    simp only [Ab.ren, renL_eq]
    refine .tup (by simpa using hl) (fun i hi => ?_)
    have hi' : i < cs.length := by simpa using hi
    simpa using ih i hi' φ2 hk
  | @clo φ fn fs cap us vs hl hr hl2 hr2 ih ih2 =>
    intro φ2 hk
    simp only [Ab.ren, renL_eq]
    refine .clo (by simpa using hl) (fun i hi => ?_) (by simpa using hl2) (fun i hi => ?_)
    · have hi' : i < fs.length := by simpa using hi
      simpa using ih i hi' φ2 hk
    · have hi' : i < cap.length := by simpa using hi
      simpa using ih2 i hi' φ2 hk
  | mp h =>
      intro φ2 hk
      simp only [Ab.ren]
      exact .mp (by rw [hk _ (by rw [h]; simp)]; exact h)
  | bo => exact fun _ _ => by simpa [Ab.ren] using Rel.bo
  | top => exact fun _ _ => by simpa [Ab.ren] using Rel.top
theorem RelL.ren {k : Nat} {cs : List V} {us : List Value} (h : RelL I w φ cs us) (φ2 : Phi) (hk : ∀ id, φ id ≠ .none → φ2 (id + k) = φ id) : RelL I w φ2 (renL k cs) us := by
  rw [renL_eq]
  refine ⟨by simpa using h.1, fun i hi => ?_, h.2.2⟩
  have hi' : i < cs.length := by simpa using hi
  simpa using (h.2.1 i hi').ren φ2 hk
theorem BlkRel.ren {k : Nat} {s : Slot} {blk : Blk} (h : BlkRel I w φ s blk) (φ2 : Phi) (hk : ∀ id, φ id ≠ .none → φ2 (id + k) = φ id) : BlkRel I w φ2 s (renB k blk) := by
  unfold renB
  cases hf : blk.flat with
  | true =>
    simp only [if_true]
    exact h.to (fun _ _ _ => rfl) (fun x _ u hx => by rw [hf] at hx ⊢; exact hx)
  | false =>
    simp only [Bool.false_eq_true, if_false]
    have := h.imp (I' := I) (w' := w) (φ' := φ2) (Ab.ren k) false (fun _ _ _ => rfl) (fun x _ u hx => by rw [hf] at hx; exact Rel.ren hx φ2 hk)
    rw [renL_eq]
    exact this
theorem lk_renH {k : Nat} : ∀ {H : List (Nat × Blk)} {j : Nat} {blk : Blk}, lk (renH k H) j = some blk → ∃ id b0, j = id + k ∧ lk H id = some b0 ∧ blk = renB k b0
  | [], _, _, h => by cases h
  | (id, b) :: r, j, blk, h => by
    simp only [renH, lk] at h
    split at h
    · rename_i e
      simp at e
      cases h
      exact ⟨id, b, e, by simp [lk], rfl⟩
    · rename_i e
      obtain ⟨id', b0, h1, h2, h3⟩ := lk_renH h
      refine ⟨id', b0, h1, ?_, h3⟩
      simp only [lk]
      rw [if_neg]
      · exact h2
      · intro e'
        simp at e'
        subst e'
        subst h1
        simp at e
theorem lk_renH_of {k : Nat} : ∀ {H : List (Nat × Blk)} {id : Nat} {b0 : Blk}, lk H id = some b0 → lk (renH k H) (id + k) = some (renB k b0)
  | [], _, _, h => by cases h
  | (i, b) :: r, id, b0, h => by
    simp only [lk] at h
    simp only [renH, lk]
    split at h
    · rename_i e
      simp at e
      subst e
      cases h
      simp
    · rename_i e
      rw [if_neg]
      · exact lk_renH_of h
      · intro e'
        simp at e'
        subst e'
        simp at e
end
end Go.Ab
