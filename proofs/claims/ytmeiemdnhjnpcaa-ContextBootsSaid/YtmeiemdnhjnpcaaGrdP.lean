/- A cell of which one byte is turned is none, in plain Lean. -/
import Derived.Test.YtmeiemdnhjnpcaaCelY
namespace Go.Proofs.Ytmeiemdnhjnpcaa
open Go.Ab
set_option linter.unusedSimpArgs false
set_option linter.unusedVariables false
namespace Crc
theorem rnd_zero (z : Nat) (hz : z < 65536) (h : rnd z = 0) : z = 0 := by
  unfold rnd at h
  rcases (show z / 32768 = 0 ∨ z / 32768 = 1 by omega) with e | e <;> rw [e] at h
  · simp at h
    omega
  · have h1 : (z * 2 % 65536 ^^^ 1 * 4129 % 65536).testBit 0 = true := by
      rw [Nat.testBit_xor]
      simp [Nat.testBit_zero]
    rw [h] at h1
    simp at h1
theorem rnds_zero (k z : Nat) (hz : z < 65536) (h : rnds k z = 0) : z = 0 := by
  induction k with
  | zero => exact h
  | succ k ih => exact ih (rnd_zero _ (rnds_lt _ _ hz) h)
theorem xor_zero_iff (x y : Nat) : x ^^^ y = 0 ↔ x = y := by
  constructor
  · intro h
    have : x ^^^ y ^^^ y = 0 ^^^ y := by rw [h]
    rwa [Nat.xor_assoc, Nat.xor_self, Nat.xor_zero, Nat.zero_xor] at this
  · rintro rfl
    exact Nat.xor_self _
theorem rnds_inj (k x y : Nat) (hx : x < 65536) (hy : y < 65536) (h : rnds k x = rnds k y) : x = y := by
  have h1 : rnds k (x ^^^ y) = 0 := by rw [rnds_xor _ _ _ hx hy, h, Nat.xor_self]
  exact (xor_zero_iff x y).1 (rnds_zero k _ (Nat.xor_lt_two_pow (n := 16) (by omega) (by omega)) h1)
theorem xor_left_inj {a b c : Nat} (h : a ^^^ b = a ^^^ c) : b = c := by
  have := congrArg (fun x => a ^^^ x) h
  simpa [← Nat.xor_assoc] using this
theorem xor_right_inj {a b c : Nat} (h : b ^^^ a = c ^^^ a) : b = c := by
  rw [Nat.xor_comm b, Nat.xor_comm c] at h
  exact xor_left_inj h
end Crc
theorem istep_s {s t b : Int} (hs : 0 ≤ s ∧ s < 65536) (ht : 0 ≤ t ∧ t < 65536) (hb : 0 ≤ b ∧ b < 256) (h : istep s b = istep t b) : s = t := by
  unfold istep Crc.step at h
  have h1 := Crc.rnds_inj 8 _ _ (Crc.mix_lt s.toNat b.toNat (by omega) (by omega)) (Crc.mix_lt t.toNat b.toNat (by omega) (by omega)) (by omega)
  have := Crc.xor_right_inj h1
  omega
theorem istep_b {s b c : Int} (hs : 0 ≤ s ∧ s < 65536) (hb : 0 ≤ b ∧ b < 256) (hc : 0 ≤ c ∧ c < 256) (h : istep s b = istep s c) : b = c := by
  unfold istep Crc.step at h
  have h1 := Crc.rnds_inj 8 _ _ (Crc.mix_lt s.toNat b.toNat (by omega) (by omega)) (Crc.mix_lt s.toNat c.toNat (by omega) (by omega)) (by omega)
  have := Crc.xor_left_inj h1
  omega
theorem irun_s : ∀ {l : List Int} {s t : Int}, BL l → 0 ≤ s ∧ s < 65536 → 0 ≤ t ∧ t < 65536 → irun s l = irun t l → s = t
  | [], s, t, _, _, _, h => h
  | b :: l, s, t, hl, hs, ht, h => by
    have h1 := irun_s (l := l) (fun x hx => hl x (by simp [hx])) (istep_bd s b) (istep_bd t b) h
    exact istep_s hs ht (hl b (by simp)) h1
theorem isum_set {l : List Int} {i : Nat} {z : Int} (hl : BL l) (hi : i < l.length) (hz : 0 ≤ z ∧ z < 256) (hne : z ≠ l.getD i 0) : isum (l.set i z) ≠ isum l := by
  intro h
  have e1 : l.set i z = l.take i ++ z :: l.drop (i + 1) := by rw [List.set_eq_take_append_cons_drop, if_pos hi]
  have e2 : l = l.take i ++ l.getD i 0 :: l.drop (i + 1) := by
    have : l.getD i 0 = l[i] := by simp [List.getD_eq_getElem?_getD, hi]
    rw [this, List.getElem_cons_drop, List.take_append_drop]
  have h0 : isum (l.take i ++ z :: l.drop (i + 1)) = isum (l.take i ++ l.getD i 0 :: l.drop (i + 1)) := by rw [← e1, ← e2]; exact h
  unfold isum at h0
  rw [irun_app, irun_app] at h0
  have hs := irun_bd (s := 65535) (l.take i) (by omega)
  have h1 := irun_s (BL.drop hl (i + 1)) (istep_bd _ _) (istep_bd _ _) h0
  exact hne (istep_b hs hz (hl.at_ i) h1)
/-- One byte is another one: it is no cell. -/
theorem spoilt {C : List Int} {i : Nat} {z : Int} (hC : cE C = 0) (hb : BL C) (hi : i < C.length) (hz : 0 ≤ z ∧ z < 256) (hne : z ≠ C.getD i 0) : cE (C.set i z) ≠ 0 := by
  have hok := cE_ok.1 hC
  simp only [cOk, Bool.and_eq_true, decide_eq_true_eq] at hok
  obtain ⟨hF, hR, hg⟩ := hok
  have h8 := cF_len hF
  intro hc
  have hok2 := cE_ok.1 hc
  simp only [cOk, Bool.and_eq_true, decide_eq_true_eq] at hok2
  obtain ⟨_, hR2, _⟩ := hok2
  unfold iright at hR hR2
  simp only [Bool.and_eq_true, beq_iff_eq, List.length_set] at hR hR2
  have hR := hR.2
  have hR2 := hR2.2
  have gs : ∀ j, j ≠ i → (C.set i z).getD j 0 = C.getD j 0 := fun j hj => by
    rw [List.getD_eq_getElem?_getD, List.getElem?_set_ne (Ne.symm hj), ← List.getD_eq_getElem?_getD]
  have gi : (C.set i z).getD i 0 = z := by
    rw [List.getD_eq_getElem?_getD, List.getElem?_set_self hi]
    rfl
  by_cases h1 : i < C.length - 2
  · rw [gs _ (by omega), gs _ (by omega), ← hR, List.take_set] at hR2
    refine isum_set (l := C.take (C.length - 2)) (i := i) (z := z) (BL.take hb _) (by rw [List.length_take]; omega) hz ?_ hR2
    rw [take_getD h1]
    exact hne
  · rw [List.take_set_of_le (by omega), hR] at hR2
    have hx := hb.at_ (C.length - 2)
    have hy := hb.at_ (C.length - 1)
    by_cases h2 : i = C.length - 2
    · subst h2
      rw [gi, gs _ (by omega)] at hR2
      omega
    · have h3 : i = C.length - 1 := by omega
      subst h3
      rw [gi, gs _ (by omega)] at hR2
      omega
theorem xor_ne {x m : Int} (h : 0 ≤ x ∧ x < 256) (hm : 0 < m ∧ m < 256) : ixor .u8 x m ≠ x := by
  rw [ixor_u8_n h ⟨by omega, by omega⟩]
  intro e
  have e2 : x.toNat ^^^ m.toNat = x.toNat ^^^ 0 := by rw [Nat.xor_zero]; omega
  have := Crc.xor_left_inj e2
  omega
end Go.Proofs.Ytmeiemdnhjnpcaa
