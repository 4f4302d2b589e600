/- Sets of units: what sets have, in plain words. -/
import Derived.Test.YtmeiemdnhjnpcaaDoorBitA
namespace Go.Proofs.YtmeiemdnhjnpcaaDoor
open Go.Ab
set_option linter.unusedSimpArgs false
set_option linter.unusedVariables false
set_option maxHeartbeats 4000000
set_option maxRecDepth 100000

theorem low_form : ∀ (x : Nat), 0 < x → ∃ k m, x = 2 ^ (k + 1) * m + 2 ^ k := by
  intro x
  induction x using Nat.strongRecOn with
  | ind x ih =>
    intro hx
    rcases Nat.mod_two_eq_zero_or_one x with h | h
    · obtain ⟨k, m, e⟩ := ih (x / 2) (by omega) (by omega)
      refine ⟨k + 1, m, ?_⟩
      have : x = 2 * (x / 2) := by omega
      rw [this, e, Nat.mul_add, ← Nat.mul_assoc, Nat.pow_succ 2 (k + 1), Nat.pow_succ 2 k]
      simp [Nat.mul_comm]
    · refine ⟨0, x / 2, ?_⟩
      simp
      omega
theorem low_bit (x : Nat) (h0 : 0 < x) (h1 : x < 65536) : ∃ k, k < 16 ∧ x.testBit k = true ∧ (∀ j, j < k → x.testBit j = false) ∧ x &&& (65536 - x) = 2 ^ k := by
  obtain ⟨k, m, rfl⟩ := low_form x h0
  have hk2 : 2 ^ k < 2 ^ (k + 1) := Nat.pow_lt_pow_right (by omega) (by omega)
  have hpos : 0 < 2 ^ k := Nat.two_pow_pos k
  have bx : ∀ j, (2 ^ (k + 1) * m + 2 ^ k).testBit j = if j < k + 1 then decide (k = j) else m.testBit (j - (k + 1)) := fun j => by
    rw [Nat.testBit_two_pow_mul_add _ hk2, Nat.testBit_two_pow]
  have by' : ∀ j, (2 ^ (k + 1) * m + (2 ^ k - 1)).testBit j = if j < k + 1 then decide (j < k) else m.testBit (j - (k + 1)) := fun j => by
    rw [Nat.testBit_two_pow_mul_add _ (by omega), Nat.testBit_two_pow_sub_one]
  have hk : k < 16 := by
    apply Nat.lt_of_not_le
    intro hc
    have : 2 ^ 16 ≤ 2 ^ k := Nat.pow_le_pow_right (by omega) hc
    omega
  refine ⟨k, hk, by rw [bx]; simp, fun j hj => by rw [bx, if_pos (by omega)]; simp; omega, ?_⟩
  apply Nat.eq_of_testBit_eq
  intro j
  have e : 65536 - (2 ^ (k + 1) * m + 2 ^ k) = 2 ^ 16 - ((2 ^ (k + 1) * m + (2 ^ k - 1)) + 1) := by omega
  rw [Nat.testBit_and, e, Nat.testBit_two_pow_sub_succ (by omega), Nat.testBit_two_pow, bx, by']
  by_cases hj : j < k + 1
  · simp only [if_pos hj]
    by_cases hjk : k = j
    · subst hjk; simp [hk]
    · simp [hjk]
  · simp only [if_neg hj]
    have : ¬ k = j := by omega
    simp [this]
    intro h _; simp [h]
theorem tz_tab : ∀ k, k < 16 → ([0, 1, 28, 2, 29, 14, 24, 3, 30, 22, 20, 15, 25, 17, 4, 8, 31, 27, 13, 23, 21, 19, 16, 7, 26, 12, 18, 6, 11, 5, 10, 9] : List Nat).getD ((2 ^ k * 125613361 % 4294967296) / 134217728) 0 = k := by decide
def ups (s : Int) (n : Nat) : List Nat := (List.range' n (16 - n)).filter (bitB s)
theorem ups_end {s : Int} {n : Nat} (h : 16 ≤ n) : ups s n = [] := by
  unfold ups
  rw [show 16 - n = 0 by omega]
  rfl
theorem ups_in {s : Int} {n : Nat} (h : n < 16) (hb : bitB s n = true) : ups s n = n :: ups s (n + 1) := by
  unfold ups
  rw [show 16 - n = (16 - (n + 1)) + 1 by omega, List.range'_succ, List.filter_cons, if_pos hb]
theorem ups_out {s : Int} {n : Nat} (h : n < 16) (hb : bitB s n = false) : ups s n = ups s (n + 1) := by
  unfold ups
  rw [show 16 - n = (16 - (n + 1)) + 1 by omega, List.range'_succ, List.filter_cons, if_neg (by simp [hb])]
theorem ups_find {s : Int} : ∀ d n : Nat, n + d = 16 → (ups s n = [] ∧ ∀ j, n ≤ j → j < 16 → bitB s j = false) ∨ ∃ k, n ≤ k ∧ k < 16 ∧ bitB s k = true ∧ (∀ j, n ≤ j → j < k → bitB s j = false) ∧ ups s n = k :: ups s (k + 1)
  | 0, n, h => .inl ⟨ups_end (by omega), fun j h1 h2 => by omega⟩
  | d + 1, n, h => by
    cases hb : bitB s n with
    | true => exact .inr ⟨n, Nat.le_refl _, by omega, hb, fun j h1 h2 => by omega, ups_in (by omega) hb⟩
    | false =>
      rw [ups_out (by omega) hb]
      rcases ups_find d (n + 1) (by omega) with ⟨h1, h2⟩ | ⟨k, h1, h2, h3, h4, h5⟩
      · refine .inl ⟨h1, fun j hj hj2 => ?_⟩
        by_cases e : j = n
        · subst e; exact hb
        · exact h2 j (by omega) hj2
      · refine .inr ⟨k, by omega, h2, h3, fun j hj hj2 => ?_, h5⟩
        by_cases e : j = n
        · subst e; exact hb
        · exact h4 j (by omega) hj2
theorem ups_cons {s : Int} {n k : Nat} {r : List Nat} (h : ups s n = k :: r) : k < 16 ∧ r = ups s (k + 1) ∧ n ≤ k := by
  by_cases hn : n < 16
  · rcases ups_find (s := s) (16 - n) n (by omega) with ⟨h1, _⟩ | ⟨q, h1, h2, _, _, h5⟩
    · rw [h] at h1; cases h1
    · rw [h] at h5
      cases h5
      exact ⟨h2, rfl, h1⟩
  · rw [ups_end (by omega)] at h; cases h
theorem lst_ups (s : Int) : lst s 16 = (ups s 0).map fun (i : Nat) => i64 (i : Int) := by
  unfold lst ups
  rw [List.range_eq_range']
theorem bitB_nat {t : Int} (h : 0 ≤ t ∧ t < 65536) (j : Nat) : bitB t j = t.toNat.testBit j := by
  rw [bitB_at h, Nat.testBit_eq_decide_div_mod_eq]
  apply Bool.eq_iff_iff.2
  simp only [decide_eq_true_eq]
  have e : ((t.toNat / 2 ^ j % 2 : Nat) : Int) = t / 2 ^ j % 2 := by
    rw [Int.natCast_emod, Int.natCast_ediv, Int.toNat_of_nonneg h.1]
    simp
  omega
theorem iand16_bd (a b : Int) : 0 ≤ iand .u16 a b ∧ iand .u16 a b < 65536 := by
  rw [iand16]
  have := (BitVec.ofInt 16 a &&& BitVec.ofInt 16 b).isLt
  omega
theorem mask_bit : ∀ n, n < 16 → ∀ j, j < 16 → bitB (ishl .u16 65535 (n : Nat)) j = decide (n ≤ j) := by decide +kernel
theorem mask_zero (s : Int) (n : Nat) (hn : n < 16) (h : iand .u16 s (ishl .u16 65535 (n : Nat)) = 0) : ups s n = [] := by
  rcases ups_find (s := s) (16 - n) n (by omega) with ⟨h1, _⟩ | ⟨k, h1, h2, h3, _, _⟩
  · exact h1
  · have e := bitB_iand s (ishl .u16 65535 (n : Nat)) k
    rw [h, h3, mask_bit n hn k h2, decide_eq_true h1] at e
    exact absurd e (by simp [bitB])
theorem mask_low (s : Int) (n : Nat) (hn : n < 16) (h : iand .u16 s (ishl .u16 65535 (n : Nat)) ≠ 0) : ∃ k : Nat, k < 16 ∧ ups s n = k :: ups s (k + 1) ∧ n ≤ k ∧ (iand .u16 s (ishl .u16 65535 (n : Nat))).toNat &&& (65536 - (iand .u16 s (ishl .u16 65535 (n : Nat))).toNat) = 2 ^ k := by
  have hb := iand16_bd s (ishl .u16 65535 (n : Nat))
  obtain ⟨k, hk, h1, h2, h3⟩ := low_bit (iand .u16 s (ishl .u16 65535 (n : Nat))).toNat (by omega) (by omega)
  rcases ups_find (s := s) (16 - n) n (by omega) with ⟨h4, h5⟩ | ⟨q, h4, h5, h6, h7, h8⟩
  · have e := bitB_iand s (ishl .u16 65535 (n : Nat)) k
    rw [bitB_nat hb, h1, mask_bit n hn k hk] at e
    by_cases hnk : n ≤ k
    · rw [h5 k hnk hk] at e; simp at e
    · simp [hnk] at e
  · have e := bitB_iand s (ishl .u16 65535 (n : Nat)) q
    rw [bitB_nat hb, h6, mask_bit n hn q h5, decide_eq_true h4] at e
    have e2 := bitB_iand s (ishl .u16 65535 (n : Nat)) k
    rw [bitB_nat hb, h1, mask_bit n hn k hk] at e2
    have hnk : n ≤ k := by
      apply Nat.le_of_not_lt
      intro hc
      rw [decide_eq_false (by omega)] at e2
      simp at e2
    have hkq : k = q := by
      rcases Nat.lt_trichotomy k q with hlt | heq | hgt
      · rw [h7 k hnk hlt] at e2; simp at e2
      · exact heq
      · rw [h2 q hgt] at e; simp at e
    subst hkq
    exact ⟨k, h5, h8, h4, h3⟩
theorem bit_ext {x y : Int} (hx : 0 ≤ x ∧ x < 65536) (hy : 0 ≤ y ∧ y < 65536) (h : ∀ j, j < 16 → bitB x j = bitB y j) : x = y := by
  have e : x.toNat = y.toNat := by
    apply Nat.eq_of_testBit_eq
    intro j
    by_cases hj : j < 16
    · rw [← bitB_nat hx, ← bitB_nat hy]; exact h j hj
    · have h1 : x.toNat < 2 ^ j := Nat.lt_of_lt_of_le (show x.toNat < 2 ^ 16 by omega) (Nat.pow_le_pow_right (by omega) (by omega))
      have h2 : y.toNat < 2 ^ j := Nat.lt_of_lt_of_le (show y.toNat < 2 ^ 16 by omega) (Nat.pow_le_pow_right (by omega) (by omega))
      rw [Nat.testBit_lt_two_pow h1, Nat.testBit_lt_two_pow h2]
  omega
theorem bitB_zero (j : Nat) : bitB 0 j = false := by simp [bitB]
theorem ior16_bd (a b : Int) : 0 ≤ ior .u16 a b ∧ ior .u16 a b < 65536 := by
  rw [ior16]
  have := (BitVec.ofInt 16 a ||| BitVec.ofInt 16 b).isLt
  omega
theorem iandNot16_bd (a b : Int) : 0 ≤ iandNot .u16 a b ∧ iandNot .u16 a b < 65536 := by
  rw [iandNot16]
  have := (BitVec.ofInt 16 a &&& ~~~(BitVec.ofInt 16 b)).isLt
  omega
theorem one_bit_nat : ∀ i, i < 16 → ∀ j, j < 16 → bitB (ishl .u16 1 (i : Nat)) j = decide (i = j) := by decide +kernel
theorem one_bit (i : Int) (j : Nat) (hj : j < 16) : bitB (one i) j = decide (i = j) := by
  unfold one
  split
  · obtain ⟨k, rfl⟩ : ∃ k : Nat, i = k := ⟨i.toNat, by omega⟩
    rw [one_bit_nat k (by omega) j hj]
    apply Bool.eq_iff_iff.2
    simp only [decide_eq_true_eq]
    omega
  · rw [bitB_zero, eq_comm, decide_eq_false_iff_not]
    omega
theorem has_bit (s i : Int) (hi : 0 ≤ i ∧ i < 16) : has s i = bitB s i.toNat := by
  unfold has
  have hb := iand16_bd s (one i)
  cases h : bitB s i.toNat with
  | true =>
    have e := bitB_iand s (one i) i.toNat
    rw [h, one_bit i _ (by omega), decide_eq_true (by omega)] at e
    rw [bne_iff_ne]
    intro e0
    rw [e0, bitB_zero] at e
    simp at e
  | false =>
    have e : iand .u16 s (one i) = 0 := by
      apply bit_ext hb (by omega)
      intro j hj
      rw [bitB_iand, bitB_zero, one_bit i j hj]
      by_cases hij : i = j
      · have : i.toNat = j := by omega
        rw [← this, h]; rfl
      · simp [hij]
    rw [e]; rfl
theorem has_out (s i : Int) (hi : ¬ (0 ≤ i ∧ i < 16)) : has s i = false := by
  have e : iand .u16 s 0 = 0 := by
    apply bit_ext (iand16_bd s 0) (by omega)
    intro j hj
    rw [bitB_iand, bitB_zero, Bool.and_false]
  unfold has one
  rw [if_neg hi, e]
  rfl
theorem in_lst (s i : Int) : inV (lst s 16) i = (decide (0 ≤ i ∧ i < 16) && bitB s i.toNat) := by
  apply Bool.eq_iff_iff.2
  unfold inV lst
  simp only [List.any_eq_true, List.mem_map, List.mem_filter, List.mem_range, Bool.and_eq_true, decide_eq_true_eq, beq_iff_eq]
  constructor
  · rintro ⟨_, ⟨k, ⟨hk, hb⟩, rfl⟩, rfl⟩
    exact ⟨⟨by simp [iOf], by simp [iOf]; omega⟩, by simpa [iOf] using hb⟩
  · rintro ⟨⟨h0, h1⟩, hb⟩
    exact ⟨i64 i, ⟨i.toNat, ⟨by omega, hb⟩, by rw [Int.toNat_of_nonneg h0]⟩, rfl⟩
theorem has_lst (s i : Int) : has s i = inV (lst s 16) i := by
  rw [in_lst]
  by_cases h : 0 ≤ i ∧ i < 16
  · rw [has_bit s i h, decide_eq_true h, Bool.true_and]
  · rw [has_out s i h, decide_eq_false h, Bool.false_and]
theorem wth_bd {s : Int} (hs : 0 ≤ s ∧ s < 65536) (xs : List V) : 0 ≤ wth s xs ∧ wth s xs < 65536 := by
  unfold wth
  induction xs generalizing s with
  | nil => exact hs
  | cons x r ih => exact ih (ior16_bd _ _)
theorem wth_bit (s : Int) (xs : List V) (j : Nat) (hj : j < 16) : bitB (wth s xs) j = (bitB s j || inV xs j) := by
  unfold wth
  induction xs generalizing s with
  | nil => simp [inV]
  | cons x r ih =>
    rw [List.foldl_cons, ih, bitB_ior, one_bit _ _ hj]
    unfold inV
    rw [List.any_cons, Bool.or_assoc]
    congr 2
theorem has_wth (s i : Int) (Y : List V) : has (wth s Y) i = (inV (lst s 16) i || (decide (0 ≤ i ∧ i < 16) && inV Y i)) := by
  rw [in_lst]
  by_cases h : 0 ≤ i ∧ i < 16
  · rw [has_bit _ i h, decide_eq_true h, Bool.true_and, Bool.true_and, wth_bit _ _ _ (by omega), Int.toNat_of_nonneg h.1]
  · rw [has_out _ i h, decide_eq_false h]; rfl
theorem has_less (s t i : Int) : has (iandNot .u16 s t) i = (inV (lst s 16) i && !inV (lst t 16) i) := by
  rw [in_lst, in_lst]
  by_cases h : 0 ≤ i ∧ i < 16
  · rw [has_bit _ i h, decide_eq_true h, Bool.true_and, Bool.true_and, bitB_iandNot _ _ _ (by omega)]
  · rw [has_out _ i h, decide_eq_false h]; rfl
theorem has_zero (Y : List V) (i : Int) : has (wth 0 Y) i = (decide (0 ≤ i ∧ i < 16) && inV Y i) := by
  rw [has_wth, in_lst, bitB_zero, Bool.and_false, Bool.false_or]
theorem has_lessw (s i : Int) (Y : List V) : has (iandNot .u16 s (wth 0 Y)) i = (inV (lst s 16) i && !inV Y i) := by
  rw [has_less, ← has_lst (wth 0 Y), has_zero, in_lst]
  by_cases h : 0 ≤ i ∧ i < 16
  · simp [h]
  · simp [h]
theorem less_zero {s : Int} (hs : 0 ≤ s ∧ s < 65536) : iandNot .u16 s 0 = s := by
  apply bit_ext (iandNot16_bd s 0) hs
  intro j hj
  rw [bitB_iandNot _ _ _ hj, bitB_zero]
  simp
theorem has_or (a b c i : Int) : has (ior .u16 (ior .u16 a b) c) i = (inV (lst a 16) i || (inV (lst b 16) i || inV (lst c 16) i)) := by
  rw [in_lst, in_lst, in_lst]
  by_cases h : 0 ≤ i ∧ i < 16
  · rw [has_bit _ i h, bitB_ior, bitB_ior]; simp [h, Bool.or_assoc]
  · rw [has_out _ i h]; simp [h]
theorem has_and (a b i : Int) : has (iand .u16 a b) i = (inV (lst a 16) i && inV (lst b 16) i) := by
  rw [in_lst, in_lst]
  by_cases h : 0 ≤ i ∧ i < 16
  · rw [has_bit _ i h, bitB_iand]; simp [h]
  · rw [has_out _ i h]; simp [h]
theorem within_all (a b : Int) : (iandNot .u16 a b == 0) = (lst a 16).all fun x => inV (lst b 16) (iOf x) := by
  apply Bool.eq_iff_iff.2
  rw [beq_iff_eq, List.all_eq_true]
  constructor
  · intro h x hx
    unfold lst at hx
    simp only [List.mem_map, List.mem_filter, List.mem_range] at hx
    obtain ⟨k, ⟨hk, hb⟩, rfl⟩ := hx
    have e := bitB_iandNot a b k hk
    rw [h, bitB_zero, hb] at e
    rw [in_lst]
    simp [iOf]
    exact ⟨by omega, by simpa using e⟩
  · intro h
    apply bit_ext (iandNot16_bd a b) (by omega)
    intro j hj
    rw [bitB_iandNot _ _ _ hj, bitB_zero]
    cases ha : bitB a j with
    | false => rfl
    | true =>
      have := h (i64 j) (by unfold lst; simp only [List.mem_map, List.mem_filter, List.mem_range]; exact ⟨j, ⟨hj, ha⟩, rfl⟩)
      rw [in_lst] at this
      simp [iOf] at this
      simp [this]
theorem within_or (a b : Int) : iandNot .u16 a (ior .u16 a b) = 0 := by
  apply bit_ext (iandNot16_bd _ _) (by omega)
  intro j hj
  rw [bitB_iandNot _ _ _ hj, bitB_zero, bitB_ior]
  cases bitB a j <;> simp
theorem within_and (a b : Int) : iandNot .u16 (iand .u16 a b) a = 0 := by
  apply bit_ext (iandNot16_bd _ _) (by omega)
  intro j hj
  rw [bitB_iandNot _ _ _ hj, bitB_zero, bitB_iand]
  cases bitB a j <;> simp
theorem count_or {α : Type} (p q : α → Bool) (l : List α) : (l.filter fun x => p x || q x).length + (l.filter fun x => p x && q x).length = (l.filter p).length + (l.filter q).length := by
  induction l with
  | nil => rfl
  | cons x r ih =>
    simp only [List.filter_cons]
    cases p x <;> cases q x <;> simp <;> omega
def bI (b : Bool) : Int := if b then 1 else 0
theorem tab8_bits : ∀ n, n < 256 → sAt tab8 n = bI (decide (n / 1 % 2 = 1)) + bI (decide (n / 2 % 2 = 1)) + bI (decide (n / 4 % 2 = 1)) + bI (decide (n / 8 % 2 = 1)) + bI (decide (n / 16 % 2 = 1)) + bI (decide (n / 32 % 2 = 1)) + bI (decide (n / 64 % 2 = 1)) + bI (decide (n / 128 % 2 = 1)) := by decide +kernel
theorem bI_bd (b : Bool) : 0 ≤ bI b ∧ bI b ≤ 1 := by cases b <;> decide
theorem filt_cons {p : Nat → Bool} (x : Nat) (r : List Nat) : (((x :: r).filter p).length : Int) = bI (p x) + ((r.filter p).length : Int) := by
  rw [List.filter_cons]
  cases p x <;> simp [bI] <;> omega
theorem pop_len {s : Int} (hs : 0 ≤ s ∧ s < 65536) : pop s = ((lst s 16).length : Int) := by
  have h1 := tab8_bits (s / 256).toNat (by omega)
  have h2 := tab8_bits (s % 256).toNat (by omega)
  have e : ((lst s 16).length : Int) = bI (bitB s 0) + (bI (bitB s 1) + (bI (bitB s 2) + (bI (bitB s 3) + (bI (bitB s 4) + (bI (bitB s 5) + (bI (bitB s 6) + (bI (bitB s 7) + (bI (bitB s 8) + (bI (bitB s 9) + (bI (bitB s 10) + (bI (bitB s 11) + (bI (bitB s 12) + (bI (bitB s 13) + (bI (bitB s 14) + (bI (bitB s 15) + 0))))))))))))))) := by
    unfold lst
    rw [List.length_map, show List.range 16 = [0, 1, 2, 3, 4, 5, 6, 7, 8, 9, 10, 11, 12, 13, 14, 15] from rfl]
    simp only [filt_cons, List.filter_nil, List.length_nil]
    simp
  have hb : ∀ j, bitB s j = decide (s.toNat / 2 ^ j % 2 = 1) := fun j => by rw [bitB_nat hs, Nat.testBit_eq_decide_div_mod_eq]
  obtain ⟨x, rfl⟩ : ∃ x : Nat, s = x := ⟨s.toNat, by omega⟩
  have d1 : ((x : Int) / 256).toNat = x / 256 := by omega
  have d2 : ((x : Int) % 256).toNat = x % 256 := by omega
  unfold pop
  rw [h1, h2, e]
  simp only [hb, d1, d2, Int.toNat_natCast]
  have c1 : x / 256 / 1 % 2 = x / 2 ^ 8 % 2 := by omega
  have c2 : x / 256 / 2 % 2 = x / 2 ^ 9 % 2 := by omega
  have c3 : x / 256 / 4 % 2 = x / 2 ^ 10 % 2 := by omega
  have c4 : x / 256 / 8 % 2 = x / 2 ^ 11 % 2 := by omega
  have c5 : x / 256 / 16 % 2 = x / 2 ^ 12 % 2 := by omega
  have c6 : x / 256 / 32 % 2 = x / 2 ^ 13 % 2 := by omega
  have c7 : x / 256 / 64 % 2 = x / 2 ^ 14 % 2 := by omega
  have c8 : x / 256 / 128 % 2 = x / 2 ^ 15 % 2 := by omega
  have b1 : x % 256 / 1 % 2 = x / 2 ^ 0 % 2 := by omega
  have b2 : x % 256 / 2 % 2 = x / 2 ^ 1 % 2 := by omega
  have b3 : x % 256 / 4 % 2 = x / 2 ^ 2 % 2 := by omega
  have b4 : x % 256 / 8 % 2 = x / 2 ^ 3 % 2 := by omega
  have b5 : x % 256 / 16 % 2 = x / 2 ^ 4 % 2 := by omega
  have b6 : x % 256 / 32 % 2 = x / 2 ^ 5 % 2 := by omega
  have b7 : x % 256 / 64 % 2 = x / 2 ^ 6 % 2 := by omega
  have b8 : x % 256 / 128 % 2 = x / 2 ^ 7 % 2 := by omega
  rw [c1, c2, c3, c4, c5, c6, c7, c8, b1, b2, b3, b4, b5, b6, b7, b8]
  have q : ∀ j, 0 ≤ bI (decide (x / 2 ^ j % 2 = 1)) ∧ bI (decide (x / 2 ^ j % 2 = 1)) ≤ 1 := fun j => bI_bd _
  have r0 := q 0
  have r1 := q 1
  have r2 := q 2
  have r3 := q 3
  have r4 := q 4
  have r5 := q 5
  have r6 := q 6
  have r7 := q 7
  have r8 := q 8
  have r9 := q 9
  have r10 := q 10
  have r11 := q 11
  have r12 := q 12
  have r13 := q 13
  have r14 := q 14
  have r15 := q 15
  rw [Int.emod_eq_of_lt (by omega) (by omega)]
  omega
theorem pop_joins {a b : Int} (ha : 0 ≤ a ∧ a < 65536) (hb : 0 ≤ b ∧ b < 65536) : pop (ior .u16 a b) + pop (iand .u16 a b) = pop a + pop b := by
  rw [pop_len ha, pop_len hb, pop_len (ior16_bd a b), pop_len (iand16_bd a b)]
  unfold lst
  simp only [List.length_map]
  have e1 : bitB (ior .u16 a b) = fun x => bitB a x || bitB b x := by funext j; exact bitB_ior a b j
  have e2 : bitB (iand .u16 a b) = fun x => bitB a x && bitB b x := by funext j; exact bitB_iand a b j
  rw [e1, e2]
  have := count_or (bitB a) (bitB b) (List.range 16)
  omega
end Go.Proofs.YtmeiemdnhjnpcaaDoor
