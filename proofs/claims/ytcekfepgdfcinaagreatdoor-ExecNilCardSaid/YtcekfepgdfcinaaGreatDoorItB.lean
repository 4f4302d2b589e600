/- Sets of units: what a range over a set hands over. -/
import Derived.Test.YtcekfepgdfcinaaGreatDoorRg
import Derived.Test.YtcekfepgdfcinaaGreatDoorTc
import Derived.Test.YtcekfepgdfcinaaGreatDoorAb26
import Derived.Test.YtcekfepgdfcinaaGreatDoorAb33
import Derived.RangeFuncBox
import Derived.RangeFuncLeaves
import Derived.RangeFuncNested
import Derived.Shelf.Abstract
import Derived.OwnWalkIn
import Derived.TacticsInMore
import Derived.LoopNIn
import Derived.LoopIn
import Derived.Maps.AppendAt
namespace Go.Proofs.YtcekfepgdfcinaaGreatDoor
open Go.Ab
set_option linter.unusedSimpArgs false
set_option linter.unusedVariables false
set_option maxHeartbeats 4000000
set_option maxRecDepth 100000
theorem bv16_nat (x : BitVec 16) : BitVec.ofInt 16 (x.toNat : Int) = x := by
  apply BitVec.eq_of_toNat_eq
  rw [BitVec.toNat_ofInt]
  have := x.isLt
  rw [← Int.natCast_emod, Int.toNat_natCast, Nat.mod_eq_of_lt this]
theorem wrap16 (x : BitVec 16) : IntKind.wrap .u16 (x.toNat : Int) = (x.toNat : Int) := by
  have hb := x.isLt
  show (x.toNat : Int) % 65536 = _
  omega
theorem iand16 (a b : Int) : iand .u16 a b = ((BitVec.ofInt 16 a &&& BitVec.ofInt 16 b).toNat : Int) := wrap16 _
theorem ior16 (a b : Int) : ior .u16 a b = ((BitVec.ofInt 16 a ||| BitVec.ofInt 16 b).toNat : Int) := wrap16 _
/-- A unit is in a set. -/
def bitB (s : Int) (i : Nat) : Bool := (BitVec.ofInt 16 s).getLsbD i
theorem u16_bv (x : Int) (h : 0 ≤ x ∧ x < 65536) : ((BitVec.ofInt 16 x).toNat : Int) = x := by
  rw [BitVec.toNat_ofInt]
  have : x % ((2 ^ 16 : Nat) : Int) = x := Int.emod_eq_of_lt h.1 (by simpa using h.2)
  rw [this]
  exact Int.toNat_of_nonneg h.1
theorem bitB_at {x : Int} (h : 0 ≤ x ∧ x < 65536) (i : Nat) : bitB x i = decide (x / 2 ^ i % 2 = 1) := by
  have e := u16_bv x h
  unfold bitB
  rw [← BitVec.testBit_toNat, Nat.testBit_eq_decide_div_mod_eq]
  apply Bool.eq_iff_iff.2
  simp only [decide_eq_true_eq]
  generalize (BitVec.ofInt 16 x).toNat = m at e
  subst e
  have : ((m / 2 ^ i % 2 : Nat) : Int) = (m : Int) / 2 ^ i % 2 := by simp
  omega
theorem bitB_iand (a b : Int) (i : Nat) : bitB (iand .u16 a b) i = (bitB a i && bitB b i) := by
  unfold bitB
  rw [iand16, bv16_nat, BitVec.getLsbD_and]
def one (i : Int) : Int := if 0 ≤ i ∧ i < 16 then ishl .u16 1 i else 0
def has (s i : Int) : Bool := iand .u16 s (one i) != 0
end Go.Proofs.YtcekfepgdfcinaaGreatDoor

namespace Go.Proofs.YtcekfepgdfcinaaGreatDoor
open Go.Ab
set_option linter.unusedSimpArgs false
set_option linter.unusedVariables false
set_option maxHeartbeats 4000000
set_option maxRecDepth 100000

theorem low_form : ∀ (x : Nat), 0 < x → ∃ k m, x = 2 ^ (k + 1) * m + 2 ^ k := by
  intro x
  induction x using Nat.strongRecOn with
  | ind x ih =>
    intro hx
    rcases Nat.mod_two_eq_zero_or_one x with h | h
    · obtain ⟨k, m, e⟩ := ih (x / 2) (by omega) (by omega)
      refine ⟨k + 1, m, ?_⟩
      have : x = 2 * (x / 2) := by omega
      rw [this, e, Nat.mul_add, ← Nat.mul_assoc, Nat.pow_succ 2 (k + 1), Nat.pow_succ 2 k]
      simp [Nat.mul_comm]
    · refine ⟨0, x / 2, ?_⟩
      simp
      omega
theorem low_bit (x : Nat) (h0 : 0 < x) (h1 : x < 65536) : ∃ k, k < 16 ∧ x.testBit k = true ∧ (∀ j, j < k → x.testBit j = false) ∧ x &&& (65536 - x) = 2 ^ k := by
  obtain ⟨k, m, rfl⟩ := low_form x h0
  have hk2 : 2 ^ k < 2 ^ (k + 1) := Nat.pow_lt_pow_right (by omega) (by omega)
  have hpos : 0 < 2 ^ k := Nat.two_pow_pos k
  have bx : ∀ j, (2 ^ (k + 1) * m + 2 ^ k).testBit j = if j < k + 1 then decide (k = j) else m.testBit (j - (k + 1)) := fun j => by
    rw [Nat.testBit_two_pow_mul_add _ hk2, Nat.testBit_two_pow]
  have by' : ∀ j, (2 ^ (k + 1) * m + (2 ^ k - 1)).testBit j = if j < k + 1 then decide (j < k) else m.testBit (j - (k + 1)) := fun j => by
    rw [Nat.testBit_two_pow_mul_add _ (by omega), Nat.testBit_two_pow_sub_one]
  have hk : k < 16 := by
    apply Nat.lt_of_not_le
    intro hc
    have : 2 ^ 16 ≤ 2 ^ k := Nat.pow_le_pow_right (by omega) hc
    omega
  refine ⟨k, hk, by rw [bx]; simp, fun j hj => by rw [bx, if_pos (by omega)]; simp; omega, ?_⟩
  apply Nat.eq_of_testBit_eq
  intro j
  have e : 65536 - (2 ^ (k + 1) * m + 2 ^ k) = 2 ^ 16 - ((2 ^ (k + 1) * m + (2 ^ k - 1)) + 1) := by omega
  rw [Nat.testBit_and, e, Nat.testBit_two_pow_sub_succ (by omega), Nat.testBit_two_pow, bx, by']
  by_cases hj : j < k + 1
  · simp only [if_pos hj]
    by_cases hjk : k = j
    · subst hjk; simp [hk]
    · simp [hjk]
  · simp only [if_neg hj]
    have : ¬ k = j := by omega
    simp [this]
    intro h _; simp [h]
def ups (s : Int) (n : Nat) : List Nat := (List.range' n (16 - n)).filter (bitB s)
theorem ups_end {s : Int} {n : Nat} (h : 16 ≤ n) : ups s n = [] := by
  unfold ups
  rw [show 16 - n = 0 by omega]
  rfl
theorem ups_in {s : Int} {n : Nat} (h : n < 16) (hb : bitB s n = true) : ups s n = n :: ups s (n + 1) := by
  unfold ups
  rw [show 16 - n = (16 - (n + 1)) + 1 by omega, List.range'_succ, List.filter_cons, if_pos hb]
theorem ups_out {s : Int} {n : Nat} (h : n < 16) (hb : bitB s n = false) : ups s n = ups s (n + 1) := by
  unfold ups
  rw [show 16 - n = (16 - (n + 1)) + 1 by omega, List.range'_succ, List.filter_cons, if_neg (by simp [hb])]
theorem ups_find {s : Int} : ∀ d n : Nat, n + d = 16 → (ups s n = [] ∧ ∀ j, n ≤ j → j < 16 → bitB s j = false) ∨ ∃ k, n ≤ k ∧ k < 16 ∧ bitB s k = true ∧ (∀ j, n ≤ j → j < k → bitB s j = false) ∧ ups s n = k :: ups s (k + 1)
  | 0, n, h => .inl ⟨ups_end (by omega), fun j h1 h2 => by omega⟩
  | d + 1, n, h => by
    cases hb : bitB s n with
    | true => exact .inr ⟨n, Nat.le_refl _, by omega, hb, fun j h1 h2 => by omega, ups_in (by omega) hb⟩
    | false =>
      rw [ups_out (by omega) hb]
      rcases ups_find d (n + 1) (by omega) with ⟨h1, h2⟩ | ⟨k, h1, h2, h3, h4, h5⟩
      · refine .inl ⟨h1, fun j hj hj2 => ?_⟩
        by_cases e : j = n
        · subst e; exact hb
        · exact h2 j (by omega) hj2
      · refine .inr ⟨k, by omega, h2, h3, fun j hj hj2 => ?_, h5⟩
        by_cases e : j = n
        · subst e; exact hb
        · exact h4 j (by omega) hj2
theorem ups_cons {s : Int} {n k : Nat} {r : List Nat} (h : ups s n = k :: r) : k < 16 ∧ r = ups s (k + 1) ∧ n ≤ k := by
  by_cases hn : n < 16
  · rcases ups_find (s := s) (16 - n) n (by omega) with ⟨h1, _⟩ | ⟨q, h1, h2, _, _, h5⟩
    · rw [h] at h1; cases h1
    · rw [h] at h5
      cases h5
      exact ⟨h2, rfl, h1⟩
  · rw [ups_end (by omega)] at h; cases h
theorem bitB_nat {t : Int} (h : 0 ≤ t ∧ t < 65536) (j : Nat) : bitB t j = t.toNat.testBit j := by
  rw [bitB_at h, Nat.testBit_eq_decide_div_mod_eq]
  apply Bool.eq_iff_iff.2
  simp only [decide_eq_true_eq]
  have e : ((t.toNat / 2 ^ j % 2 : Nat) : Int) = t / 2 ^ j % 2 := by
    rw [Int.natCast_emod, Int.natCast_ediv, Int.toNat_of_nonneg h.1]
    simp
  omega
theorem iand16_bd (a b : Int) : 0 ≤ iand .u16 a b ∧ iand .u16 a b < 65536 := by
  rw [iand16]
  have := (BitVec.ofInt 16 a &&& BitVec.ofInt 16 b).isLt
  omega
theorem mask_bit : ∀ n, n < 16 → ∀ j, j < 16 → bitB (ishl .u16 65535 (n : Nat)) j = decide (n ≤ j) := by decide +kernel
theorem mask_zero (s : Int) (n : Nat) (hn : n < 16) (h : iand .u16 s (ishl .u16 65535 (n : Nat)) = 0) : ups s n = [] := by
  rcases ups_find (s := s) (16 - n) n (by omega) with ⟨h1, _⟩ | ⟨k, h1, h2, h3, _, _⟩
  · exact h1
  · have e := bitB_iand s (ishl .u16 65535 (n : Nat)) k
    rw [h, h3, mask_bit n hn k h2, decide_eq_true h1] at e
    exact absurd e (by simp [bitB])
theorem mask_low (s : Int) (n : Nat) (hn : n < 16) (h : iand .u16 s (ishl .u16 65535 (n : Nat)) ≠ 0) : ∃ k : Nat, k < 16 ∧ ups s n = k :: ups s (k + 1) ∧ n ≤ k ∧ (iand .u16 s (ishl .u16 65535 (n : Nat))).toNat &&& (65536 - (iand .u16 s (ishl .u16 65535 (n : Nat))).toNat) = 2 ^ k := by
  have hb := iand16_bd s (ishl .u16 65535 (n : Nat))
  obtain ⟨k, hk, h1, h2, h3⟩ := low_bit (iand .u16 s (ishl .u16 65535 (n : Nat))).toNat (by omega) (by omega)
  rcases ups_find (s := s) (16 - n) n (by omega) with ⟨h4, h5⟩ | ⟨q, h4, h5, h6, h7, h8⟩
  · have e := bitB_iand s (ishl .u16 65535 (n : Nat)) k
    rw [bitB_nat hb, h1, mask_bit n hn k hk] at e
    by_cases hnk : n ≤ k
    · rw [h5 k hnk hk] at e; simp at e
    · simp [hnk] at e
  · have e := bitB_iand s (ishl .u16 65535 (n : Nat)) q
    rw [bitB_nat hb, h6, mask_bit n hn q h5, decide_eq_true h4] at e
    have e2 := bitB_iand s (ishl .u16 65535 (n : Nat)) k
    rw [bitB_nat hb, h1, mask_bit n hn k hk] at e2
    have hnk : n ≤ k := by
      apply Nat.le_of_not_lt
      intro hc
      rw [decide_eq_false (by omega)] at e2
      simp at e2
    have hkq : k = q := by
      rcases Nat.lt_trichotomy k q with hlt | heq | hgt
      · rw [h7 k hnk hlt] at e2; simp at e2
      · exact heq
      · rw [h2 q hgt] at e; simp at e
    subst hkq
    exact ⟨k, h5, h8, h4, h3⟩
end Go.Proofs.YtcekfepgdfcinaaGreatDoor

namespace Go.Proofs.YtcekfepgdfcinaaGreatDoor
open Go.Ab
set_option linter.unusedSimpArgs false
set_option linter.unusedVariables false
set_option maxHeartbeats 4000000
set_option maxRecDepth 100000
/-- The least unit from n on, or -1. -/
def nxt (s : Int) (n : Nat) : Int := match ups s n with | [] => -1 | k :: _ => (k : Int)
theorem iand16_nat {a b : Int} (ha : 0 ≤ a ∧ a < 65536) (hb : 0 ≤ b ∧ b < 65536) : iand .u16 a b = ((a.toNat &&& b.toNat : Nat) : Int) := by
  rw [iand16, BitVec.toNat_and]
  have e1 := u16_bv a ha
  have e2 := u16_bv b hb
  have f1 : (BitVec.ofInt 16 a).toNat = a.toNat := by omega
  have f2 : (BitVec.ofInt 16 b).toNat = b.toNat := by omega
  rw [f1, f2]
theorem con_tz (x : Int) (hx : 0 < x ∧ x < 65536) (k : Nat) (hk : k < 16) (h : x.toNat &&& (65536 - x.toNat) = 2 ^ k) : Con Tryz.prog 227 [] [u16 x] [] (i64 k) := by
  have hp : iand .u16 x (65536 - x) = ((2 ^ k : Nat) : Int) := by
    rw [iand16_nat (by omega) (by omega), ← h]
    congr 2
    omega
  have wf1 : (0 - x) % 65536 = 65536 - x := by omega
  have wf1b : (-x) % 65536 = 65536 - x := by omega
  have wf1c : IntKind.wrap .u16 (0 - x) = 65536 - x := wf1
  have wf1d : IntKind.wrap .u16 (-x) = 65536 - x := wf1b
  clear h
  rcases (by omega : k = 0 ∨ k = 1 ∨ k = 2 ∨ k = 3 ∨ k = 4 ∨ k = 5 ∨ k = 6 ∨ k = 7 ∨ k = 8 ∨ k = 9 ∨ k = 10 ∨ k = 11 ∨ k = 12 ∨ k = 13 ∨ k = 14 ∨ k = 15) with rfl | rfl | rfl | rfl | rfl | rfl | rfl | rfl | rfl | rfl | rfl | rfl | rfl | rfl | rfl | rfl
  · have wf2 : iand .u16 x (65536 - x) = 1 := hp
    clear hp
    refine Con.of (C := ⟨Tryz.prog, tc, Tryz.f227.ntmps⟩) [] tcok Tryz.func227 rfl rfl (by kernel_rfl) (by kernel_rfl) ?_
    refine xe0 [0, 2] [] (by kernel_rfl) ?_
    refine AWP.seq ?_
    refine xe0 [0, 2, 4] [] (by kernel_rfl) ?_
    refine AWP.cond (b := x == 0) (by kernel_rfl) (fun hq0 => ?_) (fun hq0 => ?_)
    · simp only [beq_iff_eq] at hq0
      (exfalso; omega)
    simp only [beq_eq_false_iff_ne] at hq0
    refine AWP.skip ?_
    refine xe1 (os := [u16 (IntKind.wrap IntKind.u16 (0 - x)) = u16 (65536 - x), u16 (iand IntKind.u16 x (65536 - x)) = u16 1]) [(2, ⟨some (u16 (65536 - x)), none⟩), (3, ⟨some (u16 1), none⟩)] [2] [] (by kernel_rfl) ⟨(in_eq wf1c), (in_eq wf2), trivial⟩ ?_
    refine AWP.ret ?_
    refine ⟨Or.inr rfl, Eq.trans (b := some ([], i64 0)) (by kernel_rfl) ?_⟩
    rfl
  · have wf2 : iand .u16 x (65536 - x) = 2 := hp
    clear hp
    refine Con.of (C := ⟨Tryz.prog, tc, Tryz.f227.ntmps⟩) [] tcok Tryz.func227 rfl rfl (by kernel_rfl) (by kernel_rfl) ?_
    refine xe0 [0, 2] [] (by kernel_rfl) ?_
    refine AWP.seq ?_
    refine xe0 [0, 2, 4] [] (by kernel_rfl) ?_
    refine AWP.cond (b := x == 0) (by kernel_rfl) (fun hq1 => ?_) (fun hq1 => ?_)
    · simp only [beq_iff_eq] at hq1
      (exfalso; omega)
    simp only [beq_eq_false_iff_ne] at hq1
    refine AWP.skip ?_
    refine xe1 (os := [u16 (IntKind.wrap IntKind.u16 (0 - x)) = u16 (65536 - x), u16 (iand IntKind.u16 x (65536 - x)) = u16 2]) [(2, ⟨some (u16 (65536 - x)), none⟩), (3, ⟨some (u16 2), none⟩)] [2] [] (by kernel_rfl) ⟨(in_eq wf1c), (in_eq wf2), trivial⟩ ?_
    refine AWP.ret ?_
    refine ⟨Or.inr rfl, Eq.trans (b := some ([], i64 1)) (by kernel_rfl) ?_⟩
    rfl
  · have wf2 : iand .u16 x (65536 - x) = 4 := hp
    clear hp
    refine Con.of (C := ⟨Tryz.prog, tc, Tryz.f227.ntmps⟩) [] tcok Tryz.func227 rfl rfl (by kernel_rfl) (by kernel_rfl) ?_
    refine xe0 [0, 2] [] (by kernel_rfl) ?_
    refine AWP.seq ?_
    refine xe0 [0, 2, 4] [] (by kernel_rfl) ?_
    refine AWP.cond (b := x == 0) (by kernel_rfl) (fun hq2 => ?_) (fun hq2 => ?_)
    · simp only [beq_iff_eq] at hq2
      (exfalso; omega)
    simp only [beq_eq_false_iff_ne] at hq2
    refine AWP.skip ?_
    refine xe1 (os := [u16 (IntKind.wrap IntKind.u16 (0 - x)) = u16 (65536 - x), u16 (iand IntKind.u16 x (65536 - x)) = u16 4]) [(2, ⟨some (u16 (65536 - x)), none⟩), (3, ⟨some (u16 4), none⟩)] [2] [] (by kernel_rfl) ⟨(in_eq wf1c), (in_eq wf2), trivial⟩ ?_
    refine AWP.ret ?_
    refine ⟨Or.inr rfl, Eq.trans (b := some ([], i64 2)) (by kernel_rfl) ?_⟩
    rfl
  · have wf2 : iand .u16 x (65536 - x) = 8 := hp
    clear hp
    refine Con.of (C := ⟨Tryz.prog, tc, Tryz.f227.ntmps⟩) [] tcok Tryz.func227 rfl rfl (by kernel_rfl) (by kernel_rfl) ?_
    refine xe0 [0, 2] [] (by kernel_rfl) ?_
    refine AWP.seq ?_
    refine xe0 [0, 2, 4] [] (by kernel_rfl) ?_
    refine AWP.cond (b := x == 0) (by kernel_rfl) (fun hq3 => ?_) (fun hq3 => ?_)
    · simp only [beq_iff_eq] at hq3
      (exfalso; omega)
    simp only [beq_eq_false_iff_ne] at hq3
    refine AWP.skip ?_
    refine xe1 (os := [u16 (IntKind.wrap IntKind.u16 (0 - x)) = u16 (65536 - x), u16 (iand IntKind.u16 x (65536 - x)) = u16 8]) [(2, ⟨some (u16 (65536 - x)), none⟩), (3, ⟨some (u16 8), none⟩)] [2] [] (by kernel_rfl) ⟨(in_eq wf1c), (in_eq wf2), trivial⟩ ?_
    refine AWP.ret ?_
    refine ⟨Or.inr rfl, Eq.trans (b := some ([], i64 3)) (by kernel_rfl) ?_⟩
    rfl
  · have wf2 : iand .u16 x (65536 - x) = 16 := hp
    clear hp
    refine Con.of (C := ⟨Tryz.prog, tc, Tryz.f227.ntmps⟩) [] tcok Tryz.func227 rfl rfl (by kernel_rfl) (by kernel_rfl) ?_
    refine xe0 [0, 2] [] (by kernel_rfl) ?_
    refine AWP.seq ?_
    refine xe0 [0, 2, 4] [] (by kernel_rfl) ?_
    refine AWP.cond (b := x == 0) (by kernel_rfl) (fun hq4 => ?_) (fun hq4 => ?_)
    · simp only [beq_iff_eq] at hq4
      (exfalso; omega)
    simp only [beq_eq_false_iff_ne] at hq4
    refine AWP.skip ?_
    refine xe1 (os := [u16 (IntKind.wrap IntKind.u16 (0 - x)) = u16 (65536 - x), u16 (iand IntKind.u16 x (65536 - x)) = u16 16]) [(2, ⟨some (u16 (65536 - x)), none⟩), (3, ⟨some (u16 16), none⟩)] [2] [] (by kernel_rfl) ⟨(in_eq wf1c), (in_eq wf2), trivial⟩ ?_
    refine AWP.ret ?_
    refine ⟨Or.inr rfl, Eq.trans (b := some ([], i64 4)) (by kernel_rfl) ?_⟩
    rfl
  · have wf2 : iand .u16 x (65536 - x) = 32 := hp
    clear hp
    refine Con.of (C := ⟨Tryz.prog, tc, Tryz.f227.ntmps⟩) [] tcok Tryz.func227 rfl rfl (by kernel_rfl) (by kernel_rfl) ?_
    refine xe0 [0, 2] [] (by kernel_rfl) ?_
    refine AWP.seq ?_
    refine xe0 [0, 2, 4] [] (by kernel_rfl) ?_
    refine AWP.cond (b := x == 0) (by kernel_rfl) (fun hq5 => ?_) (fun hq5 => ?_)
    · simp only [beq_iff_eq] at hq5
      (exfalso; omega)
    simp only [beq_eq_false_iff_ne] at hq5
    refine AWP.skip ?_
    refine xe1 (os := [u16 (IntKind.wrap IntKind.u16 (0 - x)) = u16 (65536 - x), u16 (iand IntKind.u16 x (65536 - x)) = u16 32]) [(2, ⟨some (u16 (65536 - x)), none⟩), (3, ⟨some (u16 32), none⟩)] [2] [] (by kernel_rfl) ⟨(in_eq wf1c), (in_eq wf2), trivial⟩ ?_
    refine AWP.ret ?_
    refine ⟨Or.inr rfl, Eq.trans (b := some ([], i64 5)) (by kernel_rfl) ?_⟩
    rfl
  · have wf2 : iand .u16 x (65536 - x) = 64 := hp
    clear hp
    refine Con.of (C := ⟨Tryz.prog, tc, Tryz.f227.ntmps⟩) [] tcok Tryz.func227 rfl rfl (by kernel_rfl) (by kernel_rfl) ?_
    refine xe0 [0, 2] [] (by kernel_rfl) ?_
    refine AWP.seq ?_
    refine xe0 [0, 2, 4] [] (by kernel_rfl) ?_
    refine AWP.cond (b := x == 0) (by kernel_rfl) (fun hq6 => ?_) (fun hq6 => ?_)
    · simp only [beq_iff_eq] at hq6
      (exfalso; omega)
    simp only [beq_eq_false_iff_ne] at hq6
    refine AWP.skip ?_
    refine xe1 (os := [u16 (IntKind.wrap IntKind.u16 (0 - x)) = u16 (65536 - x), u16 (iand IntKind.u16 x (65536 - x)) = u16 64]) [(2, ⟨some (u16 (65536 - x)), none⟩), (3, ⟨some (u16 64), none⟩)] [2] [] (by kernel_rfl) ⟨(in_eq wf1c), (in_eq wf2), trivial⟩ ?_
    refine AWP.ret ?_
    refine ⟨Or.inr rfl, Eq.trans (b := some ([], i64 6)) (by kernel_rfl) ?_⟩
    rfl
  · have wf2 : iand .u16 x (65536 - x) = 128 := hp
    clear hp
    refine Con.of (C := ⟨Tryz.prog, tc, Tryz.f227.ntmps⟩) [] tcok Tryz.func227 rfl rfl (by kernel_rfl) (by kernel_rfl) ?_
    refine xe0 [0, 2] [] (by kernel_rfl) ?_
    refine AWP.seq ?_
    refine xe0 [0, 2, 4] [] (by kernel_rfl) ?_
    refine AWP.cond (b := x == 0) (by kernel_rfl) (fun hq7 => ?_) (fun hq7 => ?_)
    · simp only [beq_iff_eq] at hq7
      (exfalso; omega)
    simp only [beq_eq_false_iff_ne] at hq7
    refine AWP.skip ?_
    refine xe1 (os := [u16 (IntKind.wrap IntKind.u16 (0 - x)) = u16 (65536 - x), u16 (iand IntKind.u16 x (65536 - x)) = u16 128]) [(2, ⟨some (u16 (65536 - x)), none⟩), (3, ⟨some (u16 128), none⟩)] [2] [] (by kernel_rfl) ⟨(in_eq wf1c), (in_eq wf2), trivial⟩ ?_
    refine AWP.ret ?_
    refine ⟨Or.inr rfl, Eq.trans (b := some ([], i64 7)) (by kernel_rfl) ?_⟩
    rfl
  · have wf2 : iand .u16 x (65536 - x) = 256 := hp
    clear hp
    refine Con.of (C := ⟨Tryz.prog, tc, Tryz.f227.ntmps⟩) [] tcok Tryz.func227 rfl rfl (by kernel_rfl) (by kernel_rfl) ?_
    refine xe0 [0, 2] [] (by kernel_rfl) ?_
    refine AWP.seq ?_
    refine xe0 [0, 2, 4] [] (by kernel_rfl) ?_
    refine AWP.cond (b := x == 0) (by kernel_rfl) (fun hq8 => ?_) (fun hq8 => ?_)
    · simp only [beq_iff_eq] at hq8
      (exfalso; omega)
    simp only [beq_eq_false_iff_ne] at hq8
    refine AWP.skip ?_
    refine xe1 (os := [u16 (IntKind.wrap IntKind.u16 (0 - x)) = u16 (65536 - x), u16 (iand IntKind.u16 x (65536 - x)) = u16 256]) [(2, ⟨some (u16 (65536 - x)), none⟩), (3, ⟨some (u16 256), none⟩)] [2] [] (by kernel_rfl) ⟨(in_eq wf1c), (in_eq wf2), trivial⟩ ?_
    refine AWP.ret ?_
    refine ⟨Or.inr rfl, Eq.trans (b := some ([], i64 8)) (by kernel_rfl) ?_⟩
    rfl
  · have wf2 : iand .u16 x (65536 - x) = 512 := hp
    clear hp
    refine Con.of (C := ⟨Tryz.prog, tc, Tryz.f227.ntmps⟩) [] tcok Tryz.func227 rfl rfl (by kernel_rfl) (by kernel_rfl) ?_
    refine xe0 [0, 2] [] (by kernel_rfl) ?_
    refine AWP.seq ?_
    refine xe0 [0, 2, 4] [] (by kernel_rfl) ?_
    refine AWP.cond (b := x == 0) (by kernel_rfl) (fun hq9 => ?_) (fun hq9 => ?_)
    · simp only [beq_iff_eq] at hq9
      (exfalso; omega)
    simp only [beq_eq_false_iff_ne] at hq9
    refine AWP.skip ?_
    refine xe1 (os := [u16 (IntKind.wrap IntKind.u16 (0 - x)) = u16 (65536 - x), u16 (iand IntKind.u16 x (65536 - x)) = u16 512]) [(2, ⟨some (u16 (65536 - x)), none⟩), (3, ⟨some (u16 512), none⟩)] [2] [] (by kernel_rfl) ⟨(in_eq wf1c), (in_eq wf2), trivial⟩ ?_
    refine AWP.ret ?_
    refine ⟨Or.inr rfl, Eq.trans (b := some ([], i64 9)) (by kernel_rfl) ?_⟩
    rfl
  · have wf2 : iand .u16 x (65536 - x) = 1024 := hp
    clear hp
    refine Con.of (C := ⟨Tryz.prog, tc, Tryz.f227.ntmps⟩) [] tcok Tryz.func227 rfl rfl (by kernel_rfl) (by kernel_rfl) ?_
    refine xe0 [0, 2] [] (by kernel_rfl) ?_
    refine AWP.seq ?_
    refine xe0 [0, 2, 4] [] (by kernel_rfl) ?_
    refine AWP.cond (b := x == 0) (by kernel_rfl) (fun hq10 => ?_) (fun hq10 => ?_)
    · simp only [beq_iff_eq] at hq10
      (exfalso; omega)
    simp only [beq_eq_false_iff_ne] at hq10
    refine AWP.skip ?_
    refine xe1 (os := [u16 (IntKind.wrap IntKind.u16 (0 - x)) = u16 (65536 - x), u16 (iand IntKind.u16 x (65536 - x)) = u16 1024]) [(2, ⟨some (u16 (65536 - x)), none⟩), (3, ⟨some (u16 1024), none⟩)] [2] [] (by kernel_rfl) ⟨(in_eq wf1c), (in_eq wf2), trivial⟩ ?_
    refine AWP.ret ?_
    refine ⟨Or.inr rfl, Eq.trans (b := some ([], i64 10)) (by kernel_rfl) ?_⟩
    rfl
  · have wf2 : iand .u16 x (65536 - x) = 2048 := hp
    clear hp
    refine Con.of (C := ⟨Tryz.prog, tc, Tryz.f227.ntmps⟩) [] tcok Tryz.func227 rfl rfl (by kernel_rfl) (by kernel_rfl) ?_
    refine xe0 [0, 2] [] (by kernel_rfl) ?_
    refine AWP.seq ?_
    refine xe0 [0, 2, 4] [] (by kernel_rfl) ?_
    refine AWP.cond (b := x == 0) (by kernel_rfl) (fun hq11 => ?_) (fun hq11 => ?_)
    · simp only [beq_iff_eq] at hq11
      (exfalso; omega)
    simp only [beq_eq_false_iff_ne] at hq11
    refine AWP.skip ?_
    refine xe1 (os := [u16 (IntKind.wrap IntKind.u16 (0 - x)) = u16 (65536 - x), u16 (iand IntKind.u16 x (65536 - x)) = u16 2048]) [(2, ⟨some (u16 (65536 - x)), none⟩), (3, ⟨some (u16 2048), none⟩)] [2] [] (by kernel_rfl) ⟨(in_eq wf1c), (in_eq wf2), trivial⟩ ?_
    refine AWP.ret ?_
    refine ⟨Or.inr rfl, Eq.trans (b := some ([], i64 11)) (by kernel_rfl) ?_⟩
    rfl
  · have wf2 : iand .u16 x (65536 - x) = 4096 := hp
    clear hp
    refine Con.of (C := ⟨Tryz.prog, tc, Tryz.f227.ntmps⟩) [] tcok Tryz.func227 rfl rfl (by kernel_rfl) (by kernel_rfl) ?_
    refine xe0 [0, 2] [] (by kernel_rfl) ?_
    refine AWP.seq ?_
    refine xe0 [0, 2, 4] [] (by kernel_rfl) ?_
    refine AWP.cond (b := x == 0) (by kernel_rfl) (fun hq12 => ?_) (fun hq12 => ?_)
    · simp only [beq_iff_eq] at hq12
      (exfalso; omega)
    simp only [beq_eq_false_iff_ne] at hq12
    refine AWP.skip ?_
    refine xe1 (os := [u16 (IntKind.wrap IntKind.u16 (0 - x)) = u16 (65536 - x), u16 (iand IntKind.u16 x (65536 - x)) = u16 4096]) [(2, ⟨some (u16 (65536 - x)), none⟩), (3, ⟨some (u16 4096), none⟩)] [2] [] (by kernel_rfl) ⟨(in_eq wf1c), (in_eq wf2), trivial⟩ ?_
    refine AWP.ret ?_
    refine ⟨Or.inr rfl, Eq.trans (b := some ([], i64 12)) (by kernel_rfl) ?_⟩
    rfl
  · have wf2 : iand .u16 x (65536 - x) = 8192 := hp
    clear hp
    refine Con.of (C := ⟨Tryz.prog, tc, Tryz.f227.ntmps⟩) [] tcok Tryz.func227 rfl rfl (by kernel_rfl) (by kernel_rfl) ?_
    refine xe0 [0, 2] [] (by kernel_rfl) ?_
    refine AWP.seq ?_
    refine xe0 [0, 2, 4] [] (by kernel_rfl) ?_
    refine AWP.cond (b := x == 0) (by kernel_rfl) (fun hq13 => ?_) (fun hq13 => ?_)
    · simp only [beq_iff_eq] at hq13
      (exfalso; omega)
    simp only [beq_eq_false_iff_ne] at hq13
    refine AWP.skip ?_
    refine xe1 (os := [u16 (IntKind.wrap IntKind.u16 (0 - x)) = u16 (65536 - x), u16 (iand IntKind.u16 x (65536 - x)) = u16 8192]) [(2, ⟨some (u16 (65536 - x)), none⟩), (3, ⟨some (u16 8192), none⟩)] [2] [] (by kernel_rfl) ⟨(in_eq wf1c), (in_eq wf2), trivial⟩ ?_
    refine AWP.ret ?_
    refine ⟨Or.inr rfl, Eq.trans (b := some ([], i64 13)) (by kernel_rfl) ?_⟩
    rfl
  · have wf2 : iand .u16 x (65536 - x) = 16384 := hp
    clear hp
    refine Con.of (C := ⟨Tryz.prog, tc, Tryz.f227.ntmps⟩) [] tcok Tryz.func227 rfl rfl (by kernel_rfl) (by kernel_rfl) ?_
    refine xe0 [0, 2] [] (by kernel_rfl) ?_
    refine AWP.seq ?_
    refine xe0 [0, 2, 4] [] (by kernel_rfl) ?_
    refine AWP.cond (b := x == 0) (by kernel_rfl) (fun hq14 => ?_) (fun hq14 => ?_)
    · simp only [beq_iff_eq] at hq14
      (exfalso; omega)
    simp only [beq_eq_false_iff_ne] at hq14
    refine AWP.skip ?_
    refine xe1 (os := [u16 (IntKind.wrap IntKind.u16 (0 - x)) = u16 (65536 - x), u16 (iand IntKind.u16 x (65536 - x)) = u16 16384]) [(2, ⟨some (u16 (65536 - x)), none⟩), (3, ⟨some (u16 16384), none⟩)] [2] [] (by kernel_rfl) ⟨(in_eq wf1c), (in_eq wf2), trivial⟩ ?_
    refine AWP.ret ?_
    refine ⟨Or.inr rfl, Eq.trans (b := some ([], i64 14)) (by kernel_rfl) ?_⟩
    rfl
  · have wf2 : iand .u16 x (65536 - x) = 32768 := hp
    clear hp
    refine Con.of (C := ⟨Tryz.prog, tc, Tryz.f227.ntmps⟩) [] tcok Tryz.func227 rfl rfl (by kernel_rfl) (by kernel_rfl) ?_
    refine xe0 [0, 2] [] (by kernel_rfl) ?_
    refine AWP.seq ?_
    refine xe0 [0, 2, 4] [] (by kernel_rfl) ?_
    refine AWP.cond (b := x == 0) (by kernel_rfl) (fun hq15 => ?_) (fun hq15 => ?_)
    · simp only [beq_iff_eq] at hq15
      (exfalso; omega)
    simp only [beq_eq_false_iff_ne] at hq15
    refine AWP.skip ?_
    refine xe1 (os := [u16 (IntKind.wrap IntKind.u16 (0 - x)) = u16 (65536 - x), u16 (iand IntKind.u16 x (65536 - x)) = u16 32768]) [(2, ⟨some (u16 (65536 - x)), none⟩), (3, ⟨some (u16 32768), none⟩)] [2] [] (by kernel_rfl) ⟨(in_eq wf1c), (in_eq wf2), trivial⟩ ?_
    refine AWP.ret ?_
    refine ⟨Or.inr rfl, Eq.trans (b := some ([], i64 15)) (by kernel_rfl) ?_⟩
    rfl
theorem con_next (s i : Int) (hs : 0 ≤ s ∧ s < 65536) : Con Tryz.prog 151 [] [u16 s, i64 i] [] (i64 (nxt s i.toNat)) := by
  by_cases hi : 16 ≤ i
  · have e : nxt s i.toNat = -1 := by unfold nxt; rw [ups_end (by omega)]
    rw [e]
    refine Con.of (C := ⟨Tryz.prog, tc, Tryz.f151.ntmps⟩) [] tcok Tryz.func151 rfl rfl (by kernel_rfl) (by kernel_rfl) ?_
    refine xe0 [0, 1, 4] [] (by kernel_rfl) ?_
    refine AWP.seq ?_
    refine xe0 [0, 1, 4, 6] [] (by kernel_rfl) ?_
    refine AWP.cond (b := decide (i ≥ 16)) (by kernel_rfl) (fun hq16 => ?_) (fun hq16 => ?_)
    · simp only [decide_eq_true_eq] at hq16
      refine xe0 [0, 1, 4] [] (by kernel_rfl) ?_
      refine AWP.ret ?_
      refine ⟨Or.inr rfl, Eq.trans (b := some ([], i64 (-1))) (by kernel_rfl) ?_⟩
      first | rfl | (exfalso; omega)
    simp only [decide_eq_false_iff_not] at hq16
    (exfalso; omega)
  obtain ⟨m, hm⟩ : ∃ m : Nat, i.toNat = m := ⟨_, rfl⟩
  have wf1 : imax i 0 = (m : Int) := by unfold imax; omega
  rw [hm]
  by_cases ht : iand .u16 s (ishl .u16 65535 (m : Nat)) = 0
  · have e : nxt s m = -1 := by unfold nxt; rw [mask_zero s m (by omega) ht]
    rw [e]
    refine Con.of (C := ⟨Tryz.prog, tc, Tryz.f151.ntmps⟩) [] tcok Tryz.func151 rfl rfl (by kernel_rfl) (by kernel_rfl) ?_
    refine xe0 [0, 1, 4] [] (by kernel_rfl) ?_
    refine AWP.seq ?_
    refine xe0 [0, 1, 4, 6] [] (by kernel_rfl) ?_
    refine AWP.cond (b := decide (i ≥ 16)) (by kernel_rfl) (fun hq17 => ?_) (fun hq17 => ?_)
    · simp only [decide_eq_true_eq] at hq17
      (exfalso; omega)
    simp only [decide_eq_false_iff_not] at hq17
    refine AWP.skip ?_
    refine xe1 (os := [i64 (imax i 0) = i64 (↑m : Int), u16 (iand IntKind.u16 s (ishl IntKind.u16 65535 (↑m : Int))) = u16 0]) [(2, ⟨some (i64 (↑m : Int)), none⟩), (4, ⟨some (u16 0), none⟩)] [0, 4] [] (by kernel_rfl) ⟨(in_eq wf1), (in_eq ht), trivial⟩ ?_
    refine AWP.seq ?_
    refine xe0 [0, 4, 13] [] (by kernel_rfl) ?_
    refine AWP.condT (by kernel_rfl) ?_
    refine xe0 [0, 4] [] (by kernel_rfl) ?_
    refine AWP.ret ?_
    refine ⟨Or.inr rfl, Eq.trans (b := some ([], i64 (-1))) (by kernel_rfl) ?_⟩
    first | rfl | (exfalso; omega)
  · obtain ⟨k, h1, h2, h3, h4⟩ := mask_low s m (by omega) ht
    have hb := iand16_bd s (ishl .u16 65535 (m : Nat))
    have e : nxt s m = (k : Int) := by unfold nxt; rw [h2]
    rw [e]
    have c := con_tz _ (by omega) k h1 h4
    refine Con.of (C := ⟨Tryz.prog, tc, Tryz.f151.ntmps⟩) [] tcok Tryz.func151 rfl rfl (by kernel_rfl) (by kernel_rfl) ?_
    refine xe0 [0, 1, 4] [] (by kernel_rfl) ?_
    refine AWP.seq ?_
    refine xe0 [0, 1, 4, 6] [] (by kernel_rfl) ?_
    refine AWP.cond (b := decide (i ≥ 16)) (by kernel_rfl) (fun hq19 => ?_) (fun hq19 => ?_)
    · simp only [decide_eq_true_eq] at hq19
      (exfalso; omega)
    simp only [decide_eq_false_iff_not] at hq19
    refine AWP.skip ?_
    refine xe1 (os := [i64 (imax i 0) = i64 (↑m : Int)]) [(2, ⟨some (i64 (↑m : Int)), none⟩)] [0, 4] [] (by kernel_rfl) ⟨(in_eq wf1), trivial⟩ ?_
    refine AWP.seq ?_
    refine xe0 [0, 4, 13] [] (by kernel_rfl) ?_
    refine AWP.cond (b := iand IntKind.u16 s (ishl IntKind.u16 65535 (↑m : Int)) == 0) (by kernel_rfl) (fun hq20 => ?_) (fun hq20 => ?_)
    · simp only [beq_iff_eq] at hq20
      (exfalso; omega)
    simp only [beq_eq_false_iff_ne] at hq20
    refine AWP.skip ?_
    refine xe1 (os := [Con Tryz.prog 227 [] [u16 (iand IntKind.u16 s (ishl IntKind.u16 65535 (↑m : Int)))] [] (i64 (↑k : Int))]) [(1, ⟨none, some ⟨i64 (↑k : Int), [], []⟩⟩)] [4] [] (by kernel_rfl) ⟨(c ), trivial⟩ ?_
    refine AWP.ret ?_
    refine ⟨Or.inr rfl, Eq.trans (b := some ([], i64 (↑k : Int))) (by kernel_rfl) ?_⟩
    first | rfl | (exfalso; omega)
theorem con_first (s : Int) (hs : 0 ≤ s ∧ s < 65536) : Con Tryz.prog 166 [] [u16 s] [] (i64 (nxt s 0)) := by
  have c : Con Tryz.prog 151 [] [u16 s, i64 0] [] (i64 (nxt s 0)) := con_next s 0 hs
  refine Con.of (C := ⟨Tryz.prog, tc, Tryz.f166.ntmps⟩) [] tcok Tryz.func166 rfl rfl (by kernel_rfl) (by kernel_rfl) ?_
  refine xe0 [0, 2] [] (by kernel_rfl) ?_
  refine xe1 (os := [Con Tryz.prog 151 [] [u16 s, i64 0] [] (i64 (nxt s 0))]) [(1, ⟨none, some ⟨i64 (nxt s 0), [], []⟩⟩)] [2] [] (by kernel_rfl) ⟨(c ), trivial⟩ ?_
  refine AWP.ret ?_
  refine ⟨Or.inr rfl, Eq.trans (b := some ([], i64 (nxt s 0))) (by kernel_rfl) ?_⟩
  rfl
end Go.Proofs.YtcekfepgdfcinaaGreatDoor

namespace Go.Proofs.YtcekfepgdfcinaaGreatDoor
open Go Go.Ab Go.RowKit Go.Shelf
set_option linter.unusedSimpArgs false
set_option linter.unusedVariables false
attribute [local go_sem] Oper.semAt_some
def bmeas : Value → Nat
  | .int _ n => if n < 0 then 0 else 17 - n.toNat
  | _ => 0
theorem bmeas_next (s : Int) (k : Nat) (hk : k < 16) : bmeas (.int .i64 (nxt s (k + 1))) < bmeas (.int .i64 (k : Int)) := by
  have e : bmeas (.int .i64 (k : Int)) = 17 - k := by simp [bmeas]; omega
  rw [e]
  unfold nxt
  rcases hu : ups s (k + 1) with _ | ⟨q, r⟩
  · simp [bmeas]; omega
  · have := ups_cons hu
    have e2 : bmeas (.int .i64 (q : Int)) = 17 - q := by simp [bmeas]; omega
    show bmeas (.int .i64 (q : Int)) < 17 - k
    rw [e2]
    omega
/-- A call that is lent nothing, in a world of which a part is somebody's. -/
theorem Con.callsX {P : Program} {f : FuncId} {args : List V} {v : Value} (h : Con P f [] args [] (.val v)) {w : World} {us : List Value} {X : Nat → Prop} {φ : Phi} (hX : ∀ b, X b → b < w.heap.size) (hlt : ∀ i b c, φ i = .at b c → b < w.heap.size) (hu : ∀ I, Rels I w Phi.emp args us) (hg : GOk (Imm φ X w) w) :
    Calls P f us.toArray w fun e w' => e = .returned v ∧ Below w.heap.size w w' := by
  have hg' : GOk (Imm Phi.emp (fun b => X b ∨ ∃ i c, φ i = .at b c) w) w := hg.mono fun b hb => ⟨⟨hb.1, fun i c e => (by cases e), fun hx => by
    rcases hx with hx | ⟨i, c, hi⟩
    · exact hb.2.2 hx
    · exact hb.2.1 i c hi⟩, rfl⟩
  refine (h.2 (fun b => X b ∨ ∃ i c, φ i = .at b c) Phi.emp w us ⟨fun i j b c c' e _ => (by cases e), fun i b c e => (by cases e), fun i b c e => (by cases e), fun i _ => rfl⟩ (fun b hb => by
    rcases hb with hb | ⟨i, c, hi⟩
    · exact hX b hb
    · exact hlt i b c hi) (fun id blk e => (by cases e)) (hu _) hg').mono ?_
  rintro e w' ⟨u, φ', rfl, hf, _, _, _, hr, _⟩
  cases hr with
  | val _ => exact ⟨rfl, hf.os, hf.tape, hf.output, hf.size, fun k hk => hf.block k hk (fun id c e => by cases e)⟩
/-- What a set's range hands over. -/
def allV (s : Int) : List (List V) := (ups s 0).map fun (k : Nat) => [i64 (k : Int)]
/-- A box of a set. -/
def boxV (s : Int) : List (Nat × Blk) := [(1000000000, ⟨[u16 s], true, 1, none⟩)]
theorem box_view {s : Int} {lb : List Value} {A : World} {X : Nat → Prop} {φ : Phi} (h : ViewOk (boxV s) [.ptr 1000000000 0] lb A X φ) : ∃ B t, lb = [.pointer (some ⟨B, 0, none⟩)] ∧ Boxed A B t (.int .u16 s) := by
  obtain ⟨hok, hX, hH, hr, hg⟩ := h
  cases hr with
  | cons h1 h2 =>
    cases h2 with
    | nil =>
      cases h1 with
      | ptr hs =>
        rename_i b c
        have := hH 1000000000 _ rfl
        rw [hs] at this
        obtain ⟨us, el, e1, e2, e3, _⟩ := this
        refine ⟨b, el, rfl, ?_⟩
        have hl : us.size = 1 := e3
        have h0 := e2.2.1 0 (by simp)
        obtain ⟨u, hu⟩ : ∃ u, us = #[u] := Array.size_eq_one_iff.1 hl
        subst hu
        have h0 : Rel (Imm φ X A) A (bFlat φ true) (u16 s) u := h0
        cases h0
        exact e1
set_option maxRecDepth 100000 in
set_option maxHeartbeats 4000000 in
theorem it_all (s : Int) (hs : 0 ≤ s ∧ s < 65536) : IterOk Tryz.prog 165 (boxV s) [.ptr 1000000000 0] (allV s) := by
  refine ⟨⟨_, Tryz.func165, by kernel_rfl, by kernel_rfl⟩, fun m l lb J Vw Jx W hv hview hgrow hy h0 => ?_⟩
  have view : ∀ {k A}, J k A → ∃ X φ B t, Vw k A X φ ∧ lb = [.pointer (some ⟨B, 0, none⟩)] ∧ Boxed A B t (.int .u16 s) ∧ (∀ b, X b → b < A.heap.size) ∧ (∀ i b c, φ i = .at b c → b < A.heap.size) ∧ GOk (Imm φ X A) A := fun {k A} hJ => by
    obtain ⟨X, φ, hV⟩ := hv k A hJ
    have h1 := hview k A X φ hV
    obtain ⟨B, t, e1, e2⟩ := box_view h1
    exact ⟨X, φ, B, t, hV, e1, e2, h1.2.1, h1.1.lt, h1.2.2.2.2⟩
  obtain ⟨X0, φ0, Bn, t0, hV0, rfl, hBx, hX0, hl0, hg0⟩ := view h0
  refine callsIn_of_wp Tryz.func165 rfl trivial ?_ rfl
  simp only [Tryz.ntmps165, List.size_toArray, List.length_cons, List.length_nil, Nat.reduceAdd, Nat.reduceSub, Array.replicate_succ, Array.replicate_zero, List.push_toArray, List.append_toArray, List.nil_append, List.cons_append]
  have hc := hBx.cell
  gi_wp2_with (refine ⟨trivial, ?_⟩; gi_at_call 166; refine (callsIn_wide.2 (Con.callsX (us := [.int .u16 s]) (con_first s hs) hX0 hl0 (fun _ => .cons (.val rfl) .nil) hg0)).mono ?_; rintro e w1 ⟨rfl, hw1⟩)
  have hJ1 : J 0 w1 := hgrow _ _ _ h0 hw1
  gi_loopw [3] (fun p wr => ∃ (k a : Nat), p = .int .i64 (nxt s a) ∧ (allV s).drop k = (ups s a).map (fun (k : Nat) => [i64 (k : Int)]) ∧ k ≤ (allV s).length ∧ J k wr)
    (fun p wr => bmeas p)
  case atStart =>
    exact ⟨0, 0, rfl, rfl, Nat.zero_le _, hJ1⟩
  case round =>
    obtain ⟨q, a, rfl, hx, hq, hJs⟩ := hrel
    rcases hu : ups s a with _ | ⟨k, rest⟩
    · have hk : nxt s a = -1 := by unfold nxt; rw [hu]
      rw [hk]
      gi_wp2
      go_end0
      refine ⟨⟨_, rfl⟩, .inl ?_⟩
      have : q = (allV s).length := by
        rw [hu] at hx
        have := List.drop_eq_nil_iff.1 hx
        omega
      rw [← this]
      exact hJs
    · have hk : nxt s a = (k : Int) := by unfold nxt; rw [hu]
      obtain ⟨hk16, hrest, hak⟩ := ups_cons hu
      rw [hk]
      have hne : ¬ ((k : Int) = -1) := by omega
      have hqx : (allV s)[q]? = some [i64 (k : Int)] := by
        rw [← List.head?_drop, hx, hu]
        rfl
      obtain ⟨X1, φ1, B1, t1, hV1, e1, hBx1, hX1, hl1, hg1⟩ := view hJs
      cases e1
      obtain ⟨fn, tmps, assign, body, hyy, hR⟩ := hy q wr X1 φ1 [.int .i64 (k : Int)] _ hJs hV1 hqx (.cons (.val rfl) .nil)
      try simp only at hyy
      gi_wp2
      refine hR.mono ?_
      rintro e W3 (⟨rfl, hJ3⟩ | ⟨rfl, hJx3⟩)
      · obtain ⟨X3, φ3, B3, t3, hV3, e3, hBx3, hX3, hl3, hg3⟩ := view hJ3
        cases e3
        have hc3 := hBx3.cell
        gi_wp2_with (refine ⟨trivial, ?_⟩; gi_at_call 151; refine (callsIn_wide.2 (Con.callsX (us := [.int .u16 s, .int .i64 (k + 1)]) (con_next s (k + 1) hs) hX3 hl3 (fun _ => .cons (.val rfl) (.cons (.val rfl) .nil)) hg3)).mono ?_; rintro e w4 ⟨rfl, hw4⟩)
        go_roundw
        case rel =>
          refine ⟨q + 1, k + 1, rfl, ?_, ?_, hgrow _ _ _ hJ3 hw4⟩
          · rw [← List.drop_drop, List.drop_one] 
            rw [hx, hu]
            show List.map _ rest = _
            rw [hrest]
          · have := (List.getElem?_eq_some_iff.1 hqx).1
            omega
        case measure => exact bmeas_next s k hk16
      · gi_wp2
        refine bodyPost_ret (results_none rfl _ _ _) rfl ?_
        exact ⟨⟨_, rfl⟩, .inr hJx3⟩
end Go.Proofs.YtcekfepgdfcinaaGreatDoor
