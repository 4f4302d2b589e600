/- Chapter 15: the document's Look, bit by bit. -/
import Derived.Test.YtlfjnkobnkfioaaDoorRg
import Derived.Test.YtlfjnkobnkfioaaDoorChkA
namespace Go.Proofs.YtlfjnkobnkfioaaDoor
open Go.Ab
set_option linter.unusedSimpArgs false
set_option linter.unusedVariables false
set_option maxHeartbeats 4000000
theorem u32_bv (x : Int) (h : 0 ≤ x ∧ x < 4294967296) : ((BitVec.ofInt 32 x).toNat : Int) = x := by
  rw [BitVec.toNat_ofInt]
  have : x % ((2 ^ 32 : Nat) : Int) = x := Int.emod_eq_of_lt h.1 (by simpa using h.2)
  rw [this]
  exact Int.toNat_of_nonneg h.1
theorem iand_bv (a b : Int) : iand .u32 a b = ((BitVec.ofInt 32 a &&& BitVec.ofInt 32 b).toNat : Int) := by
  have : iand .u32 a b = IntKind.wrap .u32 ((BitVec.ofInt 32 a &&& BitVec.ofInt 32 b).toNat : Int) := rfl
  rw [this]
  have hb := (BitVec.ofInt 32 a &&& BitVec.ofInt 32 b).isLt
  show ((BitVec.ofInt 32 a &&& BitVec.ofInt 32 b).toNat : Int) % 4294967296 = _
  omega
theorem ixor_bv (a b : Int) : ixor .u32 a b = ((BitVec.ofInt 32 a ^^^ BitVec.ofInt 32 b).toNat : Int) := by
  have : ixor .u32 a b = IntKind.wrap .u32 ((BitVec.ofInt 32 a ^^^ BitVec.ofInt 32 b).toNat : Int) := rfl
  rw [this]
  have hb := (BitVec.ofInt 32 a ^^^ BitVec.ofInt 32 b).isLt
  show ((BitVec.ofInt 32 a ^^^ BitVec.ofInt 32 b).toNat : Int) % 4294967296 = _
  omega
theorem bv_nat {n : Nat} (x : BitVec n) : BitVec.ofInt n (x.toNat : Int) = x := by
  apply BitVec.eq_of_toNat_eq
  rw [BitVec.toNat_ofInt]
  have := x.isLt
  rw [← Int.natCast_emod, Int.toNat_natCast, Nat.mod_eq_of_lt this]
theorem bit_u32 (x : Int) (h : 0 ≤ x ∧ x < 4294967296) (i : Nat) : (BitVec.ofInt 32 x).getLsbD i = decide (x / 2 ^ i % 2 = 1) := by
  have e := u32_bv x h
  rw [← BitVec.testBit_toNat, Nat.testBit_eq_decide_div_mod_eq]
  apply Bool.eq_iff_iff.2
  simp only [decide_eq_true_eq]
  generalize (BitVec.ofInt 32 x).toNat = m at e
  subst e
  have : ((m / 2 ^ i % 2 : Nat) : Int) = (m : Int) / 2 ^ i % 2 := by simp
  omega
theorem mis_bv {now wa ma : Int} : mis now wa ma = (((BitVec.ofInt 32 (now % 4294967296) ^^^ BitVec.ofInt 32 wa) &&& BitVec.ofInt 32 ma).toNat : Int) := by
  unfold mis
  rw [iand_bv, ixor_bv, bv_nat]
theorem mis_zero {now wa ma : Int} (hn : 0 ≤ now % 4294967296 ∧ now % 4294967296 < 4294967296) (hw : 0 ≤ wa ∧ wa < 4294967296) (hm : 0 ≤ ma ∧ ma < 4294967296)
    (h : ∀ j : Nat, j < 32 → ¬ (ma / 2 ^ j % 2 = 1 ∧ (now % 4294967296) / 2 ^ j % 2 ≠ wa / 2 ^ j % 2)) : mis now wa ma = 0 := by
  rw [mis_bv]
  have : (BitVec.ofInt 32 (now % 4294967296) ^^^ BitVec.ofInt 32 wa) &&& BitVec.ofInt 32 ma = 0#32 := by
    apply BitVec.eq_of_getLsbD_eq
    intro j hj
    have := h j hj
    rw [BitVec.getLsbD_and, BitVec.getLsbD_xor, bit_u32 _ hn, bit_u32 _ hw, bit_u32 _ hm, BitVec.getLsbD_zero]
    generalize now % 4294967296 / 2 ^ j = a at this
    generalize wa / 2 ^ j = b at this
    generalize ma / 2 ^ j = c at this
    rcases (by omega : a % 2 = 0 ∨ a % 2 = 1) with h1 | h1 <;> rcases (by omega : b % 2 = 0 ∨ b % 2 = 1) with h2 | h2 <;> rcases (by omega : c % 2 = 0 ∨ c % 2 = 1) with h3 | h3 <;> simp_all
  rw [this]
  rfl
theorem mis_ne {now wa ma : Int} (hn : 0 ≤ now % 4294967296 ∧ now % 4294967296 < 4294967296) (hw : 0 ≤ wa ∧ wa < 4294967296) (hm : 0 ≤ ma ∧ ma < 4294967296)
    (j : Nat) (hj : j < 32) (h : ma / 2 ^ j % 2 = 1 ∧ (now % 4294967296) / 2 ^ j % 2 ≠ wa / 2 ^ j % 2) : mis now wa ma ≠ 0 := by
  rw [mis_bv]
  intro e
  have e2 : (BitVec.ofInt 32 (now % 4294967296) ^^^ BitVec.ofInt 32 wa) &&& BitVec.ofInt 32 ma = 0#32 := by
    apply BitVec.eq_of_toNat_eq
    simpa using e
  have e3 := congrArg (fun x => x.getLsbD j) e2
  simp only [BitVec.getLsbD_and, BitVec.getLsbD_xor, bit_u32 _ hn, bit_u32 _ hw, bit_u32 _ hm, BitVec.getLsbD_zero] at e3
  generalize now % 4294967296 / 2 ^ j = a at h e3
  generalize wa / 2 ^ j = b at h e3
  generalize ma / 2 ^ j = c at h e3
  rcases (by omega : a % 2 = 0 ∨ a % 2 = 1) with h1 | h1 <;> rcases (by omega : b % 2 = 0 ∨ b % 2 = 1) with h2 | h2 <;> simp_all
theorem tshr {k : IntKind} {x i : Int} (hk : 32 ≤ k.bits) (hx : 0 ≤ x) (hi : 0 ≤ i ∧ i < 32) : Int.tmod (ishr k x i) 2 = x / 2 ^ i.toNat % 2 := by
  unfold ishr
  rw [Nat.min_eq_left (by omega), Int.fdiv_eq_ediv_of_nonneg _ (Int.pow_nonneg (by omega))]
  exact Int.tmod_eq_emod_of_nonneg (Int.ediv_nonneg hx (Int.pow_nonneg (by omega)))
theorem con_rlook (k pa lo hi ma wa now bef : Int) (first : Bool) (hk : 0 ≤ k ∧ k < 256) (hlo : -2147483648 ≤ lo ∧ lo ≤ 2147483647) (hhi : -2147483648 ≤ hi ∧ hi ≤ 2147483647) (hma : 0 ≤ ma ∧ ma < 4294967296) (hwa : 0 ≤ wa ∧ wa < 4294967296) (hn : -2147483648 ≤ now ∧ now ≤ 2147483647) (hb : -2147483648 ≤ bef ∧ bef ≤ 2147483647) :
    Con Tryd.prog 12 [] [dV k pa lo hi ma wa, i32 now, i32 bef, vb first] [] (i64 (look k pa lo hi ma wa now bef first)) := by
  have hcr : cright k pa lo hi = true → k ≤ 2 := by
    unfold cright
    simp only [Bool.and_eq_true, decide_eq_true_eq]
    exact fun h => h.1
  have hk2 : k = 0 ∨ k = 1 ∨ k = 2 ∨ 2 < k := by omega
  have hna : 0 ≤ now % 4294967296 ∧ now % 4294967296 < 4294967296 := by omega
  rcases hk2 with rfl | rfl | rfl | h3
  · refine Con.of (C := ⟨Tryd.prog, tc, Tryd.f12.ntmps⟩) [] tcok Tryd.func12 rfl rfl (by kernel_rfl) (by kernel_rfl) ?_
    refine e0 [1, 2, 3, 4, 8] [4] (by kernel_rfl) ?_
    refine AWP.seq ?_
    refine e1 [(1, ⟨none, some ⟨vb (cright 0 pa lo hi), [], []⟩⟩)] [1, 2, 4, 8, 23] [4] (by kernel_rfl) (AllP.c (con_rcright (0) (pa) (lo) (hi) (ma) (wa)) AllP.n) ?_
    refine AWP.cond (b := !cright 0 pa lo hi || false) (by kernel_rfl) (fun hq0 => ?_) (fun hq0 => ?_)
    · simp only [Bool.or_false, Bool.not_eq_true'] at hq0
      refine e0 [1, 2, 4, 8] [4] (by kernel_rfl) ?_
      refine AWP.ret ?_
      refine ⟨Or.inr rfl, Eq.trans (b := some ([], i64 0)) (by kernel_rfl) ?_⟩
      (simp only [look, betw]; (repeat' split) <;> first | rfl | (simp_all; done) | (exfalso; simp_all; done) | (exfalso; simp_all; omega) | (exfalso; omega))
    simp only [Bool.or_false, Bool.not_eq_false'] at hq0
    refine AWP.skip ?_
    refine AWP.seq ?_
    refine e0 [1, 2, 4, 8, 26] [4] (by kernel_rfl) ?_
    refine AWP.condF (by kernel_rfl) ?_
    refine AWP.skip ?_
    refine e1 (os := [i64 (IntKind.wrap IntKind.i64 now) = i64 now]) [(1, ⟨some (i64 now), none⟩)] [2, 4, 8, 12] [4] (by kernel_rfl) ⟨(wr_i64 (by omega) (by omega)), trivial⟩ ?_
    refine AWP.seq ?_
    refine e0 [2, 4, 8, 12, 58] [4] (by kernel_rfl) ?_
    refine AWP.condF (by kernel_rfl) ?_
    refine AWP.skip ?_
    refine AWP.seq ?_
    refine e1 (os := [i64 (IntKind.wrap IntKind.i64 lo) = i64 lo]) [(3, ⟨some (i64 lo), none⟩)] [4, 8, 12, 67] [4] (by kernel_rfl) ⟨(wr_i64 (by omega) (by omega)), trivial⟩ ?_
    refine AWP.cond (b := decide (now < lo)) (by kernel_rfl) (fun hq3 => ?_) (fun hq3 => ?_)
    · simp only [decide_eq_true_eq] at hq3
      refine e0 [4, 8, 12] [4] (by kernel_rfl) ?_
      refine AWP.ret ?_
      refine ⟨Or.inr rfl, Eq.trans (b := some ([], i64 2)) (by kernel_rfl) ?_⟩
      (simp only [look, betw]; (repeat' split) <;> first | rfl | (simp_all; done) | (exfalso; simp_all; done) | (exfalso; simp_all; omega) | (exfalso; omega))
    simp only [decide_eq_false_iff_not] at hq3
    refine AWP.skip ?_
    refine AWP.seq ?_
    refine e1 (os := [i64 (IntKind.wrap IntKind.i64 hi) = i64 hi]) [(3, ⟨some (i64 hi), none⟩)] [8, 72] [] (by kernel_rfl) ⟨(wr_i64 (by omega) (by omega)), trivial⟩ ?_
    refine AWP.cond (b := decide (now > hi)) (by kernel_rfl) (fun hq4 => ?_) (fun hq4 => ?_)
    · simp only [decide_eq_true_eq] at hq4
      refine e0 [8] [] (by kernel_rfl) ?_
      refine AWP.ret ?_
      refine ⟨Or.inr rfl, Eq.trans (b := some ([], i64 3)) (by kernel_rfl) ?_⟩
      (simp only [look, betw]; (repeat' split) <;> first | rfl | (simp_all; done) | (exfalso; simp_all; done) | (exfalso; simp_all; omega) | (exfalso; omega))
    simp only [decide_eq_false_iff_not] at hq4
    refine AWP.skip ?_
    refine e0 [8] [] (by kernel_rfl) ?_
    refine AWP.ret ?_
    refine ⟨Or.inr rfl, Eq.trans (b := some ([], i64 1)) (by kernel_rfl) ?_⟩
    (simp only [look, betw]; (repeat' split) <;> first | rfl | (simp_all; done) | (exfalso; simp_all; done) | (exfalso; simp_all; omega) | (exfalso; omega))
  · refine Con.of (C := ⟨Tryd.prog, tc, Tryd.f12.ntmps⟩) [] tcok Tryd.func12 rfl rfl (by kernel_rfl) (by kernel_rfl) ?_
    refine e0 [1, 2, 3, 4, 8] [4] (by kernel_rfl) ?_
    refine AWP.seq ?_
    refine e1 [(1, ⟨none, some ⟨vb (cright 1 pa lo hi), [], []⟩⟩)] [1, 2, 4, 8, 23] [4] (by kernel_rfl) (AllP.c (con_rcright (1) (pa) (lo) (hi) (ma) (wa)) AllP.n) ?_
    refine AWP.cond (b := !cright 1 pa lo hi || false) (by kernel_rfl) (fun hq5 => ?_) (fun hq5 => ?_)
    · simp only [Bool.or_false, Bool.not_eq_true'] at hq5
      refine e0 [1, 2, 4, 8] [4] (by kernel_rfl) ?_
      refine AWP.ret ?_
      refine ⟨Or.inr rfl, Eq.trans (b := some ([], i64 0)) (by kernel_rfl) ?_⟩
      (simp only [look, betw]; (repeat' split) <;> first | rfl | (simp_all; done) | (exfalso; simp_all; done) | (exfalso; simp_all; omega) | (exfalso; omega))
    simp only [Bool.or_false, Bool.not_eq_false'] at hq5
    refine AWP.skip ?_
    refine AWP.seq ?_
    refine e0 [1, 2, 4, 8, 26] [4] (by kernel_rfl) ?_
    refine AWP.condT (by kernel_rfl) ?_
    refine e1 (os := [u32 (IntKind.wrap IntKind.u32 now) = u32 (now % 4294967296), u64 (IntKind.wrap IntKind.u64 (now % 4294967296)) = u64 (now % 4294967296), u64 (IntKind.wrap IntKind.u64 wa) = u64 wa]) [(1, ⟨some (u32 (now % 4294967296)), none⟩), (2, ⟨some (u64 (now % 4294967296)), none⟩), (5, ⟨some (u64 wa), none⟩)] [1, 2, 4, 8, 9, 10] [4] (by kernel_rfl) ⟨wm_u32, (wr_u64 (by omega) (by omega)), (wr_u64 (by omega) (by omega)), trivial⟩ ?_
    refine AWP.seq ?_
    refine e0 [1, 2, 4, 8, 9, 10, 11] [4] (by kernel_rfl) ?_
    refine AWP.block ?_
    have hok : look 1 pa lo hi ma wa now bef first = if mis now wa ma ≠ 0 then 4 else 1 := by
      unfold look
      rw [if_neg (by simp_all), if_neg (by simp), if_neg (by omega), if_neg (by omega)]
    refine AWP.loopI [1, 2, 4, 8, 9, 10, 11] [4] (fun N s' => ∃ i : Int, s' = St.mk [(1, T.plain (i32 now)), (2, T.plain (i32 bef)), (4, T.plain (V.ptr 4 0)), (8, T.plain (i64 0)), (9, T.plain (u64 (now % 4294967296))), (10, T.plain (u64 wa)), (11, T.plain (i64 i))] [(4, Blk.mk [u8 1, i64 pa, i32 lo, i32 hi, u32 ma, u32 wa] true 6 none)] ∧ (0 ≤ i ∧ i ≤ 32) ∧ (∀ j : Nat, (j : Int) < i → ¬ (ma / 2 ^ j % 2 = 1 ∧ (now % 4294967296) / 2 ^ j % 2 ≠ wa / 2 ^ j % 2)) ∧ (N : Int) = 32 - i) 32 (s0 := St.mk [(1, T.plain (i32 now)), (2, T.plain (i32 bef)), (4, T.plain (V.ptr 4 0)), (8, T.plain (i64 0)), (9, T.plain (u64 (now % 4294967296))), (10, T.plain (u64 wa)), (11, T.plain (i64 0))] [(4, Blk.mk [u8 1, i64 pa, i32 lo, i32 hi, u32 ma, u32 wa] true 6 none)]) (by kernel_rfl) ?_ ?_
    · exact ⟨0, rfl, by omega, fun j hj => by omega, by omega⟩
    rintro N s' ⟨i, rfl, hii, hj, hN⟩
    by_cases h32 : i < 32
    case neg =>
      have e : mis now wa ma = 0 := mis_zero hna hwa hma (fun j hj2 => hj j (by omega))
      rw [e] at hok
      refine AWP.seq ?_
      refine e0 [1, 2, 4, 8, 9, 10, 11, 34] [4] (by kernel_rfl) ?_
      refine AWP.cond (b := decide (i < 32)) (by kernel_rfl) (fun hq7 => ?_) (fun hq7 => ?_)
      · simp only [decide_eq_true_eq] at hq7
        (exfalso; omega)
      simp only [decide_eq_false_iff_not] at hq7
      refine AWP.exit ?_
      refine e0 [1, 2, 4, 8] [4] (by kernel_rfl) ?_
      refine AWP.ret ?_
      refine ⟨Or.inr rfl, Eq.trans (b := some ([], i64 1)) (by kernel_rfl) ?_⟩
      (rw [hok]; rfl)
    have sw1 := tshr (k := .u32) (x := ma) (i := i) (by decide) hma.1 (by omega)
    have sw2 := tshr (k := .u64) (x := now % 4294967296) (i := i) (by decide) hna.1 (by omega)
    have sw3 := tshr (k := .u64) (x := wa) (i := i) (by decide) hwa.1 (by omega)
    refine AWP.seq ?_
    refine e0 [1, 2, 4, 8, 9, 10, 11, 34] [4] (by kernel_rfl) ?_
    refine AWP.cond (b := decide (i < 32)) (by kernel_rfl) (fun hq8 => ?_) (fun hq8 => ?_)
    · simp only [decide_eq_true_eq] at hq8
      refine AWP.skip ?_
      refine AWP.seq ?_
      refine AWP.block ?_
      refine e1 (os := [(0 : Int) ≤ i, u32 (ishr IntKind.u32 ma i) = u32 (ishr IntKind.u32 ma i), (Int.tmod (ishr IntKind.u32 ma i) (2 : Int) == (1 : Int)) = true → (0 : Int) ≤ i ∧ u64 (ishr IntKind.u64 (now % (4294967296 : Int)) i) = u64 (ishr IntKind.u64 (now % (4294967296 : Int)) i) ∧ True, (Int.tmod (ishr IntKind.u32 ma i) (2 : Int) == (1 : Int)) = true → (0 : Int) ≤ i ∧ u64 (ishr IntKind.u64 wa i) = u64 (ishr IntKind.u64 wa i) ∧ True]) [(3, ⟨some (u32 (ishr IntKind.u32 ma i)), none⟩), (9, ⟨some (u64 (ishr IntKind.u64 (now % 4294967296) i)), none⟩), (13, ⟨some (u64 (ishr IntKind.u64 wa i)), none⟩)] [1, 2, 4, 8, 9, 10, 11, 53] [4] (by kernel_rfl) ⟨(by omega), rfl, (by intro hc0; first | (cases hc0; done) | (try simp only [Bool.or_false, Bool.false_or, Bool.true_and, Bool.and_true, decide_eq_true_eq, decide_eq_false_iff_not, Bool.and_eq_true, Bool.or_eq_true, Bool.or_eq_false_iff, Bool.not_eq_true', Bool.and_eq_false_iff, beq_iff_eq, bne_iff_ne, bne_eq_false_iff_eq, beq_eq_false_iff_ne, Bool.not_eq_false'] at hc0; exact ⟨(by omega), rfl, trivial⟩)), (by intro hc0; first | (cases hc0; done) | (try simp only [Bool.or_false, Bool.false_or, Bool.true_and, Bool.and_true, decide_eq_true_eq, decide_eq_false_iff_not, Bool.and_eq_true, Bool.or_eq_true, Bool.or_eq_false_iff, Bool.not_eq_true', Bool.and_eq_false_iff, beq_iff_eq, bne_iff_ne, bne_eq_false_iff_eq, beq_eq_false_iff_ne, Bool.not_eq_false'] at hc0; exact ⟨(by omega), rfl, trivial⟩)), trivial⟩ ?_
      refine AWP.cond (b := Int.tmod (ishr IntKind.u32 ma i) 2 == 1 && Int.tmod (ishr IntKind.u64 (now % 4294967296) i) 2 != Int.tmod (ishr IntKind.u64 wa i) 2) (by kernel_rfl) (fun hq9 => ?_) (fun hq9 => ?_)
      · simp only [Bool.and_eq_true, beq_iff_eq, bne_iff_ne] at hq9
        refine e0 [1, 2, 4, 8, 9, 10, 11] [4] (by kernel_rfl) ?_
        refine AWP.ret ?_
        refine ⟨Or.inr rfl, Eq.trans (b := some ([], i64 4)) (by kernel_rfl) ?_⟩
        first | (rw [sw1, sw2, sw3] at hq9; rw [hok, if_pos (mis_ne hna hwa hma i.toNat (by omega) hq9)]; done) | (rw [sw1, sw2, sw3] at hq9; exact ⟨(32 - (i + 1)).toNat, (by omega), i + 1, rfl, (by omega), (fun j hj2 => by rcases (by omega : (j : Int) < i ∨ j = i.toNat) with h | h; exact hj j h; subst h; rintro ⟨a, b⟩; exact hq9.elim (fun h => h a) (fun h => b h)), (by omega)⟩)
      simp only [Bool.and_eq_false_iff, bne_eq_false_iff_eq, beq_eq_false_iff_ne] at hq9
      refine AWP.skip ?_
      refine AWP.region tcok hmix [(1, ⟨some (i64 (i + 1)), none⟩)] (os := [i64 (IntKind.wrap IntKind.i64 (i + 1)) = i64 (i + 1)]) (sf := St.mk [(1, tp (i32 now)), (2, tp (i32 bef)), (4, tp (V.ptr 4 0)), (8, tp (i64 0)), (9, tp (u64 (now % 4294967296))), (10, tp (u64 wa)), (11, tp (i64 (i + 1))), (35, tp (i64 i)), (36, tp (i64 (i + 1))), (53, tp (vb (Int.tmod (ishr IntKind.u32 ma i) 2 == 1 && Int.tmod (ishr IntKind.u64 (now % 4294967296) i) 2 != Int.tmod (ishr IntKind.u64 wa i) 2)))] [(4, Blk.mk [u8 1, i64 pa, i32 lo, i32 hi, u32 ma, u32 wa] true 6 none)]) (by kernel_rfl) ⟨(wr_i64 (by omega) (by omega)), trivial⟩ ?_
      refine ⟨St.mk [(1, tp (i32 now)), (2, tp (i32 bef)), (4, tp (V.ptr 4 0)), (8, tp (i64 0)), (9, tp (u64 (now % 4294967296))), (10, tp (u64 wa)), (11, tp (i64 (i + 1)))] [(4, Blk.mk [u8 1, i64 pa, i32 lo, i32 hi, u32 ma, u32 wa] true 6 none)], by kernel_rfl, ?_⟩
      first | (rw [sw1, sw2, sw3] at hq9; rw [hok, if_pos (mis_ne hna hwa hma i.toNat (by omega) hq9)]; done) | (rw [sw1, sw2, sw3] at hq9; exact ⟨(32 - (i + 1)).toNat, (by omega), i + 1, rfl, (by omega), (fun j hj2 => by rcases (by omega : (j : Int) < i ∨ j = i.toNat) with h | h; exact hj j h; subst h; rintro ⟨a, b⟩; exact hq9.elim (fun h => h a) (fun h => b h)), (by omega)⟩)
    simp only [decide_eq_false_iff_not] at hq8
    (exfalso; omega)
  · refine Con.of (C := ⟨Tryd.prog, tc, Tryd.f12.ntmps⟩) [] tcok Tryd.func12 rfl rfl (by kernel_rfl) (by kernel_rfl) ?_
    refine e0 [1, 2, 3, 4, 8] [4] (by kernel_rfl) ?_
    refine AWP.seq ?_
    refine e1 [(1, ⟨none, some ⟨vb (cright 2 pa lo hi), [], []⟩⟩)] [1, 2, 4, 8, 23] [4] (by kernel_rfl) (AllP.c (con_rcright (2) (pa) (lo) (hi) (ma) (wa)) AllP.n) ?_
    refine AWP.cond (b := !cright 2 pa lo hi || true && first) (by kernel_rfl) (fun hq10 => ?_) (fun hq10 => ?_)
    · simp only [Bool.true_and, Bool.or_eq_true, Bool.not_eq_true'] at hq10
      refine e0 [1, 2, 4, 8] [4] (by kernel_rfl) ?_
      refine AWP.ret ?_
      refine ⟨Or.inr rfl, Eq.trans (b := some ([], i64 0)) (by kernel_rfl) ?_⟩
      (simp only [look, betw]; (repeat' split) <;> first | rfl | (simp_all; done) | (exfalso; simp_all; done) | (exfalso; simp_all; omega) | (exfalso; omega))
    simp only [Bool.true_and, Bool.or_eq_false_iff, Bool.not_eq_false'] at hq10
    refine AWP.skip ?_
    refine AWP.seq ?_
    refine e0 [1, 2, 4, 8, 26] [4] (by kernel_rfl) ?_
    refine AWP.condF (by kernel_rfl) ?_
    refine AWP.skip ?_
    refine e1 (os := [i64 (IntKind.wrap IntKind.i64 now) = i64 now]) [(1, ⟨some (i64 now), none⟩)] [2, 4, 8, 12] [4] (by kernel_rfl) ⟨(wr_i64 (by omega) (by omega)), trivial⟩ ?_
    refine AWP.seq ?_
    refine e0 [2, 4, 8, 12, 58] [4] (by kernel_rfl) ?_
    refine AWP.condT (by kernel_rfl) ?_
    refine g1 (os := [i64 (IntKind.wrap IntKind.i64 bef) = i64 bef, i64 (IntKind.wrap IntKind.i64 (now - bef)) = i64 (now - bef)]) [(2, ⟨some (i64 bef), none⟩), (3, ⟨some (i64 (now - bef)), none⟩)] [4, 8, 12] [4] (by kernel_rfl) ⟨(wr_i64 (by omega) (by omega)), (wr_i64 (by omega) (by omega)), trivial⟩ ?_
    refine AWP.seq ?_
    refine e1 (os := [i64 (IntKind.wrap IntKind.i64 lo) = i64 lo]) [(3, ⟨some (i64 lo), none⟩)] [4, 8, 12, 67] [4] (by kernel_rfl) ⟨(wr_i64 (by omega) (by omega)), trivial⟩ ?_
    refine AWP.cond (b := decide (now - bef < lo)) (by kernel_rfl) (fun hq13 => ?_) (fun hq13 => ?_)
    · simp only [decide_eq_true_eq] at hq13
      refine e0 [4, 8, 12] [4] (by kernel_rfl) ?_
      refine AWP.ret ?_
      refine ⟨Or.inr rfl, Eq.trans (b := some ([], i64 2)) (by kernel_rfl) ?_⟩
      (simp only [look, betw]; (repeat' split) <;> first | rfl | (simp_all; done) | (exfalso; simp_all; done) | (exfalso; simp_all; omega) | (exfalso; omega))
    simp only [decide_eq_false_iff_not] at hq13
    refine AWP.skip ?_
    refine AWP.seq ?_
    refine e1 (os := [i64 (IntKind.wrap IntKind.i64 hi) = i64 hi]) [(3, ⟨some (i64 hi), none⟩)] [8, 72] [] (by kernel_rfl) ⟨(wr_i64 (by omega) (by omega)), trivial⟩ ?_
    refine AWP.cond (b := decide (now - bef > hi)) (by kernel_rfl) (fun hq14 => ?_) (fun hq14 => ?_)
    · simp only [decide_eq_true_eq] at hq14
      refine e0 [8] [] (by kernel_rfl) ?_
      refine AWP.ret ?_
      refine ⟨Or.inr rfl, Eq.trans (b := some ([], i64 3)) (by kernel_rfl) ?_⟩
      (simp only [look, betw]; (repeat' split) <;> first | rfl | (simp_all; done) | (exfalso; simp_all; done) | (exfalso; simp_all; omega) | (exfalso; omega))
    simp only [decide_eq_false_iff_not] at hq14
    refine AWP.skip ?_
    refine e0 [8] [] (by kernel_rfl) ?_
    refine AWP.ret ?_
    refine ⟨Or.inr rfl, Eq.trans (b := some ([], i64 1)) (by kernel_rfl) ?_⟩
    (simp only [look, betw]; (repeat' split) <;> first | rfl | (simp_all; done) | (exfalso; simp_all; done) | (exfalso; simp_all; omega) | (exfalso; omega))
  · have hf : cright k pa lo hi = false := by
      cases h : cright k pa lo hi with
      | false => rfl
      | true => exact absurd (hcr h) (by omega)
    refine Con.of (C := ⟨Tryd.prog, tc, Tryd.f12.ntmps⟩) [] tcok Tryd.func12 rfl rfl (by kernel_rfl) (by kernel_rfl) ?_
    refine e0 [1, 2, 3, 4, 8] [4] (by kernel_rfl) ?_
    refine AWP.seq ?_
    refine e1 [(1, ⟨none, some ⟨vb (cright k pa lo hi), [], []⟩⟩)] [1, 2, 4, 8, 23] [4] (by kernel_rfl) (AllP.c (con_rcright (k) (pa) (lo) (hi) (ma) (wa)) AllP.n) ?_
    refine AWP.cond (b := !cright k pa lo hi || k == 2 && first) (by kernel_rfl) (fun hq15 => ?_) (fun hq15 => ?_)
    · simp only [Bool.and_eq_true, Bool.or_eq_true, Bool.not_eq_true', beq_iff_eq] at hq15
      refine e0 [1, 2, 4, 8] [4] (by kernel_rfl) ?_
      refine AWP.ret ?_
      refine ⟨Or.inr rfl, Eq.trans (b := some ([], i64 0)) (by kernel_rfl) ?_⟩
      (simp only [look, betw]; (repeat' split) <;> first | rfl | (simp_all; done) | (exfalso; simp_all; done) | (exfalso; simp_all; omega) | (exfalso; omega))
    simp only [Bool.or_eq_false_iff, Bool.and_eq_false_iff, beq_eq_false_iff_ne, Bool.not_eq_false'] at hq15
    (simp_all; done)
end Go.Proofs.YtlfjnkobnkfioaaDoor
