/- Texts with their sum. -/
import Derived.Test.YtcekfepgdfcinaaGreatDoorRg
import Derived.Test.YtcekfepgdfcinaaGreatDoorTc
import Derived.Test.YtcekfepgdfcinaaGreatDoorAb24
import Derived.KernelRfl
namespace Go.Proofs.YtcekfepgdfcinaaGreatDoor
open Go Go.Ab
set_option linter.unusedSimpArgs false
set_option linter.unusedVariables false
set_option maxRecDepth 100000
theorem cut_end {l : List Int} {m i : Nat} (h : l.length ≤ i) : l.take (min i m) = l.take m := by
  rcases Nat.le_total i m with h1 | h1
  · rw [Nat.min_eq_left h1, List.take_of_length_le h, List.take_of_length_le (by omega)]
  · rw [Nat.min_eq_right h1]
theorem cut_in {l : List Int} {m i : Nat} (h : i < l.length) (h2 : i < m) : l.take (min i m) ++ [l.getD i 0] = l.take (min (i + 1) m) := by
  rw [Nat.min_eq_left (by omega), Nat.min_eq_left (by omega), List.take_add_one]
  simp [List.getD_eq_getElem?_getD, List.getElem?_eq_getElem h]
theorem cut_out {l : List Int} {m i : Nat} (h : m ≤ i) : l.take (min i m) = l.take (min (i + 1) m) := by
  rw [Nat.min_eq_right (by omega), Nat.min_eq_right (by omega)]
theorem con_cut (l : List Int) (m : Int) (hm : 0 ≤ m) (hm2 : m ≤ 1000000) (hl : l.length ≤ 9223372036854775807) : Con Tryz.prog 58 [] [.vs (u8s l) l.length, i64 m] [(5, ⟨u8s (l.take m.toNat), true, 0, some (5, 1)⟩)] (.sl 5 0 (l.take m.toNat).length) := by
  refine Con.of (C := ⟨Tryz.prog, tc, Tryz.f58.ntmps⟩) [5] tcok Tryz.func58 rfl rfl (by kernel_rfl) (by kernel_rfl) ?_
  refine xe0 [0, 1, 4] [4] (by kernel_rfl) ?_
  refine xe0 [0, 1, 4, 5] [4, 5] (by kernel_rfl) ?_
  refine AWP.seq ?_
  refine xe0 [1, 4, 5, 8, 9, 10] [4, 5] (by kernel_rfl) ?_
  refine AWP.block ?_
  refine AWP.loopI [1, 4, 5, 8, 9, 10] [4, 5] (fun N s => ∃ (i : Int) (o : List Int), s = St.mk [(1, T.plain (i64 m)), (4, T.plain (V.sl 4 0 0)), (5, T.plain (V.sl 5 0 o.length)), (8, T.plain (V.vs (u8s l) (List.length l))), (9, T.plain (i64 (List.length l))), (10, T.plain (i64 i))] [(4, Blk.mk [] true 0 (some (5, 1))), (5, Blk.mk (u8s o) true 0 (some (5, 1)))]
      ∧ o = l.take (min i.toNat m.toNat) ∧ 0 ≤ i ∧ (N : Int) = l.length - i) l.length (s0 := St.mk [(1, T.plain (i64 m)), (4, T.plain (V.sl 4 0 0)), (5, T.plain (V.sl 5 0 0)), (8, T.plain (V.vs (u8s l) (List.length l))), (9, T.plain (i64 (List.length l))), (10, T.plain (i64 0))] [(4, Blk.mk [] true 0 (some (5, 1))), (5, Blk.mk [] true 0 (some (5, 1)))]) (by kernel_rfl) ?_ ?_
  · exact ⟨0, [], rfl, by simp, by omega, by omega⟩
  rintro N s ⟨i, o, rfl, ho, hi, hN⟩
  have kx := u8s_at l i.toNat
  have hol : o.length ≤ 1000000 := by rw [ho, List.length_take]; omega
  refine xe0 [1, 4, 5, 8, 9, 10, 11] [4, 5] (by kernel_rfl) ?_
  refine AWP.seq ?_
  refine AWP.cond (b := decide (i < (↑(List.length l) : Int))) (by kernel_rfl) (fun hq0 => ?_) (fun hq0 => ?_)
  · simp only [decide_eq_true_eq] at hq0
    refine AWP.skip ?_
    refine AWP.seq ?_
    refine AWP.block ?_
    refine xe1 (os := [(0 : Int) ≤ i ∧ i < (↑(List.length l) : Int), V.vp (List.drop (Int.toNat i * 1) (u8s l)) = V.vp (u8 (List.getD l (Int.toNat i) 0) :: u8s (List.drop (Int.toNat i + 1) l))]) [(1, ⟨some (V.vp (u8 (List.getD l (Int.toNat i) 0) :: u8s (List.drop (Int.toNat i + 1) l))), none⟩)] [1, 4, 5, 6, 7, 8, 9, 10] [4, 5] (by kernel_rfl) ⟨(by omega), (congrArg V.vp (kx (by omega))), trivial⟩ ?_
    refine xe0 [1, 4, 5, 7, 8, 9, 10, 17] [4, 5] (by kernel_rfl) ?_
    refine AWP.cond (b := decide (i < m)) (by kernel_rfl) (fun hq1 => ?_) (fun hq1 => ?_)
    · simp only [decide_eq_true_eq] at hq1
      refine AWP.region tcok hmix [(3, ⟨some (V.tup [V.agg true (u8s (o ++ [List.getD l (Int.toNat i) 0])), V.sl 0 0 (List.length (o ++ [List.getD l (Int.toNat i) 0]))]), none⟩)] (os := [(1 : Nat) ≤ (1 : Nat), List.length o * (1 : Nat) = List.length (u8s o), List.length o + (1 : Nat) ≤ (9223372036854775807 : Nat), (List.length o + (1 : Nat)) * (1 : Nat) ≤ (140737488355328 : Nat), u8s o ++ List.take ((1 : Nat) * (1 : Nat)) (List.drop (0 : Nat) [u8 (List.getD l (Int.toNat i) (0 : Int))]) = u8s (o ++ [List.getD l (Int.toNat i) (0 : Int)]), List.length o + (1 : Nat) = List.length (o ++ [List.getD l (Int.toNat i) (0 : Int)])]) (sf := St.mk [(1, tp (i64 m)), (4, tp (V.sl 4 0 0)), (5, tp (V.sl 5 0 (List.length (o ++ [List.getD l (Int.toNat i) 0])))), (7, tp (u8 (List.getD l (Int.toNat i) 0))), (8, tp (B8 l)), (9, tp (i64 (↑(List.length l) : Int))), (10, tp (i64 i)), (17, tp (vb (decide (i < m)))), (18, tp V.top), (19, tp (u8 (List.getD l (Int.toNat i) 0))), (20, tp (V.sl 20 0 1)), (21, tp (V.sl 5 0 (List.length (o ++ [List.getD l (Int.toNat i) 0]))))] [(4, Blk.mk [] true 0 (some (5, 1))), (5, Blk.mk (u8s (o ++ [List.getD l (Int.toNat i) 0])) true 0 (some (5, 1))), (20, Blk.mk [u8 (List.getD l (Int.toNat i) 0)] true 0 (some (5, 1)))]) (by kernel_rfl) ⟨(by omega), (by (simp [len_u8s]; done)), (by omega), (by omega), (by first | rfl | (show u8s (o) ++ _ = _; simp only [u8s_drop, u8s_take, List.drop_zero, Nat.mul_one, Nat.one_mul, u8s_app, List.take_length, List.nil_append, List.append_nil]; done) | (simp [u8s]; done) | (simp [u8s]; omega)), (by (simp [len_u8s]; done)), trivial⟩ ?_
      refine AWP.keep' [1, 4, 5, 8, 9, 10] [4, 5] (sf := St.mk [(1, tp (i64 m)), (4, tp (V.sl 4 0 0)), (5, tp (V.sl 5 0 (List.length (o ++ [List.getD l (Int.toNat i) 0])))), (8, tp (B8 l)), (9, tp (i64 (↑(List.length l) : Int))), (10, tp (i64 i))] [(4, Blk.mk [] true 0 (some (5, 1))), (5, Blk.mk (u8s (o ++ [List.getD l (Int.toNat i) 0])) true 0 (some (5, 1)))]) (by kernel_rfl) ?_
      refine AWP.region tcok hmix [(0, ⟨some (i64 (i + 1)), none⟩)] (os := [i64 (IntKind.wrap IntKind.i64 (i + 1)) = i64 (i + 1)]) (sf := St.mk [(1, tp (i64 m)), (4, tp (V.sl 4 0 0)), (5, tp (V.sl 5 0 (List.length (o ++ [List.getD l (Int.toNat i) 0])))), (8, tp (B8 l)), (9, tp (i64 (↑(List.length l) : Int))), (10, tp (i64 (i + 1))), (22, tp (i64 (i + 1)))] [(4, Blk.mk [] true 0 (some (5, 1))), (5, Blk.mk (u8s (o ++ [List.getD l (Int.toNat i) 0])) true 0 (some (5, 1)))]) (by kernel_rfl) ⟨(wr_i64 (by omega) (by omega)), trivial⟩ ?_
      refine ⟨St.mk [(1, tp (i64 m)), (4, tp (V.sl 4 0 0)), (5, tp (V.sl 5 0 (List.length (o ++ [List.getD l (Int.toNat i) 0])))), (8, tp (B8 l)), (9, tp (i64 (↑(List.length l) : Int))), (10, tp (i64 (i + 1)))] [(4, Blk.mk [] true 0 (some (5, 1))), (5, Blk.mk (u8s (o ++ [List.getD l (Int.toNat i) 0])) true 0 (some (5, 1)))], by kernel_rfl, ?_⟩
      first | (have e := ho.trans (cut_end (by omega)); rw [e]; done) | (exact ⟨(l.length - (i + 1)).toNat, (by omega), i + 1, _, rfl, (by rw [ho, show (i + 1).toNat = i.toNat + 1 by omega]; exact cut_in (by omega) (by omega)), (by omega), (by omega)⟩) | (exact ⟨(l.length - (i + 1)).toNat, (by omega), i + 1, _, rfl, (by rw [ho, show (i + 1).toNat = i.toNat + 1 by omega]; exact cut_out (by omega)), (by omega), (by omega)⟩)
    simp only [decide_eq_false_iff_not] at hq1
    refine AWP.skip ?_
    refine AWP.region tcok hmix [(0, ⟨some (i64 (i + 1)), none⟩)] (os := [i64 (IntKind.wrap IntKind.i64 (i + 1)) = i64 (i + 1)]) (sf := St.mk [(1, tp (i64 m)), (4, tp (V.sl 4 0 0)), (5, tp (V.sl 5 0 (List.length o))), (7, tp (u8 (List.getD l (Int.toNat i) 0))), (8, tp (B8 l)), (9, tp (i64 (↑(List.length l) : Int))), (10, tp (i64 (i + 1))), (17, tp (vb (decide (i < m)))), (22, tp (i64 (i + 1)))] [(4, Blk.mk [] true 0 (some (5, 1))), (5, Blk.mk (u8s o) true 0 (some (5, 1)))]) (by kernel_rfl) ⟨(wr_i64 (by omega) (by omega)), trivial⟩ ?_
    refine ⟨St.mk [(1, tp (i64 m)), (4, tp (V.sl 4 0 0)), (5, tp (V.sl 5 0 (List.length o))), (8, tp (B8 l)), (9, tp (i64 (↑(List.length l) : Int))), (10, tp (i64 (i + 1)))] [(4, Blk.mk [] true 0 (some (5, 1))), (5, Blk.mk (u8s o) true 0 (some (5, 1)))], by kernel_rfl, ?_⟩
    first | (have e := ho.trans (cut_end (by omega)); rw [e]; done) | (exact ⟨(l.length - (i + 1)).toNat, (by omega), i + 1, _, rfl, (by rw [ho, show (i + 1).toNat = i.toNat + 1 by omega]; exact cut_in (by omega) (by omega)), (by omega), (by omega)⟩) | (exact ⟨(l.length - (i + 1)).toNat, (by omega), i + 1, _, rfl, (by rw [ho, show (i + 1).toNat = i.toNat + 1 by omega]; exact cut_out (by omega)), (by omega), (by omega)⟩)
  simp only [decide_eq_false_iff_not] at hq0
  refine AWP.exit ?_
  refine AWP.seq ?_
  refine AWP.keep' [5] [5] (sf := St.mk [(5, tp (V.sl 5 0 (List.length o)))] [(5, Blk.mk (u8s o) true 0 (some (5, 1)))]) (by kernel_rfl) ?_
  refine xg0 [4] [5] (by kernel_rfl) ?_
  refine AWP.ret ?_
  refine ⟨Or.inr rfl, Eq.trans (b := some ([(5, Blk.mk (u8s o) true 0 (some (5, 1)))], V.sl 5 0 (List.length o))) (by kernel_rfl) ?_⟩
  first | (have e := ho.trans (cut_end (by omega)); rw [e]; done) | (exact ⟨(l.length - (i + 1)).toNat, (by omega), i + 1, _, rfl, (by rw [ho, show (i + 1).toNat = i.toNat + 1 by omega]; exact cut_in (by omega) (by omega)), (by omega), (by omega)⟩) | (exact ⟨(l.length - (i + 1)).toNat, (by omega), i + 1, _, rfl, (by rw [ho, show (i + 1).toNat = i.toNat + 1 by omega]; exact cut_out (by omega)), (by omega), (by omega)⟩)
end Go.Proofs.YtcekfepgdfcinaaGreatDoor

namespace Go.Proofs.YtcekfepgdfcinaaGreatDoor
namespace Crc

/-- One bit: the sum is shifted, and turned by the polynomial if a bit went out. -/
def rnd (x : Nat) : Nat := (x * 2 % 65536) ^^^ (x / 32768 * 4129 % 65536)
def rnds : Nat → Nat → Nat
  | 0, x => x
  | k + 1, x => rnd (rnds k x)
def step (s b : Nat) : Nat := rnds 8 (s ^^^ (b * 256))
theorem rnd_lt (x : Nat) : rnd x < 65536 := Nat.xor_lt_two_pow (n := 16) (by omega) (by omega)
theorem rnds_lt (k x : Nat) (h : x < 65536) : rnds k x < 65536 := by
  cases k with
  | zero => exact h
  | succ k => exact rnd_lt _
theorem mix_lt (s b : Nat) (hs : s < 65536) (hb : b < 256) : s ^^^ (b * 256) < 65536 := Nat.xor_lt_two_pow (n := 16) (by omega) (by omega)
theorem step_lt (s b : Nat) : step s b < 65536 := rnd_lt _
/-- The sum of a text, from a sum on. -/
def run (s : Nat) (l : List UInt8) : Nat := l.foldl (fun s b => step s b.toNat) s
def sum (l : List UInt8) : Nat := run 65535 l
/-! The rounds are linear. -/
theorem mul2_xor (x y : Nat) : (x ^^^ y) * 2 % 65536 = (x * 2 % 65536) ^^^ (y * 2 % 65536) := by
  apply Nat.eq_of_testBit_eq
  intro i
  rw [show (65536 : Nat) = 2 ^ 16 from rfl, Nat.testBit_xor]
  simp only [Nat.testBit_mod_two_pow]
  have h (z : Nat) : (z * 2).testBit i = (decide (1 ≤ i) && z.testBit (i - 1)) := by
    have := Nat.testBit_mul_two_pow z i 1
    simpa using this
  rw [h, h, h, Nat.testBit_xor]
  cases decide (i < 16) <;> cases decide (1 ≤ i) <;> simp
theorem div_xor (x y : Nat) : (x ^^^ y) / 32768 = (x / 32768) ^^^ (y / 32768) := by
  have := Nat.xor_div_two_pow (a := x) (b := y) (n := 15)
  simpa using this
theorem rnd_xor (x y : Nat) (hx : x < 65536) (hy : y < 65536) : rnd (x ^^^ y) = rnd x ^^^ rnd y := by
  unfold rnd
  rw [mul2_xor, div_xor]
  have h1 : x / 32768 = 0 ∨ x / 32768 = 1 := by omega
  have h2 : y / 32768 = 0 ∨ y / 32768 = 1 := by omega
  rcases h1 with h1 | h1 <;> rcases h2 with h2 | h2 <;> rw [h1, h2]
  · simp
  · simp [Nat.xor_assoc]
  · simp only [Nat.xor_zero, Nat.zero_mul, Nat.zero_mod, Nat.one_mul]
    rw [Nat.xor_assoc, Nat.xor_comm (y * 2 % 65536), ← Nat.xor_assoc]
  · simp only [Nat.xor_self, Nat.zero_mul, Nat.zero_mod, Nat.one_mul, Nat.xor_zero]
    rw [Nat.xor_assoc, Nat.xor_comm (4129 % 65536), Nat.xor_assoc, Nat.xor_self, Nat.xor_zero]
theorem rnds_xor (k x y : Nat) (hx : x < 65536) (hy : y < 65536) : rnds k (x ^^^ y) = rnds k x ^^^ rnds k y := by
  induction k with
  | zero => rfl
  | succ k ih => simp only [rnds]; rw [ih, rnd_xor _ _ (rnds_lt _ _ hx) (rnds_lt _ _ hy)]
theorem rnds_low : ∀ b < 256, rnds 8 b = b * 256 := by decide +kernel

/-! The table. -/
def tab (i : Nat) : Nat := step 0 i
theorem tab_lt (i : Nat) : tab i < 65536 := step_lt _ _
theorem split_byte (s : Nat) : s = (s / 256 * 256) ^^^ (s % 256) := by
  apply Nat.eq_of_testBit_eq
  intro i
  rw [Nat.testBit_xor, show (256 : Nat) = 2 ^ 8 from rfl]
  simp only [Nat.testBit_mod_two_pow, Nat.testBit_mul_two_pow, Nat.testBit_div_two_pow]
  by_cases h : i < 8
  · simp [h, show ¬ 8 ≤ i by omega]
  · simp [h, show 8 ≤ i by omega]
theorem mul_xor (a b : Nat) : (a ^^^ b) * 256 = (a * 256) ^^^ (b * 256) := by
  have := Nat.shiftLeft_xor_distrib (a := a) (b := b) (i := 8)
  simpa [Nat.shiftLeft_eq] using this
/-- One byte, by the table. -/
theorem step_tab (s b : Nat) (hs : s < 65536) (hb : b < 256) : step s b = (s * 256 % 65536) ^^^ tab (s / 256 ^^^ b) := by
  have hx : s / 256 ^^^ b < 256 := Nat.xor_lt_two_pow (n := 8) (by omega) (by omega)
  have e1 : s ^^^ (b * 256) = ((s / 256 ^^^ b) * 256) ^^^ (s % 256) := by
    conv => lhs; rw [split_byte s]
    rw [mul_xor, Nat.xor_assoc, Nat.xor_comm (s % 256), ← Nat.xor_assoc]
  unfold step tab step
  generalize s / 256 ^^^ b = h at *
  have e2 : s * 256 % 65536 = s % 256 * 256 := by omega
  rw [e1, rnds_xor _ _ _ (by omega) (by omega), rnds_low (s % 256) (by omega), Nat.zero_xor, e2, Nat.xor_comm]

end Crc
end Go.Proofs.YtcekfepgdfcinaaGreatDoor

namespace Go.Proofs.YtcekfepgdfcinaaGreatDoor
open Go.Ab
set_option linter.unusedSimpArgs false
set_option linter.unusedVariables false
set_option maxRecDepth 100000
theorem ixor_u16_n {a b : Int} (ha : 0 ≤ a ∧ a < 65536) (hb : 0 ≤ b ∧ b < 65536) : ixor .u16 a b = ((a.toNat ^^^ b.toNat : Nat) : Int) := by
  have hx : a.toNat ^^^ b.toNat < 65536 := Nat.xor_lt_two_pow (n := 16) (by omega) (by omega)
  unfold ixor
  rw [BitVec.toNat_xor, ofInt_nat ha.1 (by show a < 2 ^ 16; omega), ofInt_nat hb.1 (by show b < 2 ^ 16; omega), IntWalk.u16_in _ ⟨by omega, by omega⟩]
theorem ixor_u8_n {a b : Int} (ha : 0 ≤ a ∧ a < 256) (hb : 0 ≤ b ∧ b < 256) : ixor .u8 a b = ((a.toNat ^^^ b.toNat : Nat) : Int) := by
  have hx : a.toNat ^^^ b.toNat < 256 := Nat.xor_lt_two_pow (n := 8) (by omega) (by omega)
  unfold ixor
  rw [BitVec.toNat_xor, ofInt_nat ha.1 (by show a < 2 ^ 8; omega), ofInt_nat hb.1 (by show b < 2 ^ 8; omega), IntWalk.u8_in _ ⟨by omega, by omega⟩]
def istep (s b : Int) : Int := (Crc.step s.toNat b.toNat : Nat)
theorem istep_bd (s b : Int) : 0 ≤ istep s b ∧ istep s b < 65536 := by
  have := Crc.step_lt s.toNat b.toNat
  unfold istep
  omega
def irun (s : Int) (l : List Int) : Int := l.foldl istep s
theorem irun_bd {s : Int} (l : List Int) (h : 0 ≤ s ∧ s < 65536) : 0 ≤ irun s l ∧ irun s l < 65536 := by
  induction l generalizing s with
  | nil => exact h
  | cons b l ih => exact ih (istep_bd _ _)
theorem irun_app (s : Int) (l m : List Int) : irun s (l ++ m) = irun (irun s l) m := by simp [irun]
theorem irun_take {s : Int} {l : List Int} {i : Nat} (h : i < l.length) : irun s (l.take (i + 1)) = istep (irun s (l.take i)) (l.getD i 0) := by
  rw [List.take_add_one, List.getElem?_eq_getElem h, irun_app, List.getD_eq_getElem?_getD, List.getElem?_eq_getElem h]
  rfl
def isum (l : List Int) : Int := irun 65535 l
theorem isum_bd (l : List Int) : 0 ≤ isum l ∧ isum l < 65536 := irun_bd l (by omega)
theorem irnd {n : Nat} (h : n < 65536) : ixor .u16 ((n : Int) * 2 % 65536) ((n : Int) / 32768 * 4129) = (Crc.rnd n : Nat) := by
  rw [ixor_u16_n ⟨by omega, by omega⟩ ⟨by omega, by omega⟩]
  unfold Crc.rnd
  rw [show ((n : Int) * 2 % 65536).toNat = n * 2 % 65536 by omega, show ((n : Int) / 32768 * 4129).toNat = n / 32768 * 4129 % 65536 by omega]
theorem con_step (s b : Int) (hs : 0 ≤ s ∧ s < 65536) (hb : 0 ≤ b ∧ b < 256) : Con Tryz.prog 276 [] [u16 s, u8 b] [] (u16 (istep s b)) := by
  refine Con.of (C := ⟨Tryz.prog, tc, Tryz.f276.ntmps⟩) [] tcok Tryz.func276 rfl rfl (by kernel_rfl) (by kernel_rfl) ?_
  refine xe0 [0, 1, 4] [] (by kernel_rfl) ?_
  refine xe1 (os := [u16 (IntKind.wrap IntKind.u16 b) = u16 b, (0 : Int) ≤ (8 : Int), u16 (ishl IntKind.u16 b 8) = u16 (b * 256)]) [(2, ⟨some (u16 b), none⟩), (3, ⟨some (u16 (b * 256)), none⟩)] [0, 4] [] (by kernel_rfl) ⟨(wr_u16 (by omega) (by omega)), (by omega), (shl_u16 rfl (by omega) (by omega)), trivial⟩ ?_
  refine AWP.seq ?_
  refine xe0 [0, 4, 11] [] (by kernel_rfl) ?_
  refine AWP.block ?_
  have e : ixor .u16 s (b * 256) = ((s.toNat ^^^ b.toNat * 256 : Nat) : Int) := by
    rw [ixor_u16_n ⟨by omega, by omega⟩ ⟨by omega, by omega⟩, show (b * 256).toNat = b.toNat * 256 by omega]
  refine AWP.loopI [0, 4, 11] [] (fun N s' => ∃ (x : Nat) (y i : Int), s' = St.mk [(0, T.plain (u16 x)), (4, T.plain (u16 y)), (11, T.plain (i64 i))] []
      ∧ x = Crc.rnds i.toNat (s.toNat ^^^ b.toNat * 256) ∧ x < 65536 ∧ 0 ≤ i ∧ i ≤ 8 ∧ (N : Int) = 8 - i) 8 (s0 := St.mk [(0, T.plain (u16 (ixor IntKind.u16 s (b * 256)))), (4, T.plain (u16 0)), (11, T.plain (i64 0))] []) (by kernel_rfl) ?_ ?_
  · exact ⟨s.toNat ^^^ b.toNat * 256, 0, 0, by rw [e], rfl, Crc.mix_lt _ _ (by omega) (by omega), by omega, by omega, by omega⟩
  rintro N s' ⟨x, y, i, rfl, hx, hx2, hi, hi2, hN⟩
  refine xe0 [0, 4, 11, 12] [] (by kernel_rfl) ?_
  refine AWP.seq ?_
  refine AWP.cond (b := decide (i < 8)) (by kernel_rfl) (fun hq0 => ?_) (fun hq0 => ?_)
  · simp only [decide_eq_true_eq] at hq0
    refine AWP.skip ?_
    refine AWP.seq ?_
    refine AWP.block ?_
    refine xe1 (os := [(0 : Int) ≤ (15 : Int), u16 (ishr IntKind.u16 (↑x : Int) 15) = u16 ((↑x : Int) / 32768)]) [(1, ⟨some (u16 ((↑x : Int) / 32768)), none⟩)] [0, 4, 5, 11] [] (by kernel_rfl) ⟨(by omega), (shr_eq rfl (by decide)), trivial⟩ ?_
    refine AWP.region tcok hmix [(1, ⟨some (u16 ((↑x : Int) * 2 % 65536)), none⟩), (3, ⟨some (u16 ((↑x : Int) / 32768 * 4129)), none⟩)] (os := [(0 : Int) ≤ (1 : Int), u16 (ishl IntKind.u16 (↑x : Int) 1) = u16 ((↑x : Int) * 2 % 65536), u16 (IntKind.wrap IntKind.u16 ((↑x : Int) / 32768 * 4129)) = u16 ((↑x : Int) / 32768 * 4129)]) (sf := St.mk [(0, tp (u16 (ixor IntKind.u16 ((↑x : Int) * 2 % 65536) ((↑x : Int) / 32768 * 4129)))), (4, tp (u16 y)), (5, tp (u16 ((↑x : Int) / 32768))), (11, tp (i64 i)), (15, tp (u16 (↑x : Int))), (16, tp (u16 ((↑x : Int) * 2 % 65536))), (17, tp (u16 ((↑x : Int) / 32768))), (18, tp (u16 ((↑x : Int) / 32768 * 4129))), (19, tp (u16 (ixor IntKind.u16 ((↑x : Int) * 2 % 65536) ((↑x : Int) / 32768 * 4129))))] []) (by kernel_rfl) ⟨(by omega), (shm_u16 rfl), (wr_u16 (by omega) (by omega)), trivial⟩ ?_
    refine AWP.keep' [0, 4, 11] [] (sf := St.mk [(0, tp (u16 (ixor IntKind.u16 ((↑x : Int) * 2 % 65536) ((↑x : Int) / 32768 * 4129)))), (4, tp (u16 y)), (11, tp (i64 i))] []) (by kernel_rfl) ?_
    refine AWP.region tcok hmix [(0, ⟨some (i64 (i + 1)), none⟩)] (os := [i64 (IntKind.wrap IntKind.i64 (i + 1)) = i64 (i + 1)]) (sf := St.mk [(0, tp (u16 (ixor IntKind.u16 ((↑x : Int) * 2 % 65536) ((↑x : Int) / 32768 * 4129)))), (4, tp (u16 y)), (11, tp (i64 (i + 1))), (20, tp (i64 (i + 1)))] []) (by kernel_rfl) ⟨(wr_i64 (by omega) (by omega)), trivial⟩ ?_
    refine ⟨St.mk [(0, tp (u16 (ixor IntKind.u16 ((↑x : Int) * 2 % 65536) ((↑x : Int) / 32768 * 4129)))), (4, tp (u16 y)), (11, tp (i64 (i + 1)))] [], by kernel_rfl, ?_⟩
    first | (obtain rfl : i = 8 := (by omega); rw [hx]; rfl) | (exact ⟨(8 - (i + 1)).toNat, (by omega), Crc.rnd x, _, i + 1, (by rw [irnd hx2]), (by rw [hx, show (i + 1).toNat = i.toNat + 1 by omega]; rfl), Crc.rnd_lt _, (by omega), (by omega), (by omega)⟩)
  simp only [decide_eq_false_iff_not] at hq0
  refine AWP.exit ?_
  refine xe0 [4] [] (by kernel_rfl) ?_
  refine AWP.ret ?_
  refine ⟨Or.inr rfl, Eq.trans (b := some ([], u16 (↑x : Int))) (by kernel_rfl) ?_⟩
  first | (obtain rfl : i = 8 := (by omega); rw [hx]; rfl) | (exact ⟨(8 - (i + 1)).toNat, (by omega), Crc.rnd x, _, i + 1, (by rw [irnd hx2]), (by rw [hx, show (i + 1).toNat = i.toNat + 1 by omega]; rfl), Crc.rnd_lt _, (by omega), (by omega), (by omega)⟩)
/-- What is in a table. -/
def TabOk (tv : List V) : Prop := tv.length = 256 ∧ ∀ k, k < 256 → gI tv k = u16 (Crc.tab k : Nat)
def tabTo (k : Nat) : List V := (List.range k).map (fun k => u16 (Crc.tab k : Nat)) ++ List.replicate (256 - k) (u16 0)
theorem tabTo_len {k : Nat} (h : k ≤ 256) : (tabTo k).length = 256 := by simp [tabTo]; omega
theorem tabTo_set {k : Nat} (h : k < 256) : (tabTo k).set k (u16 (istep 0 k)) = tabTo (k + 1) := by
  unfold tabTo
  rw [List.set_append, if_neg (by simp), show 256 - k = (256 - (k + 1)) + 1 by omega, List.replicate_succ, List.range_succ, List.map_append, List.append_assoc]
  simp [istep, Crc.tab]
theorem tab_next {cs : List V} {i : Int} (hcs : cs = tabTo i.toNat) (h0 : 0 ≤ i) (h1 : i < 256) : putC (1 == 1) cs (0 + i.toNat * 1) [u16 (istep 0 i)] = tabTo (i + 1).toNat := by
  have := tabTo_set (k := i.toNat) (by omega)
  rw [show ((i.toNat : Nat) : Int) = i by omega, ← hcs] at this
  rw [show (i + 1).toNat = i.toNat + 1 by omega, show 0 + i.toNat * 1 = i.toNat by omega]
  exact this
theorem tab_all {cs : List V} {i : Int} (hcs : cs = tabTo i.toNat) (h0 : 256 ≤ i) (h1 : i ≤ 256) : cs = (List.range 256).map fun k => u16 (Crc.tab k : Nat) := by
  obtain rfl : i = 256 := by omega
  rw [hcs]
  show tabTo 256 = _
  unfold tabTo
  rw [Nat.sub_self, List.replicate_zero, List.append_nil]
def tabV : List V := (List.range 256).map fun k => u16 (Crc.tab k : Nat)
theorem tabV_ok : TabOk tabV := ⟨by simp [tabV], fun k hk => by simp [tabV, gI, hk]⟩
theorem con_makeE : Con Tryz.prog 217 [] [] [] (.agg true tabV) := by
  unfold tabV
  have fdn0 : List.replicate 256 (u16 0) = List.replicate 256 (u16 0) := rfl
  refine Con.of (C := ⟨Tryz.prog, tc, Tryz.f217.ntmps⟩) [] tcok Tryz.func217 rfl rfl (by kernel_rfl) (by kernel_rfl) ?_
  refine xe0 [0] [0] (by kernel_rfl) ?_
  refine xe0 [0, 1] [0, 1] (by kernel_rfl) ?_
  refine AWP.seq ?_
  refine xe0 [0, 1, 3] [0, 1] (by kernel_rfl) ?_
  refine AWP.block ?_
  refine AWP.loopI [0, 1, 3] [0, 1] (fun N s' => ∃ (cs : List V) (i : Int), s' = St.mk [(0, T.plain (V.ptr 0 0)), (1, T.plain (V.ptr 1 0)), (3, T.plain (i64 i))] [(0, Blk.mk (List.replicate 256 (u16 0)) true 256 none), (1, Blk.mk cs true 256 none)]
      ∧ cs = tabTo i.toNat ∧ 0 ≤ i ∧ i ≤ 256 ∧ (N : Int) = 256 - i) 256 (s0 := St.mk [(0, T.plain (V.ptr 0 0)), (1, T.plain (V.ptr 1 0)), (3, T.plain (i64 0))] [(0, Blk.mk (List.replicate 256 (u16 0)) true 256 none), (1, Blk.mk (List.replicate 256 (u16 0)) true 256 none)]) (by kernel_rfl) ?_ ?_
  · exact ⟨_, 0, rfl, rfl, by omega, by omega, by omega⟩
  rintro N s' ⟨cs, i, rfl, hcs, hi, hi2, hN⟩
  have hl : cs.length = 256 := by rw [hcs]; exact tabTo_len (by omega)
  refine xe0 [0, 1, 3, 4] [0, 1] (by kernel_rfl) ?_
  refine AWP.seq ?_
  refine AWP.cond (b := decide (i < 256)) (by kernel_rfl) (fun hq1 => ?_) (fun hq1 => ?_)
  · simp only [decide_eq_true_eq] at hq1
    refine AWP.skip ?_
    refine AWP.seq ?_
    refine AWP.block ?_
    refine xe0 [0, 1, 2, 3] [0, 1] (by kernel_rfl) ?_
    refine AWP.region tcok hmix [(2, ⟨some (u8 i), none⟩), (3, ⟨none, some ⟨u16 (istep 0 i), [], []⟩⟩), (4, ⟨some (V.ptr 1 (0 + Int.toNat i * 1)), none⟩), (5, ⟨some V.top, none⟩)] (os := [u8 (IntKind.wrap IntKind.u8 i) = u8 i, Con Tryz.prog 276 [] [u16 0, u8 i] [] (u16 (istep 0 i)), (0 : Int) ≤ i ∧ i < (↑(256 : Nat) : Int), V.ptr 1 (0 + Int.toNat i * 1) = V.ptr 1 (0 + Int.toNat i * 1), (1 : Nat) = (1 : Nat), (0 : Nat) + Int.toNat i * (1 : Nat) + (1 : Nat) ≤ List.length cs]) (sf := St.mk [(0, tp (V.ptr 0 0)), (1, tp (V.ptr 1 0)), (2, tp (i64 i)), (3, tp (i64 i)), (6, tp (i64 i)), (7, tp (i64 i)), (8, tp (u8 i)), (9, tp (u16 (istep 0 i))), (10, tp (V.ptr 1 (0 + Int.toNat i * 1)))] [(0, Blk.mk (List.replicate 256 (u16 0)) true 256 none), (1, Blk.mk (putC (1 == 1) cs (0 + Int.toNat i * 1) [u16 (istep 0 i)]) true 256 none)]) (by kernel_rfl) ⟨(wr_u8 (by omega) (by omega)), (con_step (0) (i) (by omega) (by omega)), (by omega), rfl, (by omega), (by omega), trivial⟩ ?_
    refine AWP.keep' [0, 1, 3] [0, 1] (sf := St.mk [(0, tp (V.ptr 0 0)), (1, tp (V.ptr 1 0)), (3, tp (i64 i))] [(0, Blk.mk (List.replicate 256 (u16 0)) true 256 none), (1, Blk.mk (putC (1 == 1) cs (0 + Int.toNat i * 1) [u16 (istep 0 i)]) true 256 none)]) (by kernel_rfl) ?_
    refine AWP.region tcok hmix [(0, ⟨some (i64 (i + 1)), none⟩)] (os := [i64 (IntKind.wrap IntKind.i64 (i + 1)) = i64 (i + 1)]) (sf := St.mk [(0, tp (V.ptr 0 0)), (1, tp (V.ptr 1 0)), (3, tp (i64 (i + 1))), (11, tp (i64 (i + 1)))] [(0, Blk.mk (List.replicate 256 (u16 0)) true 256 none), (1, Blk.mk (putC (1 == 1) cs (0 + Int.toNat i * 1) [u16 (istep 0 i)]) true 256 none)]) (by kernel_rfl) ⟨(wr_i64 (by omega) (by omega)), trivial⟩ ?_
    refine ⟨St.mk [(0, tp (V.ptr 0 0)), (1, tp (V.ptr 1 0)), (3, tp (i64 (i + 1)))] [(0, Blk.mk (List.replicate 256 (u16 0)) true 256 none), (1, Blk.mk (putC (1 == 1) cs (0 + Int.toNat i * 1) [u16 (istep 0 i)]) true 256 none)], by kernel_rfl, ?_⟩
    first | (have e := tab_all hcs (by omega) hi2; rw [e]; done) | (exact ⟨(256 - (i + 1)).toNat, (by omega), _, i + 1, rfl, tab_next hcs hi (by omega), (by omega), (by omega), (by omega)⟩)
  simp only [decide_eq_false_iff_not] at hq1
  refine AWP.exit ?_
  refine xe1 (os := [List.length cs = (256 : Nat), (0 : Nat) = (0 : Nat)]) [(1, ⟨some V.top, none⟩)] [0] [0] (by kernel_rfl) ⟨(by omega), (by omega), trivial⟩ ?_
  refine AWP.ret ?_
  refine ⟨Or.inr rfl, Eq.trans (b := some ([], V.agg true cs)) (by kernel_rfl) ?_⟩
  first | (have e := tab_all hcs (by omega) hi2; rw [e]; done) | (exact ⟨(256 - (i + 1)).toNat, (by omega), _, i + 1, rfl, tab_next hcs hi (by omega), (by omega), (by omega), (by omega)⟩)
theorem con_make : ∃ tv, TabOk tv ∧ Con Tryz.prog 217 [] [] [] (.agg true tv) := ⟨tabV, tabV_ok, con_makeE⟩
theorem con_clone0 : Con Tryz.prog 79 [] [.vs (u8s []) 0] [(5, ⟨u8s [], true, 0, some (5, 1)⟩)] (.sl 5 0 0) := by
  refine Con.of (C := ⟨Tryz.prog, tc, Tryz.f79.ntmps⟩) [5] tcok Tryz.func79 rfl rfl (by kernel_rfl) (by kernel_rfl) ?_
  refine xe0 [0, 2] [2] (by kernel_rfl) ?_
  refine AWP.seq ?_
  refine xe0 [0, 2, 4] [2] (by kernel_rfl) ?_
  refine AWP.condB (by kernel_rfl) ?_ ?_
  · refine AWP.seq ?_
    refine AWP.keep' [0] [] (sf := St.mk [(0, T.plain (V.vs [] 0))] []) (by kernel_rfl) ?_
    refine xg0 [0, 2] [2] (by kernel_rfl) ?_
    refine AWP.shift 3 (s' := St.mk [(0, T.plain (V.vs [] 0)), (2, T.plain (V.sl 5 0 0))] [(5, Blk.mk [] true 0 (some (5, 1)))]) (by kernel_rfl) rfl ?_
    refine AWP.ret ?_
    refine ⟨Or.inr rfl, Eq.trans (b := some ([(5, Blk.mk [] true 0 (some (5, 1)))], V.sl 5 0 0)) (by kernel_rfl) ?_⟩
    rfl
  refine AWP.skip ?_
  refine AWP.seq ?_
  refine AWP.keep' [0] [] (sf := St.mk [(0, tp (V.vs [] 0))] []) (by kernel_rfl) ?_
  refine xg0 [2] [5] (by kernel_rfl) ?_
  refine AWP.ret ?_
  refine ⟨Or.inr rfl, Eq.trans (b := some ([(5, Blk.mk [] true 0 (some (5, 1)))], V.sl 5 0 0)) (by kernel_rfl) ?_⟩
  rfl
theorem con_clone1 (l : List Int) (h0 : 0 < l.length) (hlen : l.length ≤ 140737488355328) : Con Tryz.prog 79 [] [.vs (u8s l) l.length] [(5, ⟨u8s l, true, 0, some (5, 1)⟩)] (.sl 5 0 l.length) := by
  refine Con.of (C := ⟨Tryz.prog, tc, Tryz.f79.ntmps⟩) [5] tcok Tryz.func79 rfl rfl (by kernel_rfl) (by kernel_rfl) ?_
  refine xe0 [0, 2] [2] (by kernel_rfl) ?_
  refine AWP.seq ?_
  refine xe1 (os := [(0 : Nat) < List.length l, vb false = vb false]) [(1, ⟨some (vb false), none⟩)] [0, 2, 4] [2] (by kernel_rfl) ⟨(by omega), rfl, trivial⟩ ?_
  refine AWP.condF (by kernel_rfl) ?_
  refine AWP.skip ?_
  refine AWP.seq ?_
  refine AWP.keep' [0] [] (sf := St.mk [(0, tp (B8 l))] []) (by kernel_rfl) ?_
  refine xg1 (os := [List.length l * (1 : Nat) ≤ List.length (u8s l), (0 : Nat) = (0 : Nat), (0 : Nat) + List.length l ≤ (9223372036854775807 : Nat), ((0 : Nat) + List.length l) * (1 : Nat) ≤ (140737488355328 : Nat), [] ++ List.take (List.length l * (1 : Nat)) (u8s l) = u8s l, (0 : Nat) + List.length l = List.length l]) [(2, ⟨some (V.tup [V.agg true (u8s l), V.sl 0 0 (List.length l)]), none⟩)] [2] [5] (by kernel_rfl) ⟨(by (simp [len_u8s]; done)), (by omega), (by omega), (by omega), (by first | rfl | (show u8s ([]) ++ _ = _; simp only [u8s_drop, u8s_take, List.drop_zero, Nat.mul_one, Nat.one_mul, u8s_app, List.take_length, List.nil_append, List.append_nil]; done) | (simp [u8s]; done) | (simp [u8s]; omega)), (by omega), trivial⟩ ?_
  refine AWP.ret ?_
  refine ⟨Or.inr rfl, Eq.trans (b := some ([(5, Blk.mk (u8s l) true 0 (some (5, 1)))], V.sl 5 0 (List.length l))) (by kernel_rfl) ?_⟩
  rfl
theorem con_clone (l : List Int) (n : Nat) (hn : l.length = n) (hlen : n ≤ 140737488355328) : Con Tryz.prog 79 [] [.vs (u8s l) n] [(5, ⟨u8s l, true, 0, some (5, 1)⟩)] (.sl 5 0 n) := by
  subst hn
  cases l with
  | nil => exact con_clone0
  | cons b l => exact con_clone1 _ (by simp) hlen
theorem istep_tab {x b : Int} (hx : 0 ≤ x ∧ x < 65536) (hb : 0 ≤ b ∧ b < 256) : ixor .u16 (x * 256 % 65536) ((Crc.tab (0 + (ixor .u8 (x / 256) b).toNat * 1) : Nat) : Int) = istep x b := by
  have ht := Crc.tab_lt (0 + (ixor .u8 (x / 256) b).toNat * 1)
  rw [ixor_u16_n ⟨by omega, by omega⟩ ⟨by omega, by omega⟩, ixor_u8_n ⟨by omega, by omega⟩ hb]
  unfold istep
  rw [Crc.step_tab x.toNat b.toNat (by omega) (by omega), show (x * 256 % 65536).toNat = x.toNat * 256 % 65536 by omega, show (x / 256).toNat = x.toNat / 256 by omega]
  simp
theorem con_tsum (tv : List V) (ht : TabOk tv) (l : List Int) (n : Nat) (hn : l.length = n) (hl : BL l) (hlen : n ≤ 140737488355328) : Con Tryz.prog 282 [] [.agg true tv, .vs [.vs (u8s l) n] 1] [] (u16 (isum l)) := by
  have hl0 := ht.1
  refine Con.of (C := ⟨Tryz.prog, tc, Tryz.f282.ntmps⟩) [] tcok Tryz.func282 rfl rfl (by kernel_rfl) (by kernel_rfl) ?_
  refine xe1 (os := [List.length tv = (256 : Nat)]) [(0, ⟨some V.top, none⟩)] [1, 2, 4] [2] (by kernel_rfl) ⟨(by omega), trivial⟩ ?_
  refine xe0 [1, 2, 4, 5] [2] (by kernel_rfl) ?_
  refine AWP.seq ?_
  refine xe0 [2, 4, 5, 10, 11, 12] [2] (by kernel_rfl) ?_
  refine AWP.block ?_
  refine AWP.unroll 2 ?_
  refine xe0 [2, 4, 5, 10, 11, 12, 13] [2] (by kernel_rfl) ?_
  refine AWP.seq ?_
  refine AWP.condT (by kernel_rfl) ?_
  refine AWP.skip ?_
  refine AWP.seq ?_
  refine AWP.block ?_
  refine xe0 [2, 4, 5, 7, 10, 11, 12, 13, 14, 15] [2] (by kernel_rfl) ?_
  refine xe0 [2, 4, 5, 7, 10, 11, 12, 13, 14, 15, 16, 17, 18] [2] (by kernel_rfl) ?_
  refine AWP.block ?_
  have hwg := ht.2
  have wgt : ∀ k, k < 256 → gI tv k = u16 (Crc.tab k : Nat) := hwg
  refine AWP.loopI [2, 5, 10, 11, 12, 16, 17, 18] [2] (fun N s' => ∃ (x i : Int), s' = St.mk [(2, T.plain (V.ptr 2 0)), (5, T.plain (u16 x)), (10, T.plain (V.vs [V.vs (u8s l) n] 1)), (11, T.plain (i64 1)), (12, T.plain (i64 0)), (16, T.plain (V.vs (u8s l) n)), (17, T.plain (i64 (n : Int))), (18, T.plain (i64 i))] [(2, Blk.mk tv true 256 none)]
      ∧ x = irun 65535 (l.take i.toNat) ∧ 0 ≤ i ∧ i ≤ n ∧ (N : Int) = n - i) n (s0 := St.mk [(2, T.plain (V.ptr 2 0)), (5, T.plain (u16 65535)), (10, T.plain (V.vs [V.vs (u8s l) n] 1)), (11, T.plain (i64 1)), (12, T.plain (i64 0)), (16, T.plain (V.vs (u8s l) n)), (17, T.plain (i64 (n : Int))), (18, T.plain (i64 0))] [(2, Blk.mk tv true 256 none)]) (by kernel_rfl) ?_ ?_
  · exact ⟨65535, 0, rfl, rfl, by omega, by omega, by omega⟩
  rintro N s' ⟨x, i, rfl, hx, hi, hi2, hN⟩
  have hxb := irun_bd (s := 65535) (l.take i.toNat) (by omega)
  rw [← hx] at hxb
  have kx := u8s_at l i.toNat
  have hbb := hl.at_ i.toNat
  have hix := ixor_u8_bd (x / 256) (l.getD i.toNat 0)
  refine xe0 [2, 5, 10, 11, 12, 16, 17, 18, 19] [2] (by kernel_rfl) ?_
  refine AWP.seq ?_
  refine AWP.cond (b := decide (i < (↑n : Int))) (by kernel_rfl) (fun hq4 => ?_) (fun hq4 => ?_)
  · simp only [decide_eq_true_eq] at hq4
    refine AWP.skip ?_
    refine AWP.seq ?_
    refine AWP.block ?_
    refine xe1 (os := [(0 : Int) ≤ i ∧ i < (↑n : Int), V.vp (List.drop (Int.toNat i * 1) (u8s l)) = V.vp (u8 (List.getD l (Int.toNat i) 0) :: u8s (List.drop (Int.toNat i + 1) l))]) [(0, ⟨some (V.vp (u8 (List.getD l (Int.toNat i) 0) :: u8s (List.drop (Int.toNat i + 1) l))), none⟩)] [2, 5, 9, 10, 11, 12, 16, 17, 18, 19, 20, 21] [2] (by kernel_rfl) ⟨(by omega), (congrArg V.vp (kx (by omega))), trivial⟩ ?_
    refine AWP.region tcok hmix [(1, ⟨some (u16 (x * 256 % 65536)), none⟩), (3, ⟨some (u16 (x / 256)), none⟩), (4, ⟨some (u8 (x / 256)), none⟩), (7, ⟨some (V.ptr 2 (0 + Int.toNat (ixor IntKind.u8 (x / 256) (List.getD l (Int.toNat i) 0)) * 1)), none⟩), (8, ⟨some (u16 (↑(Crc.tab (0 + Int.toNat (ixor IntKind.u8 (x / 256) (List.getD l (Int.toNat i) 0)) * 1)) : Int)), none⟩)] (os := [(0 : Int) ≤ (8 : Int), u16 (ishl IntKind.u16 x 8) = u16 (x * 256 % 65536), (0 : Int) ≤ (8 : Int), u16 (ishr IntKind.u16 x 8) = u16 (x / 256), u8 (IntKind.wrap IntKind.u8 (x / 256)) = u8 (x / 256), (0 : Int) ≤ ixor IntKind.u8 (x / (256 : Int)) (List.getD l (Int.toNat i) (0 : Int)) ∧ ixor IntKind.u8 (x / (256 : Int)) (List.getD l (Int.toNat i) (0 : Int)) < (↑(256 : Nat) : Int), V.ptr 2 (0 + Int.toNat (ixor IntKind.u8 (x / 256) (List.getD l (Int.toNat i) 0)) * 1) = V.ptr 2 (0 + Int.toNat (ixor IntKind.u8 (x / 256) (List.getD l (Int.toNat i) 0)) * 1), (0 : Nat) + Int.toNat (ixor IntKind.u8 (x / (256 : Int)) (List.getD l (Int.toNat i) (0 : Int))) * (1 : Nat) + (1 : Nat) ≤ List.length tv, part_ true (isRow (TypeDesc.int IntKind.u16)) tv (0 + Int.toNat (ixor IntKind.u8 (x / 256) (List.getD l (Int.toNat i) 0)) * 1) 1 = u16 (↑(Crc.tab (0 + Int.toNat (ixor IntKind.u8 (x / 256) (List.getD l (Int.toNat i) 0)) * 1)) : Int)]) (sf := St.mk [(2, tp (V.ptr 2 0)), (5, tp (u16 (ixor IntKind.u16 (x * 256 % 65536) (↑(Crc.tab (0 + Int.toNat (ixor IntKind.u8 (x / 256) (List.getD l (Int.toNat i) 0)) * 1)) : Int)))), (9, tp (u8 (List.getD l (Int.toNat i) 0))), (10, tp (V.vs [V.vs (u8s l) n] 1)), (11, tp (i64 1)), (12, tp (i64 0)), (16, tp (V.vs (u8s l) n)), (17, tp (i64 (↑n : Int))), (18, tp (i64 i)), (19, tp (vb (decide (i < (↑n : Int))))), (20, tp (V.vp (u8 (List.getD l (Int.toNat i) 0) :: u8s (List.drop (Int.toNat i + 1) l)))), (21, tp (u8 (List.getD l (Int.toNat i) 0))), (22, tp (u16 x)), (23, tp (u16 (x * 256 % 65536))), (24, tp (u16 x)), (25, tp (u16 (x / 256))), (26, tp (u8 (x / 256))), (27, tp (u8 (List.getD l (Int.toNat i) 0))), (28, tp (u8 (ixor IntKind.u8 (x / 256) (List.getD l (Int.toNat i) 0)))), (29, tp (V.ptr 2 (0 + Int.toNat (ixor IntKind.u8 (x / 256) (List.getD l (Int.toNat i) 0)) * 1))), (30, tp (u16 (↑(Crc.tab (0 + Int.toNat (ixor IntKind.u8 (x / 256) (List.getD l (Int.toNat i) 0)) * 1)) : Int))), (31, tp (u16 (ixor IntKind.u16 (x * 256 % 65536) (↑(Crc.tab (0 + Int.toNat (ixor IntKind.u8 (x / 256) (List.getD l (Int.toNat i) 0)) * 1)) : Int))))] [(2, Blk.mk tv true 256 none)]) (by kernel_rfl) ⟨(by omega), (shm_u16 rfl), (by omega), (shr_eq rfl (by decide)), (wr_u8 (by omega) (by omega)), (by omega), rfl, (by omega), (wgt _ (by first | omega | (simp [len_u8s]; omega) | (simp [len_u8s]; done))), trivial⟩ ?_
    refine AWP.region tcok hmix [(0, ⟨some (i64 (i + 1)), none⟩)] (os := [i64 (IntKind.wrap IntKind.i64 (i + 1)) = i64 (i + 1)]) (sf := St.mk [(2, tp (V.ptr 2 0)), (5, tp (u16 (ixor IntKind.u16 (x * 256 % 65536) (↑(Crc.tab (0 + Int.toNat (ixor IntKind.u8 (x / 256) (List.getD l (Int.toNat i) 0)) * 1)) : Int)))), (9, tp (u8 (List.getD l (Int.toNat i) 0))), (10, tp (V.vs [V.vs (u8s l) n] 1)), (11, tp (i64 1)), (12, tp (i64 0)), (16, tp (V.vs (u8s l) n)), (17, tp (i64 (↑n : Int))), (18, tp (i64 (i + 1))), (19, tp (vb (decide (i < (↑n : Int))))), (20, tp (V.vp (u8 (List.getD l (Int.toNat i) 0) :: u8s (List.drop (Int.toNat i + 1) l)))), (21, tp (u8 (List.getD l (Int.toNat i) 0))), (22, tp (u16 x)), (23, tp (u16 (x * 256 % 65536))), (24, tp (u16 x)), (25, tp (u16 (x / 256))), (26, tp (u8 (x / 256))), (27, tp (u8 (List.getD l (Int.toNat i) 0))), (28, tp (u8 (ixor IntKind.u8 (x / 256) (List.getD l (Int.toNat i) 0)))), (29, tp (V.ptr 2 (0 + Int.toNat (ixor IntKind.u8 (x / 256) (List.getD l (Int.toNat i) 0)) * 1))), (30, tp (u16 (↑(Crc.tab (0 + Int.toNat (ixor IntKind.u8 (x / 256) (List.getD l (Int.toNat i) 0)) * 1)) : Int))), (31, tp (u16 (ixor IntKind.u16 (x * 256 % 65536) (↑(Crc.tab (0 + Int.toNat (ixor IntKind.u8 (x / 256) (List.getD l (Int.toNat i) 0)) * 1)) : Int)))), (32, tp (i64 (i + 1)))] [(2, Blk.mk tv true 256 none)]) (by kernel_rfl) ⟨(wr_i64 (by omega) (by omega)), trivial⟩ ?_
    refine ⟨St.mk [(2, tp (V.ptr 2 0)), (5, tp (u16 (ixor IntKind.u16 (x * 256 % 65536) (↑(Crc.tab (0 + Int.toNat (ixor IntKind.u8 (x / 256) (List.getD l (Int.toNat i) 0)) * 1)) : Int)))), (10, tp (V.vs [V.vs (u8s l) n] 1)), (11, tp (i64 1)), (12, tp (i64 0)), (16, tp (V.vs (u8s l) n)), (17, tp (i64 (↑n : Int))), (18, tp (i64 (i + 1)))] [(2, Blk.mk tv true 256 none)], by kernel_rfl, ?_⟩
    first | (have e : x = isum l := (by rw [hx, List.take_of_length_le (by omega)]; rfl); rw [e]; done) | (exact ⟨(n - (i + 1)).toNat, (by omega), _, i + 1, rfl, (by rw [istep_tab hxb hbb, hx, show (i + 1).toNat = i.toNat + 1 by omega]; exact (irun_take (by omega)).symm), (by omega), (by omega), (by omega)⟩)
  simp only [decide_eq_false_iff_not] at hq4
  refine AWP.exit ?_
  refine AWP.region tcok hmix [] (os := []) (sf := St.mk [(2, tp (V.ptr 2 0)), (5, tp (u16 x)), (10, tp (V.vs [V.vs (u8s l) n] 1)), (11, tp (i64 1)), (12, tp (i64 1)), (16, tp (V.vs (u8s l) n)), (17, tp (i64 (↑n : Int))), (18, tp (i64 i)), (19, tp (vb (decide (i < (↑n : Int))))), (33, tp (i64 1))] [(2, Blk.mk tv true 256 none)]) (by kernel_rfl) trivial ?_
  refine xe0 [2, 5, 10, 11, 12, 13, 16, 17, 18, 19, 33] [2] (by kernel_rfl) ?_
  refine AWP.seq ?_
  refine AWP.condF (by kernel_rfl) ?_
  refine AWP.exit ?_
  refine xe0 [4] [] (by kernel_rfl) ?_
  refine AWP.ret ?_
  refine ⟨Or.inr rfl, Eq.trans (b := some ([], u16 x)) (by kernel_rfl) ?_⟩
  first | (have e : x = isum l := (by rw [hx, List.take_of_length_le (by omega)]; rfl); rw [e]; done) | (exact ⟨(n - (i + 1)).toNat, (by omega), _, i + 1, rfl, (by rw [istep_tab hxb hbb, hx, show (i + 1).toNat = i.toNat + 1 by omega]; exact (irun_take (by omega)).symm), (by omega), (by omega), (by omega)⟩)
end Go.Proofs.YtcekfepgdfcinaaGreatDoor

namespace Go.Proofs.YtcekfepgdfcinaaGreatDoor
open Go.Ab
set_option linter.unusedSimpArgs false
set_option linter.unusedVariables false
set_option maxRecDepth 100000
end Go.Proofs.YtcekfepgdfcinaaGreatDoor

namespace Go.Proofs.YtcekfepgdfcinaaGreatDoor
open Go.Ab
set_option linter.unusedSimpArgs false
set_option linter.unusedVariables false
set_option maxRecDepth 100000
def sumB (l : List Int) : List Int := [isum l / 256, isum l % 256]
theorem con_append (tv : List V) (ht : TabOk tv) (l : List Int) (n : Nat) (hn : l.length = n) (hl : BL l) (hlen : n ≤ 100000000) : Con Tryz.prog 226 [] [.agg true tv, .vs (u8s l) n] [(120005, ⟨u8s (l ++ sumB l), true, 0, some (5, 1)⟩)] (.sl 120005 0 (n + 2)) := by
  subst hn
  have hl0 := ht.1
  have hs := isum_bd l
  refine Con.of (C := ⟨Tryz.prog, tc, Tryz.f226.ntmps⟩) [120005] tcok Tryz.func226 rfl rfl (by kernel_rfl) (by kernel_rfl) ?_
  refine xe1 (os := [List.length tv = (256 : Nat)]) [(0, ⟨some V.top, none⟩)] [1, 2, 4] [2, 4] (by kernel_rfl) ⟨(by omega), trivial⟩ ?_
  refine xe1 (os := [VO (u16 (isum l)), VOH [], Con Tryz.prog 282 [] [V.agg true tv, V.vs [B8 l] 1] [] (u16 (isum l)), (0 : Nat) = (0 : Nat), (1 : Nat) = (1 : Nat)]) [(3, ⟨none, some ⟨u16 (isum l), [], [(8, true)]⟩⟩)] [1, 4, 5] [4] (by kernel_rfl) ⟨(VO.val _), trivial, (con_tsum (tv) (by assumption) (l) (List.length l) (by omega) (by assumption) (by omega)), (by omega), (by omega), trivial⟩ ?_
  refine AWP.seq ?_
  refine AWP.keep' [1, 5] [] (sf := St.mk [(1, tp (B8 l)), (5, tp (u16 (isum l)))] []) (by kernel_rfl) ?_
  refine xg1 (os := [Con Tryz.prog 79 [] [B8 l] [(5, Blk.mk (u8s l) true 0 (some (5, 1)))] (V.sl 5 0 (List.length l)), (0 : Int) ≤ (8 : Int), u16 (ishr IntKind.u16 (isum l) 8) = u16 (isum l / 256), u8 (IntKind.wrap IntKind.u8 (isum l / 256)) = u8 (isum l / 256), u8 (IntKind.wrap IntKind.u8 (isum l)) = u8 (isum l % 256), (2 : Nat) ≤ (2 : Nat), List.length l * (1 : Nat) = List.length (u8s l), List.length l + (2 : Nat) ≤ (9223372036854775807 : Nat), (List.length l + (2 : Nat)) * (1 : Nat) ≤ (140737488355328 : Nat), u8s l ++ List.take ((2 : Nat) * (1 : Nat)) (List.drop (0 : Nat) [u8 (isum l / (256 : Int)), u8 (isum l % (256 : Int))]) = u8s (l ++ [isum l / (256 : Int), isum l % (256 : Int)]), List.length l + (2 : Nat) = List.length (l ++ [isum l / (256 : Int), isum l % (256 : Int)])]) [(1, ⟨none, some ⟨V.sl 5 0 (List.length l), [(5, Blk.mk (u8s l) true 0 (some (5, 1)))], []⟩⟩), (3, ⟨some (u16 (isum l / 256)), none⟩), (4, ⟨some (u8 (isum l / 256)), none⟩), (6, ⟨some (u8 (isum l % 256)), none⟩), (8, ⟨some (V.tup [V.agg true (u8s (l ++ [isum l / 256, isum l % 256])), V.sl 0 0 (List.length (l ++ [isum l / 256, isum l % 256]))]), none⟩)] [4] [120005] (by kernel_rfl) ⟨(con_clone (l) (List.length l) (by omega) (by omega)), (by omega), (shr_eq rfl (by decide)), (wr_u8 (by omega) (by omega)), wm_u8, (by omega), (by (simp [len_u8s]; done)), (by omega), (by omega), (by first | rfl | (show u8s (l) ++ _ = _; simp only [u8s_drop, u8s_take, List.drop_zero, Nat.mul_one, Nat.one_mul, u8s_app, List.take_length, List.nil_append, List.append_nil]; done) | (simp [u8s]; done) | (simp [u8s]; omega)), (by (simp [len_u8s]; done)), trivial⟩ ?_
  refine AWP.ret ?_
  refine ⟨Or.inr rfl, Eq.trans (b := some ([(120005, Blk.mk (u8s (l ++ [isum l / 256, isum l % 256])) true 0 (some (5, 1)))], V.sl 120005 0 (List.length (l ++ [isum l / 256, isum l % 256])))) (by kernel_rfl) ?_⟩
  (rw [List.length_append]; rfl)
def iright (l : List Int) : Bool := decide (2 ≤ l.length) && (isum (l.take (l.length - 2)) == l.getD (l.length - 2) 0 * 256 + l.getD (l.length - 1) 0)
theorem drop_getD (l : List Int) (k j : Nat) : (l.drop k).getD j 0 = l.getD (k + j) 0 := by
  rw [List.getD_eq_getElem?_getD, List.getD_eq_getElem?_getD, List.getElem?_drop]
theorem right_eq (l : List Int) : (decide ((l.length : Int) - 2 ≥ 0) && (isum (l.take (Int.toNat ((l.length : Int) - 2))) == (l.drop (Int.toNat ((l.length : Int) - 2))).getD 0 0 * 256 + (l.drop (Int.toNat ((l.length : Int) - 2 + 1))).getD 0 0)) = iright l := by
  unfold iright
  by_cases h : 2 ≤ l.length
  · rw [drop_getD, drop_getD, show Int.toNat ((l.length : Int) - 2) = l.length - 2 by omega, show Int.toNat ((l.length : Int) - 2 + 1) = l.length - 1 by omega, decide_eq_true h, decide_eq_true (by omega)]
    rfl
  · rw [decide_eq_false h, decide_eq_false (by omega), Bool.false_and, Bool.false_and]
theorem con_right (tv : List V) (ht : TabOk tv) (l : List Int) (hl : BL l) (hlen : l.length ≤ 100000000) : Con Tryz.prog 277 [] [.agg true tv, .vs (u8s l) l.length] [] (vb (iright l)) := by
  have hl0 := ht.1
  have hs := isum_bd (l.take (Int.toNat ((l.length : Int) - 2)))
  have b0 := (BL.drop hl (Int.toNat ((l.length : Int) - 2))).at_ 0
  have b1 := (BL.drop hl (Int.toNat ((l.length : Int) - 2 + 1))).at_ 0
  refine Con.of (C := ⟨Tryz.prog, tc, Tryz.f277.ntmps⟩) [] tcok Tryz.func277 rfl rfl (by kernel_rfl) (by kernel_rfl) ?_
  refine xe1 (os := [List.length tv = (256 : Nat)]) [(0, ⟨some V.top, none⟩)] [1, 2, 4] [2] (by kernel_rfl) ⟨(by omega), trivial⟩ ?_
  refine xe1 (os := [i64 (IntKind.wrap IntKind.i64 ((↑(List.length l) : Int) - 2)) = i64 ((↑(List.length l) : Int) - 2)]) [(2, ⟨some (i64 ((↑(List.length l) : Int) - 2)), none⟩)] [1, 2, 4, 5] [2] (by kernel_rfl) ⟨(wr_i64 (by omega) (by omega)), trivial⟩ ?_
  refine xe1 (os := [decide ((↑(List.length l) : Int) - (2 : Int) ≥ (0 : Int)) = true → ((0 : Int) ≤ (↑(0 : Nat) : Int) ∧ (↑(0 : Nat) : Int) ≤ (↑(List.length l) : Int) - (2 : Int) ∧ (↑(List.length l) : Int) - (2 : Int) ≤ (↑(List.length l) : Int)) ∧ V.vs (subV (u8s l) none (some (i64 ((↑(List.length l) : Int) - (2 : Int)))) (Int.toNat (↑(0 : Nat) : Int) * (1 : Nat)) (Int.toNat ((↑(List.length l) : Int) - (2 : Int)) * (1 : Nat)) ((Int.toNat ((↑(List.length l) : Int) - (2 : Int)) - Int.toNat (↑(0 : Nat) : Int)) * (1 : Nat))) (Int.toNat ((↑(List.length l) : Int) - (2 : Int)) - (0 : Nat)) = V.vs (u8s (List.take (Int.toNat ((↑(List.length l) : Int) - (2 : Int))) l)) (Int.toNat ((↑(List.length l) : Int) - (2 : Int))) ∧ True, decide ((↑(List.length l) : Int) - (2 : Int) ≥ (0 : Int)) = true → VO (u16 (isum (List.take (Int.toNat ((↑(List.length l) : Int) - (2 : Int))) l))) ∧ VOH [] ∧ Con Tryz.prog (282 : Nat) [] [V.agg true tv, V.vs [V.vs (u8s (List.take (Int.toNat ((↑(List.length l) : Int) - (2 : Int))) l)) (Int.toNat ((↑(List.length l) : Int) - (2 : Int)))] (1 : Nat)] [] (u16 (isum (List.take (Int.toNat ((↑(List.length l) : Int) - (2 : Int))) l))) ∧ (0 : Nat) = (0 : Nat) ∧ (1 : Nat) = (1 : Nat) ∧ True, decide ((↑(List.length l) : Int) - (2 : Int) ≥ (0 : Int)) = true → ((0 : Int) ≤ (↑(List.length l) : Int) - (2 : Int) ∧ (↑(List.length l) : Int) - (2 : Int) < (↑(List.length l) : Int)) ∧ V.vp (List.drop (Int.toNat ((↑(List.length l) : Int) - (2 : Int)) * (1 : Nat)) (u8s l)) = V.vp (List.drop (Int.toNat ((↑(List.length l) : Int) - (2 : Int)) * (1 : Nat)) (u8s l)) ∧ True, decide ((↑(List.length l) : Int) - (2 : Int) ≥ (0 : Int)) = true → (1 : Nat) ≤ List.length (List.drop (Int.toNat ((↑(List.length l) : Int) - (2 : Int)) * (1 : Nat)) (u8s l)) ∧ part_ true (isRow (TypeDesc.int IntKind.u8)) (List.drop (Int.toNat ((↑(List.length l) : Int) - (2 : Int)) * (1 : Nat)) (u8s l)) (0 : Nat) (1 : Nat) = u8 (List.getD (List.drop (Int.toNat ((↑(List.length l) : Int) - (2 : Int))) l) (0 : Nat) (0 : Int)) ∧ True, decide ((↑(List.length l) : Int) - (2 : Int) ≥ (0 : Int)) = true → u16 (IntKind.wrap IntKind.u16 (List.getD (List.drop (Int.toNat ((↑(List.length l) : Int) - (2 : Int))) l) (0 : Nat) (0 : Int))) = u16 (List.getD (List.drop (Int.toNat ((↑(List.length l) : Int) - (2 : Int))) l) (0 : Nat) (0 : Int)) ∧ True, decide ((↑(List.length l) : Int) - (2 : Int) ≥ (0 : Int)) = true → (0 : Int) ≤ (8 : Int) ∧ u16 (ishl IntKind.u16 (List.getD (List.drop (Int.toNat ((↑(List.length l) : Int) - (2 : Int))) l) (0 : Nat) (0 : Int)) (8 : Int)) = u16 (List.getD (List.drop (Int.toNat ((↑(List.length l) : Int) - (2 : Int))) l) (0 : Nat) (0 : Int) * (256 : Int)) ∧ True, decide ((↑(List.length l) : Int) - (2 : Int) ≥ (0 : Int)) = true → i64 (IntKind.wrap IntKind.i64 ((↑(List.length l) : Int) - (2 : Int) + (1 : Int))) = i64 ((↑(List.length l) : Int) - (2 : Int) + (1 : Int)) ∧ True, decide ((↑(List.length l) : Int) - (2 : Int) ≥ (0 : Int)) = true → ((0 : Int) ≤ (↑(List.length l) : Int) - (2 : Int) + (1 : Int) ∧ (↑(List.length l) : Int) - (2 : Int) + (1 : Int) < (↑(List.length l) : Int)) ∧ V.vp (List.drop (Int.toNat ((↑(List.length l) : Int) - (2 : Int) + (1 : Int)) * (1 : Nat)) (u8s l)) = V.vp (List.drop (Int.toNat ((↑(List.length l) : Int) - (2 : Int) + (1 : Int)) * (1 : Nat)) (u8s l)) ∧ True, decide ((↑(List.length l) : Int) - (2 : Int) ≥ (0 : Int)) = true → (1 : Nat) ≤ List.length (List.drop (Int.toNat ((↑(List.length l) : Int) - (2 : Int) + (1 : Int)) * (1 : Nat)) (u8s l)) ∧ part_ true (isRow (TypeDesc.int IntKind.u8)) (List.drop (Int.toNat ((↑(List.length l) : Int) - (2 : Int) + (1 : Int)) * (1 : Nat)) (u8s l)) (0 : Nat) (1 : Nat) = u8 (List.getD (List.drop (Int.toNat ((↑(List.length l) : Int) - (2 : Int) + (1 : Int))) l) (0 : Nat) (0 : Int)) ∧ True, decide ((↑(List.length l) : Int) - (2 : Int) ≥ (0 : Int)) = true → u16 (IntKind.wrap IntKind.u16 (List.getD (List.drop (Int.toNat ((↑(List.length l) : Int) - (2 : Int) + (1 : Int))) l) (0 : Nat) (0 : Int))) = u16 (List.getD (List.drop (Int.toNat ((↑(List.length l) : Int) - (2 : Int) + (1 : Int))) l) (0 : Nat) (0 : Int)) ∧ True, decide ((↑(List.length l) : Int) - (2 : Int) ≥ (0 : Int)) = true → u16 (ior IntKind.u16 (List.getD (List.drop (Int.toNat ((↑(List.length l) : Int) - (2 : Int))) l) (0 : Nat) (0 : Int) * (256 : Int)) (List.getD (List.drop (Int.toNat ((↑(List.length l) : Int) - (2 : Int) + (1 : Int))) l) (0 : Nat) (0 : Int))) = u16 (List.getD (List.drop (Int.toNat ((↑(List.length l) : Int) - (2 : Int))) l) (0 : Nat) (0 : Int) * (256 : Int) + List.getD (List.drop (Int.toNat ((↑(List.length l) : Int) - (2 : Int) + (1 : Int))) l) (0 : Nat) (0 : Int)) ∧ True]) [(6, ⟨some (V.vs (u8s (List.take (Int.toNat ((↑(List.length l) : Int) - 2)) l)) (Int.toNat ((↑(List.length l) : Int) - 2))), none⟩), (8, ⟨none, some ⟨u16 (isum (List.take (Int.toNat ((↑(List.length l) : Int) - 2)) l)), [], [(16, true)]⟩⟩), (11, ⟨some (V.vp (List.drop (Int.toNat ((↑(List.length l) : Int) - 2) * 1) (u8s l))), none⟩), (12, ⟨some (u8 (List.getD (List.drop (Int.toNat ((↑(List.length l) : Int) - 2)) l) 0 0)), none⟩), (13, ⟨some (u16 (List.getD (List.drop (Int.toNat ((↑(List.length l) : Int) - 2)) l) 0 0)), none⟩), (14, ⟨some (u16 (List.getD (List.drop (Int.toNat ((↑(List.length l) : Int) - 2)) l) 0 0 * 256)), none⟩), (17, ⟨some (i64 ((↑(List.length l) : Int) - 2 + 1)), none⟩), (18, ⟨some (V.vp (List.drop (Int.toNat ((↑(List.length l) : Int) - 2 + 1) * 1) (u8s l))), none⟩), (19, ⟨some (u8 (List.getD (List.drop (Int.toNat ((↑(List.length l) : Int) - 2 + 1)) l) 0 0)), none⟩), (20, ⟨some (u16 (List.getD (List.drop (Int.toNat ((↑(List.length l) : Int) - 2 + 1)) l) 0 0)), none⟩), (21, ⟨some (u16 (List.getD (List.drop (Int.toNat ((↑(List.length l) : Int) - 2)) l) 0 0 * 256 + List.getD (List.drop (Int.toNat ((↑(List.length l) : Int) - 2 + 1)) l) 0 0)), none⟩)] [4] [] (by kernel_rfl) ⟨(by intro hc0; first | (cases hc0; done) | ((try simp only [Bool.or_false, Bool.false_or, Bool.true_and, Bool.and_true, decide_eq_true_eq, decide_eq_false_iff_not, Bool.and_eq_true, Bool.or_eq_true, Bool.or_eq_false_iff, Bool.not_eq_true', Bool.and_eq_false_iff, beq_iff_eq, bne_iff_ne, bne_eq_false_iff_eq, beq_eq_false_iff_ne, Bool.not_eq_false'] at hc0); exact ⟨(by first | omega | exact ht | exact BL.take hl _ | (simp [len_u8s]; omega) | (simp [len_u8s]; done)), (by first | rfl | (simp only [subV, u8s_drop, u8s_take, List.drop_zero, Nat.mul_one, Nat.one_mul, Nat.sub_zero, Nat.zero_add, Int.toNat_zero, Int.toNat_natCast]; first | done | rfl | (rw [List.take_of_length_le (by first | omega | (simp; done) | (simp; omega))]; first | done | rfl)) | (simp [subV, u8s_drop, u8s_take]; done)), trivial⟩)), (by intro hc0; first | (cases hc0; done) | ((try simp only [Bool.or_false, Bool.false_or, Bool.true_and, Bool.and_true, decide_eq_true_eq, decide_eq_false_iff_not, Bool.and_eq_true, Bool.or_eq_true, Bool.or_eq_false_iff, Bool.not_eq_true', Bool.and_eq_false_iff, beq_iff_eq, bne_iff_ne, bne_eq_false_iff_eq, beq_eq_false_iff_ne, Bool.not_eq_false'] at hc0); exact ⟨(VO.val _), trivial, (con_tsum (tv) (by assumption) (List.take (Int.toNat ((↑(List.length l) : Int) - 2)) l) (Int.toNat ((↑(List.length l) : Int) - 2)) (by (simp [len_u8s]; omega)) (by exact BL.take hl _) (by omega)), (by omega), (by omega), trivial⟩)), (by intro hc0; first | (cases hc0; done) | ((try simp only [Bool.or_false, Bool.false_or, Bool.true_and, Bool.and_true, decide_eq_true_eq, decide_eq_false_iff_not, Bool.and_eq_true, Bool.or_eq_true, Bool.or_eq_false_iff, Bool.not_eq_true', Bool.and_eq_false_iff, beq_iff_eq, bne_iff_ne, bne_eq_false_iff_eq, beq_eq_false_iff_ne, Bool.not_eq_false'] at hc0); exact ⟨(by first | omega | exact ht | exact BL.take hl _ | (simp [len_u8s]; omega) | (simp [len_u8s]; done)), rfl, trivial⟩)), (by intro hc0; first | (cases hc0; done) | ((try simp only [Bool.or_false, Bool.false_or, Bool.true_and, Bool.and_true, decide_eq_true_eq, decide_eq_false_iff_not, Bool.and_eq_true, Bool.or_eq_true, Bool.or_eq_false_iff, Bool.not_eq_true', Bool.and_eq_false_iff, beq_iff_eq, bne_iff_ne, bne_eq_false_iff_eq, beq_eq_false_iff_ne, Bool.not_eq_false'] at hc0); exact ⟨(by first | omega | exact ht | exact BL.take hl _ | (simp [len_u8s]; omega) | (simp [len_u8s]; done)), (part_u8e (by first | rfl | (simp only [u8s_drop, u8s_take, List.drop_zero, Nat.mul_one, Nat.one_mul, u8s_app, List.take_length, List.nil_append, List.append_nil]; done) | (simp [u8s]; done) | (simp [u8s]; omega)) (by first | omega | exact ht | exact BL.take hl _ | (simp [len_u8s]; done) | (simp [len_u8s]; omega))), trivial⟩)), (by intro hc0; first | (cases hc0; done) | ((try simp only [Bool.or_false, Bool.false_or, Bool.true_and, Bool.and_true, decide_eq_true_eq, decide_eq_false_iff_not, Bool.and_eq_true, Bool.or_eq_true, Bool.or_eq_false_iff, Bool.not_eq_true', Bool.and_eq_false_iff, beq_iff_eq, bne_iff_ne, bne_eq_false_iff_eq, beq_eq_false_iff_ne, Bool.not_eq_false'] at hc0); exact ⟨(wr_u16 (by omega) (by omega)), trivial⟩)), (by intro hc0; first | (cases hc0; done) | ((try simp only [Bool.or_false, Bool.false_or, Bool.true_and, Bool.and_true, decide_eq_true_eq, decide_eq_false_iff_not, Bool.and_eq_true, Bool.or_eq_true, Bool.or_eq_false_iff, Bool.not_eq_true', Bool.and_eq_false_iff, beq_iff_eq, bne_iff_ne, bne_eq_false_iff_eq, beq_eq_false_iff_ne, Bool.not_eq_false'] at hc0); exact ⟨(by omega), (shl_u16 rfl (by omega) (by omega)), trivial⟩)), (by intro hc0; first | (cases hc0; done) | ((try simp only [Bool.or_false, Bool.false_or, Bool.true_and, Bool.and_true, decide_eq_true_eq, decide_eq_false_iff_not, Bool.and_eq_true, Bool.or_eq_true, Bool.or_eq_false_iff, Bool.not_eq_true', Bool.and_eq_false_iff, beq_iff_eq, bne_iff_ne, bne_eq_false_iff_eq, beq_eq_false_iff_ne, Bool.not_eq_false'] at hc0); exact ⟨(wr_i64 (by omega) (by omega)), trivial⟩)), (by intro hc0; first | (cases hc0; done) | ((try simp only [Bool.or_false, Bool.false_or, Bool.true_and, Bool.and_true, decide_eq_true_eq, decide_eq_false_iff_not, Bool.and_eq_true, Bool.or_eq_true, Bool.or_eq_false_iff, Bool.not_eq_true', Bool.and_eq_false_iff, beq_iff_eq, bne_iff_ne, bne_eq_false_iff_eq, beq_eq_false_iff_ne, Bool.not_eq_false'] at hc0); exact ⟨(by first | omega | exact ht | exact BL.take hl _ | (simp [len_u8s]; omega) | (simp [len_u8s]; done)), rfl, trivial⟩)), (by intro hc0; first | (cases hc0; done) | ((try simp only [Bool.or_false, Bool.false_or, Bool.true_and, Bool.and_true, decide_eq_true_eq, decide_eq_false_iff_not, Bool.and_eq_true, Bool.or_eq_true, Bool.or_eq_false_iff, Bool.not_eq_true', Bool.and_eq_false_iff, beq_iff_eq, bne_iff_ne, bne_eq_false_iff_eq, beq_eq_false_iff_ne, Bool.not_eq_false'] at hc0); exact ⟨(by first | omega | exact ht | exact BL.take hl _ | (simp [len_u8s]; omega) | (simp [len_u8s]; done)), (part_u8e (by first | rfl | (simp only [u8s_drop, u8s_take, List.drop_zero, Nat.mul_one, Nat.one_mul, u8s_app, List.take_length, List.nil_append, List.append_nil]; done) | (simp [u8s]; done) | (simp [u8s]; omega)) (by first | omega | exact ht | exact BL.take hl _ | (simp [len_u8s]; done) | (simp [len_u8s]; omega))), trivial⟩)), (by intro hc0; first | (cases hc0; done) | ((try simp only [Bool.or_false, Bool.false_or, Bool.true_and, Bool.and_true, decide_eq_true_eq, decide_eq_false_iff_not, Bool.and_eq_true, Bool.or_eq_true, Bool.or_eq_false_iff, Bool.not_eq_true', Bool.and_eq_false_iff, beq_iff_eq, bne_iff_ne, bne_eq_false_iff_eq, beq_eq_false_iff_ne, Bool.not_eq_false'] at hc0); exact ⟨(wr_u16 (by omega) (by omega)), trivial⟩)), (by intro hc0; first | (cases hc0; done) | ((try simp only [Bool.or_false, Bool.false_or, Bool.true_and, Bool.and_true, decide_eq_true_eq, decide_eq_false_iff_not, Bool.and_eq_true, Bool.or_eq_true, Bool.or_eq_false_iff, Bool.not_eq_true', Bool.and_eq_false_iff, beq_iff_eq, bne_iff_ne, bne_eq_false_iff_eq, beq_eq_false_iff_ne, Bool.not_eq_false'] at hc0); exact ⟨(ior_u16 8 (by omega) (by omega) (by omega) (by omega) (by omega)), trivial⟩)), trivial⟩ ?_
  refine AWP.ret ?_
  refine ⟨Or.inr rfl, Eq.trans (b := some ([], vb (decide ((↑(List.length l) : Int) - 2 ≥ 0) && isum (List.take (Int.toNat ((↑(List.length l) : Int) - 2)) l) == List.getD (List.drop (Int.toNat ((↑(List.length l) : Int) - 2)) l) 0 0 * 256 + List.getD (List.drop (Int.toNat ((↑(List.length l) : Int) - 2 + 1)) l) 0 0))) (by kernel_rfl) ?_⟩
  (rw [right_eq l])
theorem con_tcut_y (tv : List V) (ht : TabOk tv) (l : List Int) (hl : BL l) (hlen : l.length ≤ 100000000) (h2 : 2 ≤ l.length) (hr : iright l = true) : Con Tryz.prog 218 [] [.agg true tv, .vs (u8s l) l.length] [(210005, ⟨u8s (l.take (l.length - 2)), true, 0, some (5, 1)⟩)] (.tup [.sl 210005 0 (l.length - 2), i64 0]) := by
  have hl0 := ht.1
  refine Con.of (C := ⟨Tryz.prog, tc, Tryz.f218.ntmps⟩) [210005] tcok Tryz.func218 rfl rfl (by kernel_rfl) (by kernel_rfl) ?_
  refine xe1 (os := [List.length tv = (256 : Nat)]) [(0, ⟨some V.top, none⟩)] [1, 2, 4, 5] [2, 4] (by kernel_rfl) ⟨(by omega), trivial⟩ ?_
  refine AWP.seq ?_
  refine AWP.block ?_
  refine xe0 [1, 2, 4, 5, 6] [2, 4] (by kernel_rfl) ?_
  refine AWP.cond (b := decide ((↑(List.length l) : Int) < 2)) (by kernel_rfl) (fun hq3 => ?_) (fun hq3 => ?_)
  · simp only [decide_eq_true_eq] at hq3
    (exfalso; omega)
  simp only [decide_eq_false_iff_not] at hq3
  refine xe1 [(2, ⟨none, some ⟨vb (iright l), [], []⟩⟩)] [1, 4, 5, 10] [4] (by kernel_rfl) (AllP.c (con_right (tv) (by assumption) (l) (by assumption) (by assumption)) AllP.n) ?_
  refine AWP.cond (b := !iright l) (by kernel_rfl) (fun hq4 => ?_) (fun hq4 => ?_)
  · simp only [Bool.not_eq_true'] at hq4
    (simp [hr] at hq4; done)
  simp only [Bool.not_eq_false'] at hq4
  refine AWP.skip ?_
  refine AWP.seq ?_
  refine AWP.keep' [1] [] (sf := St.mk [(1, tp (B8 l))] []) (by kernel_rfl) ?_
  refine xg1 (os := [i64 (IntKind.wrap IntKind.i64 ((↑(List.length l) : Int) - 2)) = i64 ((↑(List.length l) : Int) - 2), (0 : Int) ≤ (↑(0 : Nat) : Int) ∧ (↑(0 : Nat) : Int) ≤ (↑(List.length l) : Int) - (2 : Int) ∧ (↑(List.length l) : Int) - (2 : Int) ≤ (↑(List.length l) : Int), V.vs (subV (u8s l) none (some (i64 ((↑(List.length l) : Int) - 2))) (Int.toNat (↑0 : Int) * 1) (Int.toNat ((↑(List.length l) : Int) - 2) * 1) ((Int.toNat ((↑(List.length l) : Int) - 2) - Int.toNat (↑0 : Int)) * 1)) (Int.toNat ((↑(List.length l) : Int) - 2) - 0) = V.vs (u8s (List.take (Int.toNat ((↑(List.length l) : Int) - 2)) l)) (Int.toNat ((↑(List.length l) : Int) - 2)), Con Tryz.prog 79 [] [V.vs (u8s (List.take (Int.toNat ((↑(List.length l) : Int) - 2)) l)) (Int.toNat ((↑(List.length l) : Int) - 2))] [(5, Blk.mk (u8s (List.take (Int.toNat ((↑(List.length l) : Int) - 2)) l)) true 0 (some (5, 1)))] (V.sl 5 0 (Int.toNat ((↑(List.length l) : Int) - 2)))]) [(3, ⟨some (i64 ((↑(List.length l) : Int) - 2)), none⟩), (4, ⟨some (V.vs (u8s (List.take (Int.toNat ((↑(List.length l) : Int) - 2)) l)) (Int.toNat ((↑(List.length l) : Int) - 2))), none⟩), (5, ⟨none, some ⟨V.sl 5 0 (Int.toNat ((↑(List.length l) : Int) - 2)), [(5, Blk.mk (u8s (List.take (Int.toNat ((↑(List.length l) : Int) - 2)) l)) true 0 (some (5, 1)))], []⟩⟩)] [4, 5] [210005] (by kernel_rfl) ⟨(wr_i64 (by omega) (by omega)), (by omega), (by first | rfl | (simp only [subV, u8s_drop, u8s_take, List.drop_zero, Nat.mul_one, Nat.one_mul, Nat.sub_zero, Nat.zero_add, Int.toNat_zero, Int.toNat_natCast]; first | done | rfl | (rw [List.take_of_length_le (by first | omega | (simp; done) | (simp; omega))]; first | done | rfl)) | (simp [subV, u8s_drop, u8s_take]; done)), (con_clone (List.take (Int.toNat ((↑(List.length l) : Int) - 2)) l) (Int.toNat ((↑(List.length l) : Int) - 2)) (by (simp [len_u8s]; omega)) (by omega)), trivial⟩ ?_
  refine AWP.ret ?_
  refine ⟨Or.inr rfl, Eq.trans (b := some ([(210005, Blk.mk (u8s (List.take (Int.toNat ((↑(List.length l) : Int) - 2)) l)) true 0 (some (5, 1)))], V.tup [V.sl 210005 0 (Int.toNat ((↑(List.length l) : Int) - 2)), i64 0])) (by kernel_rfl) ?_⟩
  (rw [show Int.toNat ((l.length : Int) - 2) = l.length - 2 by omega])
end Go.Proofs.YtcekfepgdfcinaaGreatDoor
