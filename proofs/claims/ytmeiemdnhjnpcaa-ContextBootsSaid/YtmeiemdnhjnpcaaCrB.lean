/- Sums: the document's; texts with their sum. -/
import Derived.Test.YtmeiemdnhjnpcaaRg
import Derived.Test.YtmeiemdnhjnpcaaCrA
namespace Go.Proofs.Ytmeiemdnhjnpcaa
open Go.Ab
set_option linter.unusedSimpArgs false
set_option linter.unusedVariables false
theorem ixor_i64_n {a b : Int} (ha : 0 ≤ a ∧ a < 65536) (hb : 0 ≤ b ∧ b < 65536) : ixor .i64 a b = ((a.toNat ^^^ b.toNat : Nat) : Int) := by
  have hx : a.toNat ^^^ b.toNat < 65536 := Nat.xor_lt_two_pow (n := 16) (by omega) (by omega)
  unfold ixor
  rw [BitVec.toNat_xor, ofInt_nat ha.1 (by show a < 2 ^ 64; omega), ofInt_nat hb.1 (by show b < 2 ^ 64; omega), IntWalk.i64_in _ ⟨by omega, by omega⟩]
theorem ishr_nat {b j : Int} (hb : 0 ≤ b) (hj : 0 ≤ j ∧ j ≤ 7) : ishr .i64 b j = ((b.toNat / 2 ^ j.toNat : Nat) : Int) := by
  unfold ishr
  have e : min j.toNat (IntKind.bits .i64) = j.toNat := Nat.min_eq_left (by show j.toNat ≤ 64; omega)
  have e2 : (2 : Int) ^ j.toNat = ((2 ^ j.toNat : Nat) : Int) := by norm_cast
  rw [e, e2, Int.fdiv_eq_ediv_of_nonneg _ (Int.natCast_nonneg _)]
  conv => lhs; rw [← Int.toNat_of_nonneg hb]
  exact (Int.natCast_ediv _ _).symm
theorem ser_o {y q : Nat} (hy : y < 65536) (h : ((q : Int) % 2 + (y : Int) / 32768) % 2 = 1) : ixor .i64 ((y : Int) * 2 % 65536) 4129 = ((Crc.ser y (q % 2) : Nat) : Int) := by
  rw [ixor_i64_n ⟨by omega, by omega⟩ ⟨by omega, by omega⟩, Crc.ser_odd y (q % 2) hy (by omega) (by omega), show ((y : Int) * 2 % 65536).toNat = y * 2 % 65536 by omega]
  rfl
theorem ser_e {y q : Nat} (hy : y < 65536) (h : ¬ ((q : Int) % 2 + (y : Int) / 32768) % 2 = 1) : (y : Int) * 2 % 65536 = ((Crc.ser y (q % 2) : Nat) : Int) := by
  rw [Crc.ser_even y (q % 2) hy (by omega) (by omega)]
  omega
theorem con_rsum (l : List Int) (n : Nat) (hn : l.length = n) (hl : BL l) (hlen : n ≤ 9223372036854775807) : Con Try.prog 78 [] [.vs (u8s l) n] [] (u16 (isum l)) := by
  refine Con.of (C := ⟨Try.prog, tc, Try.f78.ntmps⟩) [] tcok Try.func78 rfl rfl (by kernel_rfl) (by kernel_rfl) ?_
  refine xe0 [0, 2] [] (by kernel_rfl) ?_
  refine xe0 [0, 2, 3] [] (by kernel_rfl) ?_
  refine AWP.seq ?_
  refine xe0 [2, 3, 8, 9, 10] [] (by kernel_rfl) ?_
  refine AWP.block ?_
  refine AWP.loopI [3, 8, 9, 10] [] (fun N s' => ∃ (x i : Int), s' = St.mk [(3, T.plain (i64 x)), (8, T.plain (V.vs (u8s l) n)), (9, T.plain (i64 (n : Int))), (10, T.plain (i64 i))] []
      ∧ x = irun 65535 (l.take i.toNat) ∧ 0 ≤ i ∧ i ≤ n ∧ (N : Int) = n - i) n (s0 := St.mk [(3, T.plain (i64 65535)), (8, T.plain (V.vs (u8s l) n)), (9, T.plain (i64 (n : Int))), (10, T.plain (i64 0))] []) (by kernel_rfl) ?_ ?_
  · exact ⟨65535, 0, rfl, rfl, by omega, by omega, by omega⟩
  rintro N s' ⟨x, i, rfl, hx, hi, hi2, hN⟩
  have hxb := irun_bd (s := 65535) (l.take i.toNat) (by omega)
  rw [← hx] at hxb
  by_cases hin : i < n
  case neg =>
    refine xe0 [3, 8, 9, 10, 11] [] (by kernel_rfl) ?_
    refine AWP.seq ?_
    refine AWP.cond (b := decide (i < (↑n : Int))) (by kernel_rfl) (fun hq0 => ?_) (fun hq0 => ?_)
    · simp only [decide_eq_true_eq] at hq0
      (exfalso; omega)
    simp only [decide_eq_false_iff_not] at hq0
    refine AWP.exit ?_
    refine xe1 (os := [u16 (IntKind.wrap IntKind.u16 x) = u16 x]) [(1, ⟨some (u16 x), none⟩)] [2] [] (by kernel_rfl) ⟨(wr_u16 (by omega) (by omega)), trivial⟩ ?_
    refine AWP.ret ?_
    refine ⟨Or.inr rfl, Eq.trans (b := some ([], u16 x)) (by kernel_rfl) ?_⟩
    first | (have e : x = isum l := (by rw [hx, List.take_of_length_le (by omega)]; rfl); rw [e]; done)
  have kx := u8s_at l i.toNat
  have hbb := hl.at_ i.toNat
  refine xe0 [3, 8, 9, 10, 11] [] (by kernel_rfl) ?_
  refine AWP.seq ?_
  refine AWP.cond (b := decide (i < (↑n : Int))) (by kernel_rfl) (fun hq1 => ?_) (fun hq1 => ?_)
  rotate_left
  · simp only [decide_eq_false_iff_not] at hq1
    (exfalso; omega)
  simp only [decide_eq_true_eq] at hq1
  refine AWP.skip ?_
  refine AWP.seq ?_
  refine AWP.block ?_
  refine xe1 (os := [(0 : Int) ≤ i ∧ i < (↑n : Int), V.vp (List.drop (Int.toNat i * 1) (u8s l)) = V.vp (u8 (List.getD l (Int.toNat i) 0) :: u8s (List.drop (Int.toNat i + 1) l))]) [(0, ⟨some (V.vp (u8 (List.getD l (Int.toNat i) 0) :: u8s (List.drop (Int.toNat i + 1) l))), none⟩)] [3, 5, 8, 9, 10] [] (by kernel_rfl) ⟨(by omega), (congrArg V.vp (kx (by omega))), trivial⟩ ?_
  refine xe0 [3, 5, 6, 8, 9, 10] [] (by kernel_rfl) ?_
  refine AWP.block ?_
  generalize hbv : l.getD i.toNat 0 = b at *
  refine AWP.loopI [3, 5, 6, 8, 9, 10] [] (fun M s' => ∃ (y : Nat) (j : Int), s' = St.mk [(3, T.plain (i64 y)), (5, T.plain (u8 b)), (6, T.plain (i64 j)), (8, T.plain (V.vs (u8s l) n)), (9, T.plain (i64 (n : Int))), (10, T.plain (i64 i))] []
      ∧ y = Crc.serTo x.toNat b.toNat (7 - j).toNat ∧ -1 ≤ j ∧ j ≤ 7 ∧ (M : Int) = j + 1) 8 (s0 := St.mk [(3, T.plain (i64 x)), (5, T.plain (u8 b)), (6, T.plain (i64 7)), (8, T.plain (V.vs (u8s l) n)), (9, T.plain (i64 (n : Int))), (10, T.plain (i64 i))] []) (by kernel_rfl) ?_ ?_
  · exact ⟨x.toNat, 7, by rw [Int.toNat_of_nonneg hxb.1], rfl, by omega, by omega, by omega⟩
  rintro M s' ⟨y, j, rfl, hy, hj, hj2, hM⟩
  by_cases hjn : 0 ≤ j
  case neg =>
    refine AWP.seq ?_
    refine xe0 [3, 5, 6, 8, 9, 10, 15] [] (by kernel_rfl) ?_
    refine AWP.cond (b := decide (j ≥ 0)) (by kernel_rfl) (fun hq2 => ?_) (fun hq2 => ?_)
    · simp only [decide_eq_true_eq] at hq2
      (exfalso; omega)
    simp only [decide_eq_false_iff_not] at hq2
    refine AWP.exit ?_
    refine AWP.region tcok hmix [(0, ⟨some (i64 (i + 1)), none⟩)] (os := [i64 (IntKind.wrap IntKind.i64 (i + 1)) = i64 (i + 1)]) (sf := St.mk [(3, tp (i64 (↑y : Int))), (5, tp (u8 b)), (6, tp (i64 j)), (8, tp (V.vs (u8s l) n)), (9, tp (i64 (↑n : Int))), (10, tp (i64 (i + 1))), (15, tp (vb (decide (j ≥ 0)))), (34, tp (i64 (i + 1)))] []) (by kernel_rfl) ⟨(wr_i64 (by omega) (by omega)), trivial⟩ ?_
    refine ⟨St.mk [(3, tp (i64 (↑y : Int))), (8, tp (V.vs (u8s l) n)), (9, tp (i64 (↑n : Int))), (10, tp (i64 (i + 1)))] [], by kernel_rfl, ?_⟩
    (exact ⟨(n - (i + 1)).toNat, (by omega), _, i + 1, rfl, (by rw [hy, show (7 - j).toNat = 8 by omega, Crc.serTo_8 _ _ (by omega) (by omega), show (i + 1).toNat = i.toNat + 1 by omega, irun_take (by omega), ← hx, hbv]; rfl), (by omega), (by omega), (by omega)⟩)
  have hy2 : y < 65536 := by rw [hy]; exact Crc.serTo_lt _ _ _ (by omega) (by omega) (by omega)
  obtain ⟨q, hq⟩ : ∃ q : Nat, b.toNat / 2 ^ j.toNat = q := ⟨_, rfl⟩
  have wfs : ishr .i64 b j = (q : Int) := by rw [ishr_nat hbb.1 ⟨hjn, hj2⟩, hq]
  have hnx : Crc.ser y (q % 2) = Crc.serTo x.toNat b.toNat (7 - (j - 1)).toNat := by
    rw [show (7 - (j - 1)).toNat = (7 - j).toNat + 1 by omega]
    show _ = Crc.ser (Crc.serTo x.toNat b.toNat (7 - j).toNat) (b.toNat / 2 ^ (7 - (7 - j).toNat) % 2)
    rw [← hy, show 7 - (7 - j).toNat = j.toNat by omega, hq]
  refine AWP.seq ?_
  refine xe0 [3, 5, 6, 8, 9, 10, 15] [] (by kernel_rfl) ?_
  refine AWP.cond (b := decide (j ≥ 0)) (by kernel_rfl) (fun hq3 => ?_) (fun hq3 => ?_)
  · simp only [decide_eq_true_eq] at hq3
    refine AWP.skip ?_
    refine AWP.seq ?_
    refine AWP.block ?_
    refine xe1 (os := [i64 (IntKind.wrap IntKind.i64 b) = i64 b, (0 : Int) ≤ j, i64 (ishr IntKind.i64 b j) = i64 (↑q : Int), (2 : Int) ≠ (0 : Int), i64 (Int.tmod (↑q : Int) 2) = i64 ((↑q : Int) % 2), (32768 : Int) ≠ (0 : Int), i64 (IntKind.wrap IntKind.i64 (Int.tdiv (↑y : Int) 32768)) = i64 ((↑y : Int) / 32768), i64 (IntKind.wrap IntKind.i64 ((↑q : Int) % 2 + (↑y : Int) / 32768)) = i64 ((↑q : Int) % 2 + (↑y : Int) / 32768)]) [(1, ⟨some (i64 b), none⟩), (3, ⟨some (i64 (↑q : Int)), none⟩), (4, ⟨some (i64 ((↑q : Int) % 2)), none⟩), (6, ⟨some (i64 ((↑y : Int) / 32768)), none⟩), (7, ⟨some (i64 ((↑q : Int) % 2 + (↑y : Int) / 32768)), none⟩)] [3, 5, 6, 7, 8, 9, 10] [] (by kernel_rfl) ⟨(wr_i64 (by omega) (by omega)), (by omega), (in_eq wfs), (by omega), (tm_ (by omega)), (by omega), (wtd (by omega) (wr_i64 (by omega) (by omega))), (wr_i64 (by omega) (by omega)), trivial⟩ ?_
    refine xe1 (os := [i64 (IntKind.wrap IntKind.i64 ((↑y : Int) * 2)) = i64 ((↑y : Int) * 2), (65536 : Int) ≠ (0 : Int), i64 (Int.tmod ((↑y : Int) * 2) 65536) = i64 ((↑y : Int) * 2 % 65536)]) [(1, ⟨some (i64 ((↑y : Int) * 2)), none⟩), (2, ⟨some (i64 ((↑y : Int) * 2 % 65536)), none⟩)] [3, 5, 6, 7, 8, 9, 10] [] (by kernel_rfl) ⟨(wr_i64 (by omega) (by omega)), (by omega), (tm_ (by omega)), trivial⟩ ?_
    refine xe1 (os := [(2 : Int) ≠ (0 : Int), i64 (Int.tmod ((↑q : Int) % 2 + (↑y : Int) / 32768) 2) = i64 (((↑q : Int) % 2 + (↑y : Int) / 32768) % 2)]) [(1, ⟨some (i64 (((↑q : Int) % 2 + (↑y : Int) / 32768) % 2)), none⟩)] [3, 5, 6, 8, 9, 10, 31] [] (by kernel_rfl) ⟨(by omega), (tm_ (by omega)), trivial⟩ ?_
    refine AWP.cond (b := ((↑q : Int) % 2 + (↑y : Int) / 32768) % 2 == 1) (by kernel_rfl) (fun hq4 => ?_) (fun hq4 => ?_)
    · simp only [beq_iff_eq] at hq4
      refine AWP.region tcok hmix [] (os := []) (sf := St.mk [(3, tp (i64 (ixor IntKind.i64 ((↑y : Int) * 2 % 65536) 4129))), (5, tp (u8 b)), (6, tp (i64 j)), (8, tp (V.vs (u8s l) n)), (9, tp (i64 (↑n : Int))), (10, tp (i64 i)), (31, tp (vb (((↑q : Int) % 2 + (↑y : Int) / 32768) % 2 == 1))), (32, tp (i64 ((↑y : Int) * 2 % 65536))), (33, tp (i64 (ixor IntKind.i64 ((↑y : Int) * 2 % 65536) 4129)))] []) (by kernel_rfl) trivial ?_
      refine AWP.keep' [3, 5, 6, 8, 9, 10] [] (sf := St.mk [(3, tp (i64 (ixor IntKind.i64 ((↑y : Int) * 2 % 65536) 4129))), (5, tp (u8 b)), (6, tp (i64 j)), (8, tp (V.vs (u8s l) n)), (9, tp (i64 (↑n : Int))), (10, tp (i64 i))] []) (by kernel_rfl) ?_
      refine AWP.region tcok hmix [(1, ⟨some (i64 (j - 1)), none⟩)] (os := [i64 (IntKind.wrap IntKind.i64 (j - 1)) = i64 (j - 1)]) (sf := St.mk [(3, tp (i64 (ixor IntKind.i64 ((↑y : Int) * 2 % 65536) 4129))), (5, tp (u8 b)), (6, tp (i64 (j - 1))), (8, tp (V.vs (u8s l) n)), (9, tp (i64 (↑n : Int))), (10, tp (i64 i)), (16, tp (i64 j)), (17, tp (i64 (j - 1)))] []) (by kernel_rfl) ⟨(wr_i64 (by omega) (by omega)), trivial⟩ ?_
      refine ⟨St.mk [(3, tp (i64 (ixor IntKind.i64 ((↑y : Int) * 2 % 65536) 4129))), (5, tp (u8 b)), (6, tp (i64 (j - 1))), (8, tp (V.vs (u8s l) n)), (9, tp (i64 (↑n : Int))), (10, tp (i64 i))] [], by kernel_rfl, ?_⟩
      first | (exact ⟨(j + 1 - 1).toNat, (by omega), Crc.ser y (q % 2), j - 1, (by rw [ser_o hy2 (by omega)]), hnx, (by omega), (by omega), (by omega)⟩) | (exact ⟨(j + 1 - 1).toNat, (by omega), Crc.ser y (q % 2), j - 1, (by rw [ser_e hy2 (by omega)]), hnx, (by omega), (by omega), (by omega)⟩)
    simp only [beq_eq_false_iff_ne] at hq4
    refine AWP.skip ?_
    refine AWP.region tcok hmix [(1, ⟨some (i64 (j - 1)), none⟩)] (os := [i64 (IntKind.wrap IntKind.i64 (j - 1)) = i64 (j - 1)]) (sf := St.mk [(3, tp (i64 ((↑y : Int) * 2 % 65536))), (5, tp (u8 b)), (6, tp (i64 (j - 1))), (8, tp (V.vs (u8s l) n)), (9, tp (i64 (↑n : Int))), (10, tp (i64 i)), (16, tp (i64 j)), (17, tp (i64 (j - 1))), (31, tp (vb (((↑q : Int) % 2 + (↑y : Int) / 32768) % 2 == 1)))] []) (by kernel_rfl) ⟨(wr_i64 (by omega) (by omega)), trivial⟩ ?_
    refine ⟨St.mk [(3, tp (i64 ((↑y : Int) * 2 % 65536))), (5, tp (u8 b)), (6, tp (i64 (j - 1))), (8, tp (V.vs (u8s l) n)), (9, tp (i64 (↑n : Int))), (10, tp (i64 i))] [], by kernel_rfl, ?_⟩
    first | (exact ⟨(j + 1 - 1).toNat, (by omega), Crc.ser y (q % 2), j - 1, (by rw [ser_o hy2 (by omega)]), hnx, (by omega), (by omega), (by omega)⟩) | (exact ⟨(j + 1 - 1).toNat, (by omega), Crc.ser y (q % 2), j - 1, (by rw [ser_e hy2 (by omega)]), hnx, (by omega), (by omega), (by omega)⟩)
  simp only [decide_eq_false_iff_not] at hq3
  (exfalso; omega)
end Go.Proofs.Ytmeiemdnhjnpcaa
