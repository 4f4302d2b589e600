/- Chapter 6: CellLong. -/
import Derived.Test.YtmeiemdnhjnpcaaCelX
namespace Go.Proofs.Ytmeiemdnhjnpcaa
open Go.Ab
set_option linter.unusedSimpArgs false
set_option linter.unusedVariables false
def fillTo (n i : Nat) (b : Int) : List Int := List.replicate i b ++ List.replicate (n - i) 0
theorem fillTo_len {n i : Nat} (b : Int) (h : i ≤ n) : (fillTo n i b).length = n := by simp [fillTo]; omega
theorem fillTo_set {n i : Nat} {b : Int} (h : i < n) : (fillTo n i b).set i b = fillTo n (i + 1) b := by
  unfold fillTo
  rw [List.set_append, if_neg (by simp), show n - i = (n - (i + 1)) + 1 by omega, List.replicate_succ, List.replicate_succ', List.append_assoc]
  simp
theorem fillTo_all (n : Nat) (b : Int) : fillTo n n b = List.replicate n b := by simp [fillTo]
theorem rep_bl {n : Nat} {b : Int} (h : 0 ≤ b ∧ b < 256) : BL (List.replicate n b) := fun x hx => by
  rw [List.eq_of_mem_replicate hx]
  exact h
theorem rep_u8s (n : Nat) (b : Int) : List.replicate n (u8 b) = u8s (List.replicate n b) := by simp [u8s]
theorem law6_long (seq n b : Int) (hs : 0 ≤ seq ∧ seq < 4294967296) (hn : 0 ≤ n ∧ n < 256) (hb : 0 ≤ b ∧ b < 256) : Con Try.prog 7 [] [u32 seq, u8 n, u8 b] [] (vb true) := by
  have haw := con_awake6
  refine Con.of (C := ⟨Try.prog, tc, Try.f7.ntmps⟩) [] tcok Try.func7 rfl rfl (by kernel_rfl) (by kernel_rfl) ?_
  refine AWP.seq ?_
  refine AWP.regionT tcok hmix [] [0, 1, 2, 6] [] (os := []) (s' := St.mk [(0, T.plain (u32 seq)), (1, T.plain (u8 n)), (2, T.plain (u8 b)), (6, T.plain (vb false))] []) (by kernel_rfl) trivial ?_
  refine AWP.seq ?_
  refine AWP.seq ?_
  refine AWP.regionT tcok hmix [(0, ⟨none, some ⟨vb true, [], []⟩⟩)] [0, 1, 2, 6, 15] [] (os := [Con Try.prog 31 [] [] [] (vb true)]) (s' := St.mk [(0, T.plain (u32 seq)), (1, T.plain (u8 n)), (2, T.plain (u8 b)), (6, T.plain (vb false)), (15, T.plain (vb false))] []) (by kernel_rfl) ⟨(haw ), trivial⟩ ?_
  refine AWP.cond (b := false) (by kernel_rfl) (fun h => by cases h) (fun _ => ?_)
  refine AWP.skip ?_
  refine AWP.seq ?_
  refine AWP.regionT tcok hmix [(1, ⟨some V.top, none⟩)] [0, 2, 6, 7] [17] (os := [n = n ∧ (0 : Int) ≤ n ∧ n * (↑ti_5.bytes : Int) ≤ (140737488355328 : Int) ∧ n < (9223372036854775808 : Int)]) (s' := St.mk [(0, T.plain (u32 seq)), (2, T.plain (u8 b)), (6, T.plain (vb false)), (7, T.plain (V.sl 17 0 (Int.toNat n)))]
    [(17,
        Blk.mk
          (match [Value.int IntKind.u8 0] with
          | [z] => List.replicate (Int.toNat n) (V.val z)
          | zs => zeros zs (Int.toNat n * 1))
          true 0 (some (5, 1)))]) (by kernel_rfl) ⟨(by first | omega | (show n = n ∧ 0 ≤ n ∧ n * 1 ≤ 140737488355328 ∧ n < 9223372036854775808; omega) | (simp [len_u8s]; omega) | (simp [len_u8s]; done)), trivial⟩ ?_
  refine AWP.seq ?_
  refine AWP.seq ?_
  refine AWP.regionT tcok hmix [] [0, 2, 6, 7, 19, 20] [17] (os := []) (s' := St.mk [(0, T.plain (u32 seq)), (2, T.plain (u8 b)), (6, T.plain (vb false)), (7, T.plain (V.sl 17 0 (Int.toNat n))), (19, T.plain (i64 (↑(Int.toNat n) : Int))), (20, T.plain (i64 0))]
    [(17,
        Blk.mk
          (match [Value.int IntKind.u8 0] with
          | [z] => List.replicate (Int.toNat n) (V.val z)
          | zs => zeros zs (Int.toNat n * 1))
          true 0 (some (5, 1)))]) (by kernel_rfl) trivial ?_
  refine AWP.block ?_
  refine AWP.loopI [0, 2, 7, 19, 20] [17] (fun N s' => ∃ (cs : List V) (i : Int), s' = St.mk [(0, T.plain (u32 seq)), (2, T.plain (u8 b)), (7, T.plain (V.sl 17 0 (Int.toNat n))), (19, T.plain (i64 (Int.toNat n : Int))), (20, T.plain (i64 i))] [(17, Blk.mk cs true 0 (some (5, 1)))]
      ∧ cs = u8s (fillTo n.toNat i.toNat b) ∧ 0 ≤ i ∧ i ≤ n ∧ (N : Int) = n - i) n.toNat (s0 := St.mk [(0, T.plain (u32 seq)), (2, T.plain (u8 b)), (7, T.plain (V.sl 17 0 (Int.toNat n))), (19, T.plain (i64 (Int.toNat n : Int))), (20, T.plain (i64 0))] [(17, Blk.mk (List.replicate (Int.toNat n) (u8 0)) true 0 (some (5, 1)))]) (by kernel_rfl) ?_ ?_
  · exact ⟨_, 0, rfl, by simp [fillTo, u8s], by omega, by omega, by omega⟩
  rintro N s' ⟨cs, i, rfl, hcs, hi, hi2, hN⟩
  subst hcs
  by_cases hin : i < n
  · have hfl := fillTo_len (n := n.toNat) (i := i.toNat) b (by omega)
    refine AWP.seq ?_
    refine AWP.regionT tcok hmix [] [0, 2, 7, 19, 20, 21] [17] (os := []) (s' := St.mk [(0, T.plain (u32 seq)), (2, T.plain (u8 b)), (7, T.plain (V.sl 17 0 (Int.toNat n))), (19, T.plain (i64 (↑(Int.toNat n) : Int))), (20, T.plain (i64 i)), (21, T.plain (vb (decide (i < (↑(Int.toNat n) : Int)))))] [(17, Blk.mk (u8s (fillTo (Int.toNat n) (Int.toNat i) b)) true 0 (some (5, 1)))]) (by kernel_rfl) trivial ?_
    refine AWP.seq ?_
    refine AWP.cond (b := decide (i < (↑(Int.toNat n) : Int))) (by kernel_rfl) (fun hq1 => ?_) (fun hq1 => ?_)
    · try simp only [Bool.or_false, Bool.false_or, Bool.true_and, Bool.and_true, decide_eq_true_eq, decide_eq_false_iff_not, Bool.and_eq_true, Bool.or_eq_true, Bool.or_eq_false_iff, Bool.not_eq_true', Bool.and_eq_false_iff, beq_iff_eq, bne_iff_ne, bne_eq_false_iff_eq, beq_eq_false_iff_ne, Bool.not_eq_false'] at hq1
      refine AWP.skip ?_
      refine AWP.seq ?_
      refine AWP.block ?_
      refine AWP.seq ?_
      refine AWP.regionT tcok hmix [] [0, 2, 7, 8, 19, 20] [17] (os := []) (s' := St.mk [(0, T.plain (u32 seq)), (2, T.plain (u8 b)), (7, T.plain (V.sl 17 0 (Int.toNat n))), (8, T.plain (i64 i)), (19, T.plain (i64 (↑(Int.toNat n) : Int))), (20, T.plain (i64 i))] [(17, Blk.mk (u8s (fillTo (Int.toNat n) (Int.toNat i) b)) true 0 (some (5, 1)))]) (by kernel_rfl) trivial ?_
      refine AWP.region tcok hmix [(3, ⟨some (V.ptr 17 (0 + Int.toNat i * 1)), none⟩), (4, ⟨some (V.agg true (u8s (List.set (fillTo (Int.toNat n) (Int.toNat i) b) (0 + Int.toNat i * 1) b))), none⟩)] (os := [(0 : Int) ≤ i ∧ i < (↑(Int.toNat n) : Int), V.ptr 17 (0 + Int.toNat i * 1) = V.ptr 17 (0 + Int.toNat i * 1), (1 : Nat) = (1 : Nat), (0 : Nat) + Int.toNat i * (1 : Nat) + (1 : Nat) ≤ List.length (u8s (fillTo (Int.toNat n) (Int.toNat i) b)), putC ((1 : Nat) == (1 : Nat)) (u8s (fillTo (Int.toNat n) (Int.toNat i) b)) ((0 : Nat) + Int.toNat i * (1 : Nat)) [u8 b] = u8s (List.set (fillTo (Int.toNat n) (Int.toNat i) b) ((0 : Nat) + Int.toNat i * (1 : Nat)) b)]) (sf := St.mk [(0, T.plain (u32 seq)), (2, T.plain (u8 b)), (7, T.plain (V.sl 17 0 (Int.toNat n))), (8, T.plain (i64 i)), (19, T.plain (i64 (↑(Int.toNat n) : Int))), (20, T.plain (i64 i)), (23, T.plain (V.sl 17 0 (Int.toNat n))), (24, T.plain (i64 i)), (25, T.plain (u8 b)), (26, T.plain (V.ptr 17 (0 + Int.toNat i * 1)))] [(17, Blk.mk (u8s (List.set (fillTo (Int.toNat n) (Int.toNat i) b) (0 + Int.toNat i * 1) b)) true 0 (some (5, 1)))]) (by kernel_rfl) ⟨(by omega), rfl, (by omega), (by first | omega | (simp [len_u8s]; omega) | (simp [len_u8s]; done)), (set_u8s _ _ _), trivial⟩ ?_
      refine AWP.keep' [0, 2, 7, 19, 20] [17] (sf := St.mk [(0, T.plain (u32 seq)), (2, T.plain (u8 b)), (7, T.plain (V.sl 17 0 (Int.toNat n))), (19, T.plain (i64 (↑(Int.toNat n) : Int))), (20, T.plain (i64 i))] [(17, Blk.mk (u8s (List.set (fillTo (Int.toNat n) (Int.toNat i) b) (0 + Int.toNat i * 1) b)) true 0 (some (5, 1)))]) (by kernel_rfl) ?_
      refine AWP.region tcok hmix [(0, ⟨some (i64 (i + 1)), none⟩)] (os := [i64 (IntKind.wrap IntKind.i64 (i + 1)) = i64 (i + 1)]) (sf := St.mk [(0, T.plain (u32 seq)), (2, T.plain (u8 b)), (7, T.plain (V.sl 17 0 (Int.toNat n))), (19, T.plain (i64 (↑(Int.toNat n) : Int))), (20, T.plain (i64 (i + 1))), (27, T.plain (i64 (i + 1)))] [(17, Blk.mk (u8s (List.set (fillTo (Int.toNat n) (Int.toNat i) b) (0 + Int.toNat i * 1) b)) true 0 (some (5, 1)))]) (by kernel_rfl) ⟨(wr_i64 (by omega) (by omega)), trivial⟩ ?_
      refine ⟨St.mk [(0, T.plain (u32 seq)), (2, T.plain (u8 b)), (7, T.plain (V.sl 17 0 (Int.toNat n))), (19, T.plain (i64 (↑(Int.toNat n) : Int))), (20, T.plain (i64 (i + 1)))] [(17, Blk.mk (u8s (List.set (fillTo (Int.toNat n) (Int.toNat i) b) (0 + Int.toNat i * 1) b)) true 0 (some (5, 1)))], by kernel_rfl, ?_⟩
      (exact ⟨(n - (i + 1)).toNat, (by omega), _, i + 1, rfl, (by rw [show 0 + i.toNat * 1 = i.toNat by omega, fillTo_set (by omega), show i.toNat + 1 = (i + 1).toNat by omega]), (by omega), (by omega), (by omega)⟩)
    try simp only [Bool.or_false, Bool.false_or, Bool.true_and, Bool.and_true, decide_eq_true_eq, decide_eq_false_iff_not, Bool.and_eq_true, Bool.or_eq_true, Bool.or_eq_false_iff, Bool.not_eq_true', Bool.and_eq_false_iff, beq_iff_eq, bne_iff_ne, bne_eq_false_iff_eq, beq_eq_false_iff_ne, Bool.not_eq_false'] at hq1
    (exfalso; omega)
  obtain rfl : i = n := by omega
  rw [fillTo_all]
  have hPb := rep_bl (n := i.toNat) hb
  have hPl : (List.replicate i.toNat b).length = i.toNat := List.length_replicate
  generalize List.replicate i.toNat b = P at hPb hPl
  by_cases h2 : P.length ≤ 200
  · have cmk := con_cmake_y seq hs P P.length rfl hPb h2
    have mE := mk_cE (seq := seq) (p := P) h2
    have mN := mk_cNo (seq := seq) (p := P) hs h2
    have mP := mk_cPo (seq := seq) (p := P) h2
    have mB := mk_bl hs hPb h2
    have mL := mk_len (seq := seq) (p := P)
    generalize mk seq P = Q at cmk mE mN mP mB mL
    rw [hPl] at cmk mL
    have cpa := con_cparse Q (i.toNat + 8) mL mB (by omega)
    rw [mE, mN, mP] at cpa
    refine AWP.seq ?_
    refine AWP.regionT tcok hmix [] [0, 2, 7, 19, 20, 21] [17] (os := []) (s' := St.mk [(0, T.plain (u32 seq)), (2, T.plain (u8 b)), (7, T.plain (V.sl 17 0 (Int.toNat i))), (19, T.plain (i64 (↑(Int.toNat i) : Int))), (20, T.plain (i64 i)), (21, T.plain (vb (decide (i < (↑(Int.toNat i) : Int)))))] [(17, Blk.mk (u8s P) true 0 (some (5, 1)))]) (by kernel_rfl) trivial ?_
    refine AWP.seq ?_
    refine AWP.cond (b := decide (i < (↑(Int.toNat i) : Int))) (by kernel_rfl) (fun hq2 => ?_) (fun hq2 => ?_)
    · try simp only [Bool.or_false, Bool.false_or, Bool.true_and, Bool.and_true, decide_eq_true_eq, decide_eq_false_iff_not, Bool.and_eq_true, Bool.or_eq_true, Bool.or_eq_false_iff, Bool.not_eq_true', Bool.and_eq_false_iff, beq_iff_eq, bne_iff_ne, bne_eq_false_iff_eq, beq_eq_false_iff_ne, Bool.not_eq_false'] at hq2
      (exfalso; omega)
    try simp only [Bool.or_false, Bool.false_or, Bool.true_and, Bool.and_true, decide_eq_true_eq, decide_eq_false_iff_not, Bool.and_eq_true, Bool.or_eq_true, Bool.or_eq_false_iff, Bool.not_eq_true', Bool.and_eq_false_iff, beq_iff_eq, bne_iff_ne, bne_eq_false_iff_eq, beq_eq_false_iff_ne, Bool.not_eq_false'] at hq2
    refine AWP.exit ?_
    refine AWP.seq ?_
    refine AWP.regionT tcok hmix [(2, ⟨none, some ⟨V.tup [V.sl 470005 0 (Int.toNat i + 8), i64 0], [(470005, Blk.mk (u8s Q) true 0 (some (5, 1)))], [(17, true)]⟩⟩)] [0, 7, 9, 10] [17, 790005] (os := [VO (V.tup [V.sl (470005 : Nat) (0 : Nat) (Int.toNat i + (8 : Nat)), i64 (0 : Int)]), VOH [((470005 : Nat), Blk.mk (u8s Q) true (0 : Nat) (some ((5 : Nat), (1 : Nat))))], Con Try.prog 32 [] [u32 seq, V.vs (u8s P) (Int.toNat i)] [(470005, Blk.mk (u8s Q) true 0 (some (5, 1)))] (V.tup [V.sl 470005 0 (Int.toNat i + 8), i64 0]), (0 : Nat) = (0 : Nat), Int.toNat i * (1 : Nat) = List.length (u8s P)]) (s' := St.mk [(0, T.plain (u32 seq)), (7, T.plain (V.sl 17 0 (Int.toNat i))), (9, T.plain (V.sl 790005 0 (Int.toNat i + 8))), (10, T.plain (i64 0))] [(17, Blk.mk (u8s P) true 0 (some (5, 1))), (790005, Blk.mk (u8s Q) true 0 (some (5, 1)))]) (by kernel_rfl) ⟨(VO.tup (VOL.cons (VO.sl _ _ _) (VOL.cons (VO.val _) VOL.nil))), ⟨(VOL.u8s _), trivial⟩, (cmk ), (by omega), (by first | omega | (simp [len_u8s]; omega) | (simp [len_u8s]; done)), trivial⟩ ?_
    refine AWP.seq ?_
    refine AWP.seq ?_
    refine AWP.regionT tcok hmix [] [0, 7, 9, 10, 36] [17, 790005] (os := []) (s' := St.mk [(0, T.plain (u32 seq)), (7, T.plain (V.sl 17 0 (Int.toNat i))), (9, T.plain (V.sl 790005 0 (Int.toNat i + 8))), (10, T.plain (i64 0)), (36, T.plain (vb (decide ((↑(Int.toNat i) : Int) > 200))))] [(17, Blk.mk (u8s P) true 0 (some (5, 1))), (790005, Blk.mk (u8s Q) true 0 (some (5, 1)))]) (by kernel_rfl) trivial ?_
    refine AWP.cond (b := decide ((↑(Int.toNat i) : Int) > 200)) (by kernel_rfl) (fun hq3 => ?_) (fun hq3 => ?_)
    · try simp only [Bool.or_false, Bool.false_or, Bool.true_and, Bool.and_true, decide_eq_true_eq, decide_eq_false_iff_not, Bool.and_eq_true, Bool.or_eq_true, Bool.or_eq_false_iff, Bool.not_eq_true', Bool.and_eq_false_iff, beq_iff_eq, bne_iff_ne, bne_eq_false_iff_eq, beq_eq_false_iff_ne, Bool.not_eq_false'] at hq3
      (exfalso; omega)
    try simp only [Bool.or_false, Bool.false_or, Bool.true_and, Bool.and_true, decide_eq_true_eq, decide_eq_false_iff_not, Bool.and_eq_true, Bool.or_eq_true, Bool.or_eq_false_iff, Bool.not_eq_true', Bool.and_eq_false_iff, beq_iff_eq, bne_iff_ne, bne_eq_false_iff_eq, beq_eq_false_iff_ne, Bool.not_eq_false'] at hq3
    refine AWP.skip ?_
    refine AWP.seq ?_
    refine AWP.regionT tcok hmix [(1, ⟨none, some ⟨V.tup [u32 seq, V.sl 680005 0 (List.length P), i64 0], [(680005, Blk.mk (u8s P) true 0 (some (5, 1)))], [(790005, true)]⟩⟩)] [0, 7, 9, 10, 11, 12, 13] [17, 790005, 1150005] (os := [VO (V.tup [u32 seq, V.sl (680005 : Nat) (0 : Nat) (List.length P), i64 (0 : Int)]), VOH [((680005 : Nat), Blk.mk (u8s P) true (0 : Nat) (some ((5 : Nat), (1 : Nat))))], Con Try.prog 33 [] [V.vs (u8s Q) (Int.toNat i + 8)] [(680005, Blk.mk (u8s P) true 0 (some (5, 1)))] (V.tup [u32 seq, V.sl 680005 0 (List.length P), i64 0]), (0 : Nat) = (0 : Nat), (Int.toNat i + (8 : Nat)) * (1 : Nat) = List.length (u8s Q)]) (s' := St.mk [(0, T.plain (u32 seq)), (7, T.plain (V.sl 17 0 (Int.toNat i))), (9, T.plain (V.sl 790005 0 (Int.toNat i + 8))), (10, T.plain (i64 0)), (11, T.plain (u32 seq)), (12, T.plain (V.sl 1150005 0 (List.length P))), (13, T.plain (i64 0))] [(17, Blk.mk (u8s P) true 0 (some (5, 1))), (790005, Blk.mk (u8s Q) true 0 (some (5, 1))), (1150005, Blk.mk (u8s P) true 0 (some (5, 1)))]) (by kernel_rfl) ⟨(VO.tup (VOL.cons (VO.val _) (VOL.cons (VO.sl _ _ _) (VOL.cons (VO.val _) VOL.nil)))), ⟨(VOL.u8s _), trivial⟩, (cpa ), (by omega), (by first | omega | (simp [len_u8s]; omega) | (simp [len_u8s]; done)), trivial⟩ ?_
    refine AWP.seq ?_
    refine AWP.regionT tcok hmix [(7, ⟨some (i64 ((↑(Int.toNat i) : Int) + 8)), none⟩), (22, ⟨none, some ⟨vb (decide (P = P)), [], [(1150005, true), (17, true)]⟩⟩)] [6] [] (os := [true = true → i64 (IntKind.wrap IntKind.i64 ((↑(Int.toNat i) : Int) + (8 : Int))) = i64 ((↑(Int.toNat i) : Int) + (8 : Int)) ∧ True, (true && (↑(Int.toNat i + (8 : Nat)) : Int) == (↑(Int.toNat i) : Int) + (8 : Int) && true && seq == seq) = true → VO (vb (decide (P = P))) ∧ VOH [] ∧ Con Try.prog (23 : Nat) [] [V.vs (u8s P) (Int.toNat i), V.vs (u8s P) (List.length P)] [] (vb (decide (P = P))) ∧ (0 : Nat) = (0 : Nat) ∧ Int.toNat i * (1 : Nat) = List.length (u8s P) ∧ (0 : Nat) = (0 : Nat) ∧ List.length P * (1 : Nat) = List.length (u8s P) ∧ True]) (s' := St.mk [(6, T.plain (vb (true && (↑(Int.toNat i + 8) : Int) == (↑(Int.toNat i) : Int) + 8 && true && seq == seq && decide (P = P))))] []) (by kernel_rfl) ⟨(by intro hc0; first | (cases hc0; done) | (try simp only [Bool.or_false, Bool.false_or, Bool.true_and, Bool.and_true, decide_eq_true_eq, decide_eq_false_iff_not, Bool.and_eq_true, Bool.or_eq_true, Bool.or_eq_false_iff, Bool.not_eq_true', Bool.and_eq_false_iff, beq_iff_eq, bne_iff_ne, bne_eq_false_iff_eq, beq_eq_false_iff_ne, Bool.not_eq_false'] at hc0; exact ⟨(wr_i64 (by omega) (by omega)), trivial⟩)), (by intro hc0; first | (cases hc0; done) | (try simp only [Bool.or_false, Bool.false_or, Bool.true_and, Bool.and_true, decide_eq_true_eq, decide_eq_false_iff_not, Bool.and_eq_true, Bool.or_eq_true, Bool.or_eq_false_iff, Bool.not_eq_true', Bool.and_eq_false_iff, beq_iff_eq, bne_iff_ne, bne_eq_false_iff_eq, beq_eq_false_iff_ne, Bool.not_eq_false'] at hc0; exact ⟨(VO.val _), trivial, (Go.Proofs.Ytmeiemdnhjnpcaa.con_samen (P) (P) (Int.toNat i) (List.length P) (by (first | assumption | omega | (simp [len_u8s]; done) | (simp [len_u8s]; omega))) (by (first | assumption | omega | (simp [len_u8s]; done) | (simp [len_u8s]; omega))) (by (first | assumption | omega | (simp [len_u8s]; done) | (simp [len_u8s]; omega))) (by (first | assumption | omega | (simp [len_u8s]; done) | (simp [len_u8s]; omega)))), (by omega), (by first | omega | (simp [len_u8s]; omega) | (simp [len_u8s]; done)), (by omega), (by first | omega | (simp [len_u8s]; omega) | (simp [len_u8s]; done)), trivial⟩)), trivial⟩ ?_
    refine AWP.ret ?_
    refine ⟨Or.inr rfl, Eq.trans (b := some ([], vb (true && (↑(Int.toNat i + 8) : Int) == (↑(Int.toNat i) : Int) + 8 && true && seq == seq && decide (P = P)))) (by kernel_rfl) ?_⟩
    first | rfl | (simp [hPl]; done) | (simp; done) | (simp; omega)
  · refine AWP.seq ?_
    refine AWP.regionT tcok hmix [] [0, 2, 7, 19, 20, 21] [17] (os := []) (s' := St.mk [(0, T.plain (u32 seq)), (2, T.plain (u8 b)), (7, T.plain (V.sl 17 0 (Int.toNat i))), (19, T.plain (i64 (↑(Int.toNat i) : Int))), (20, T.plain (i64 i)), (21, T.plain (vb (decide (i < (↑(Int.toNat i) : Int)))))] [(17, Blk.mk (u8s P) true 0 (some (5, 1)))]) (by kernel_rfl) trivial ?_
    refine AWP.seq ?_
    refine AWP.cond (b := decide (i < (↑(Int.toNat i) : Int))) (by kernel_rfl) (fun hq4 => ?_) (fun hq4 => ?_)
    · try simp only [Bool.or_false, Bool.false_or, Bool.true_and, Bool.and_true, decide_eq_true_eq, decide_eq_false_iff_not, Bool.and_eq_true, Bool.or_eq_true, Bool.or_eq_false_iff, Bool.not_eq_true', Bool.and_eq_false_iff, beq_iff_eq, bne_iff_ne, bne_eq_false_iff_eq, beq_eq_false_iff_ne, Bool.not_eq_false'] at hq4
      (exfalso; omega)
    try simp only [Bool.or_false, Bool.false_or, Bool.true_and, Bool.and_true, decide_eq_true_eq, decide_eq_false_iff_not, Bool.and_eq_true, Bool.or_eq_true, Bool.or_eq_false_iff, Bool.not_eq_true', Bool.and_eq_false_iff, beq_iff_eq, bne_iff_ne, bne_eq_false_iff_eq, beq_eq_false_iff_ne, Bool.not_eq_false'] at hq4
    refine AWP.exit ?_
    refine AWP.seq ?_
    refine AWP.regionT tcok hmix [(2, ⟨none, some ⟨V.tup [V.sl 4 0 0, i64 4], [(4, Blk.mk [] true 0 (some (5, 1)))], [(17, true)]⟩⟩)] [0, 7, 9, 10] [17, 320004] (os := [VO (V.tup [V.sl (4 : Nat) (0 : Nat) (0 : Nat), i64 (4 : Int)]), VOH [((4 : Nat), Blk.mk [] true (0 : Nat) (some ((5 : Nat), (1 : Nat))))], Con Try.prog 32 [] [u32 seq, V.vs (u8s P) (Int.toNat i)] [(4, Blk.mk [] true 0 (some (5, 1)))] (V.tup [V.sl 4 0 0, i64 4]), (0 : Nat) = (0 : Nat), Int.toNat i * (1 : Nat) = List.length (u8s P)]) (s' := St.mk [(0, T.plain (u32 seq)), (7, T.plain (V.sl 17 0 (Int.toNat i))), (9, T.plain (V.sl 320004 0 0)), (10, T.plain (i64 4))] [(17, Blk.mk (u8s P) true 0 (some (5, 1))), (320004, Blk.mk [] true 0 (some (5, 1)))]) (by kernel_rfl) ⟨(VO.tup (VOL.cons (VO.sl _ _ _) (VOL.cons (VO.val _) VOL.nil))), ⟨VOL.nil, trivial⟩, (Go.Proofs.Ytmeiemdnhjnpcaa.con_cmake_n (seq) (P) (Int.toNat i) (by (first | assumption | omega | (simp [len_u8s]; done) | (simp [len_u8s]; omega))) (by (first | assumption | omega | (simp [len_u8s]; done) | (simp [len_u8s]; omega))) (by (first | assumption | omega | (simp [len_u8s]; done) | (simp [len_u8s]; omega)))), (by omega), (by first | omega | (simp [len_u8s]; omega) | (simp [len_u8s]; done)), trivial⟩ ?_
    refine AWP.seq ?_
    refine AWP.seq ?_
    refine AWP.regionT tcok hmix [] [0, 7, 9, 10, 36] [17, 320004] (os := []) (s' := St.mk [(0, T.plain (u32 seq)), (7, T.plain (V.sl 17 0 (Int.toNat i))), (9, T.plain (V.sl 320004 0 0)), (10, T.plain (i64 4)), (36, T.plain (vb (decide ((↑(Int.toNat i) : Int) > 200))))] [(17, Blk.mk (u8s P) true 0 (some (5, 1))), (320004, Blk.mk [] true 0 (some (5, 1)))]) (by kernel_rfl) trivial ?_
    refine AWP.cond (b := decide ((↑(Int.toNat i) : Int) > 200)) (by kernel_rfl) (fun hq5 => ?_) (fun hq5 => ?_)
    · try simp only [Bool.or_false, Bool.false_or, Bool.true_and, Bool.and_true, decide_eq_true_eq, decide_eq_false_iff_not, Bool.and_eq_true, Bool.or_eq_true, Bool.or_eq_false_iff, Bool.not_eq_true', Bool.and_eq_false_iff, beq_iff_eq, bne_iff_ne, bne_eq_false_iff_eq, beq_eq_false_iff_ne, Bool.not_eq_false'] at hq5
      refine AWP.seq ?_
      refine AWP.regionT tcok hmix [] [0, 6, 7, 9, 10] [17, 320004] (os := []) (s' := St.mk [(0, T.plain (u32 seq)), (6, T.plain (vb true)), (7, T.plain (V.sl 17 0 (Int.toNat i))), (9, T.plain (V.sl 320004 0 0)), (10, T.plain (i64 4))] [(17, Blk.mk (u8s P) true 0 (some (5, 1))), (320004, Blk.mk [] true 0 (some (5, 1)))]) (by kernel_rfl) trivial ?_
      refine AWP.ret ?_
      refine ⟨Or.inr rfl, Eq.trans (b := some ([], vb true)) (by kernel_rfl) ?_⟩
      first | rfl | (simp; done) | (simp; omega)
    try simp only [Bool.or_false, Bool.false_or, Bool.true_and, Bool.and_true, decide_eq_true_eq, decide_eq_false_iff_not, Bool.and_eq_true, Bool.or_eq_true, Bool.or_eq_false_iff, Bool.not_eq_true', Bool.and_eq_false_iff, beq_iff_eq, bne_iff_ne, bne_eq_false_iff_eq, beq_eq_false_iff_ne, Bool.not_eq_false'] at hq5
    (exfalso; omega)
theorem law_CellLong (seq n b : V) (hs : TyV tc 9 54 seq) (hn : TyV tc 9 5 n) (hb : TyV tc 9 5 b) : Con Try.prog 7 [] [seq, n, b] [] (vb true) := by
  obtain ⟨s, e1, s1, s2⟩ := hs
  obtain ⟨m, e2, a1, a2⟩ := hn
  obtain ⟨t, e3, t1, t2⟩ := hb
  cases e1
  cases e2
  cases e3
  exact law6_long s m t ⟨s1, Int.lt_add_one_of_le s2⟩ ⟨a1, Int.lt_add_one_of_le a2⟩ ⟨t1, Int.lt_add_one_of_le t2⟩
end Go.Proofs.Ytmeiemdnhjnpcaa
