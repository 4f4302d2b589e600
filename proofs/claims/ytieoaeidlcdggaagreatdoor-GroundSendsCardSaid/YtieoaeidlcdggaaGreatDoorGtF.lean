/- The document's answer to a packet of a command that may be. -/
import Derived.Test.YtieoaeidlcdggaaGreatDoorRg
import Derived.Test.YtieoaeidlcdggaaGreatDoorGtE
namespace Go.Proofs.YtieoaeidlcdggaaGreatDoor
open Go Go.Ab
set_option linter.unusedSimpArgs false
set_option linter.unusedVariables false
set_option maxRecDepth 100000
theorem con_judge (ap c : Int) (hap : 0 ≤ ap ∧ ap < 2048) (hc : 0 ≤ c ∧ c < 16384) (ds : List Int) (hd : BL ds) (hl : ds.length ≤ 100) (k : Nat) (hk : k < 19) (hm : mOf k = ds.length) :
    Con Tryz.prog 9 [] [.vs (u8s (pkB ap c (cmdB (sOf k) (tOf k) ds))) (5 + ds.length + 8), u16 ap, .vs rcells 19] [(960005, ⟨u8s ds, true, 0, some (5, 1)⟩)] (.tup [i64 0, .agg false [u8 9, u8 (sOf k), u8 (tOf k), u16 0, .sl 960005 0 ds.length]]) := by
  have hrow : ∀ i : Nat, i < 19 → List.drop (i * 4) rcells = u8 (sOf i) :: u8 (tOf i) :: i64 (mOf i) :: i64 (mOf i) :: List.drop ((i + 1) * 4) rcells := fun i h => row_at h
  have hlen : rcells.length = 76 := rfl
  have hbk := row_bd hk
  have hcb : BL (cmdB (sOf k) (tOf k) ds) := (BL.cons ⟨by omega, by omega⟩ (BL.cons hbk.1 (BL.cons hbk.2.1 (BL.cons ⟨by omega, by omega⟩ (BL.cons ⟨by omega, by omega⟩ BL.nil))))).app hd
  have hcl : (cmdB (sOf k) (tOf k) ds).length = 5 + ds.length := by unfold cmdB; rw [List.length_append]; rfl
  have c1 := con_rpk ap c hap hc (cmdB (sOf k) (tOf k) ds) hcb (by omega) (by omega)
  have c2 := con_rp10 (sOf k) (tOf k) ds hl hcb
  have c3 := con_rlast
  have hP := pkB_bl hap hc hcb (by omega)
  have hlen := pkB_len ap c (cmdB (sOf k) (tOf k) ds)
  have hsh := pkB_shape ap c (cmdB (sOf k) (tOf k) ds)
  rw [hcl] at c1 hlen hsh
  change Con _ _ _ _ _ _ at c2
  have e0 : cmdB (sOf k) (tOf k) ds = 41 :: sOf k :: tOf k :: 0 :: 0 :: ds := rfl
  generalize pkB ap c (cmdB (sOf k) (tOf k) ds) = P at *
  have c4 : Con Tryz.prog 19 [] [.vs (u8s ((P.drop 4).take 2)) 2] [] (u64 ((5 + ds.length : Nat) + 1)) := by
    have e45 : ((P.drop 4).take 2).getD 0 0 * 256 + ((P.drop 4).take 2).getD 1 0 = ((5 + ds.length : Nat) : Int) + 1 := by rw [hsh]; show (((5 + ds.length : Nat) : Int) + 1) / 256 * 256 + (((5 + ds.length : Nat) : Int) + 1) % 256 = _; omega
    rw [← e45]
    exact con_val2d _ 2 rfl (by rw [List.length_take, List.length_drop]; omega) (BL.take (BL.drop hP 4) 2)
  rw [← e0] at c2
  generalize cmdB (sOf k) (tOf k) ds = D at *
  obtain ⟨L, hL⟩ : ∃ L, rcells = L := ⟨_, rfl⟩
  rw [hL] at hrow c3 ⊢
  refine Con.of (C := ⟨Tryz.prog, tc, Tryz.f9.ntmps⟩) [960005] tcok Tryz.func9 rfl rfl (by kernel_rfl) (by kernel_rfl) ?_
  refine AWP.seq ?_
  refine AWP.regionT tcok hmix [] [0, 1, 2, 6, 7] [7] (os := []) (s' := St.mk [(0, tp (V.vs (u8s P) (5 + List.length ds + 8))), (1, tp (u16 ap)), (2, tp (V.vs L 19)), (6, tp (i64 0)), (7, tp (V.ptr 7 0))] [(7, Blk.mk [u8 0, u8 0, u8 0, u16 0, V.val (Value.slice none 0 0)] true 5 none)]) (by kernel_rfl) trivial ?_
  refine xe0 [0, 1, 2, 6, 7, 8] [7, 8] (by kernel_rfl) ?_
  refine AWP.seq ?_
  refine xe1 (os := [decide ((↑((5 : Nat) + List.length ds + (8 : Nat)) : Int) < (9 : Int)) = false → ((0 : Int) ≤ (4 : Int) ∧ (4 : Int) ≤ (6 : Int) ∧ (6 : Int) ≤ (↑((5 : Nat) + List.length ds + (8 : Nat)) : Int)) ∧ V.vs (subV (u8s P) (some (i64 (4 : Int))) (some (i64 (6 : Int))) (Int.toNat (4 : Int) * (1 : Nat)) (Int.toNat (6 : Int) * (1 : Nat)) ((Int.toNat (6 : Int) - Int.toNat (4 : Int)) * (1 : Nat))) (2 : Nat) = V.vs (u8s (List.take (2 : Nat) (List.drop (4 : Nat) P))) (2 : Nat) ∧ True, decide ((↑((5 : Nat) + List.length ds + (8 : Nat)) : Int) < (9 : Int)) = false → Con Tryz.prog (19 : Nat) [] [V.vs (u8s (List.take (2 : Nat) (List.drop (4 : Nat) P))) (2 : Nat)] [] (u64 ((↑((5 : Nat) + List.length ds) : Int) + (1 : Int))) ∧ True, decide ((↑((5 : Nat) + List.length ds + (8 : Nat)) : Int) < (9 : Int)) = false → i64 (IntKind.wrap IntKind.i64 ((↑((5 : Nat) + List.length ds) : Int) + (1 : Int))) = i64 ((↑((5 : Nat) + List.length ds) : Int) + (1 : Int)) ∧ True, decide ((↑((5 : Nat) + List.length ds + (8 : Nat)) : Int) < (9 : Int)) = false → i64 (IntKind.wrap IntKind.i64 ((↑((5 : Nat) + List.length ds) : Int) + (1 : Int) + (7 : Int))) = i64 ((↑((5 : Nat) + List.length ds) : Int) + (1 : Int) + (7 : Int)) ∧ True]) [(5, ⟨some (V.vs (u8s (List.take 2 (List.drop 4 P))) 2), none⟩), (6, ⟨none, some ⟨u64 ((↑(5 + List.length ds) : Int) + 1), [], []⟩⟩), (7, ⟨some (i64 ((↑(5 + List.length ds) : Int) + 1)), none⟩), (8, ⟨some (i64 ((↑(5 + List.length ds) : Int) + 1 + 7)), none⟩)] [0, 1, 2, 6, 7, 8, 33] [7, 8] (by kernel_rfl) ⟨(by intro hc0; first | (cases hc0; done) | ((try simp only [Bool.or_false, Bool.false_or, Bool.true_and, Bool.and_true, decide_eq_true_eq, decide_eq_false_iff_not, Bool.and_eq_true, Bool.or_eq_true, Bool.or_eq_false_iff, Bool.not_eq_true', Bool.and_eq_false_iff, beq_iff_eq, bne_iff_ne, bne_eq_false_iff_eq, beq_eq_false_iff_ne, Bool.not_eq_false'] at hc0); exact ⟨(by omega), (by first | rfl | (simp only [subV, u8s_drop, u8s_take, List.drop_zero, Nat.mul_one, Nat.one_mul, Nat.sub_zero, Nat.zero_add, Int.toNat_zero, Int.toNat_natCast]; first | done | rfl | (rw [List.take_of_length_le (by first | omega | (simp; done) | (simp; omega))]; first | done | rfl)) | (simp [subV, u8s_drop, u8s_take]; done)), trivial⟩)), (fun _ => ⟨(c4 ), trivial⟩), (by intro hc0; first | (cases hc0; done) | ((try simp only [Bool.or_false, Bool.false_or, Bool.true_and, Bool.and_true, decide_eq_true_eq, decide_eq_false_iff_not, Bool.and_eq_true, Bool.or_eq_true, Bool.or_eq_false_iff, Bool.not_eq_true', Bool.and_eq_false_iff, beq_iff_eq, bne_iff_ne, bne_eq_false_iff_eq, beq_eq_false_iff_ne, Bool.not_eq_false'] at hc0); exact ⟨(wr_i64 (by omega) (by omega)), trivial⟩)), (by intro hc0; first | (cases hc0; done) | ((try simp only [Bool.or_false, Bool.false_or, Bool.true_and, Bool.and_true, decide_eq_true_eq, decide_eq_false_iff_not, Bool.and_eq_true, Bool.or_eq_true, Bool.or_eq_false_iff, Bool.not_eq_true', Bool.and_eq_false_iff, beq_iff_eq, bne_iff_ne, bne_eq_false_iff_eq, beq_eq_false_iff_ne, Bool.not_eq_false'] at hc0); exact ⟨(wr_i64 (by omega) (by omega)), trivial⟩)), trivial⟩ ?_
  refine AWP.cond (b := decide ((↑(5 + List.length ds + 8) : Int) < 9) || (↑(5 + List.length ds) : Int) + 1 + 7 != (↑(5 + List.length ds + 8) : Int) || decide ((↑(5 + List.length ds + 8) : Int) > 208)) (by kernel_rfl) (fun hq0 => ?_) (fun hq0 => ?_)
  · simp only [decide_eq_true_eq, Bool.or_eq_true, bne_iff_ne] at hq0
    (exfalso; omega)
  simp only [decide_eq_false_iff_not, Bool.or_eq_false_iff, bne_eq_false_iff_eq] at hq0
  refine AWP.skip ?_
  refine AWP.seq ?_
  refine AWP.regionT tcok hmix [(1, ⟨none, some ⟨V.tup [V.agg false [vb true, u16 ap, u16 c, V.sl 610005 0 (5 + List.length ds)], i64 0], [(610005, Blk.mk (u8s D) true 0 (some (5, 1)))], []⟩⟩)] [1, 2, 6, 7, 8, 9, 10] [7, 8, 9, 990005] (os := [Con Tryz.prog 8 [] [V.vs (u8s P) (5 + List.length ds + 8)] [(610005, Blk.mk (u8s D) true 0 (some (5, 1)))] (V.tup [V.agg false [vb true, u16 ap, u16 c, V.sl 610005 0 (5 + List.length ds)], i64 0])]) (s' := St.mk [(1, tp (u16 ap)), (2, tp (V.vs L 19)), (6, tp (i64 0)), (7, tp (V.ptr 7 0)), (8, tp (V.ptr 8 0)), (9, tp (V.ptr 9 0)), (10, tp (i64 0))] [(7, Blk.mk [u8 0, u8 0, u8 0, u16 0, V.val (Value.slice none 0 0)] true 5 none), (8, Blk.mk [u8 0, u8 0, u8 0, u16 0, V.val (Value.slice none 0 0)] true 5 none), (9, Blk.mk [vb true, u16 ap, u16 c, V.sl 990005 0 (5 + List.length ds)] false 4 none), (990005, Blk.mk (u8s D) true 0 (some (5, 1)))]) (by kernel_rfl) ⟨(c1 ), trivial⟩ ?_
  refine AWP.seq ?_
  refine xe0 [1, 2, 6, 7, 8, 9, 10, 41] [7, 8, 9, 990005] (by kernel_rfl) ?_
  refine AWP.condF (by kernel_rfl) ?_
  refine AWP.skip ?_
  refine AWP.seq ?_
  refine xe0 [1, 2, 6, 7, 8, 9, 10, 44] [7, 8, 9, 990005] (by kernel_rfl) ?_
  refine AWP.condF (by kernel_rfl) ?_
  refine AWP.skip ?_
  refine AWP.seq ?_
  refine xe0 [2, 6, 7, 8, 9, 10, 54] [7, 8, 9, 990005] (by kernel_rfl) ?_
  refine AWP.cond (b := false || ap != ap) (by kernel_rfl) (fun hq3 => ?_) (fun hq3 => ?_)
  · simp only [Bool.false_or, bne_iff_ne] at hq3
    (exfalso; omega)
  simp only [Bool.false_or, bne_eq_false_iff_eq] at hq3
  refine AWP.skip ?_
  refine AWP.seq ?_
  refine AWP.regionT tcok hmix [(2, ⟨none, some ⟨V.tup [V.agg false [u8 9, u8 (sOf k), u8 (tOf k), u16 0, V.sl 360005 0 (List.length ds)], i64 0], [(360005, Blk.mk (u8s ds) true 0 (some (5, 1)))], [(990005, true)]⟩⟩)] [2, 6, 7, 8, 10, 11] [7, 8, 11, 960005] (os := [VO (V.tup [V.agg false [u8 (9 : Int), u8 (sOf k), u8 (tOf k), u16 (0 : Int), V.sl (360005 : Nat) (0 : Nat) (List.length ds)], i64 (0 : Int)]), VOH [((360005 : Nat), Blk.mk (u8s ds) true (0 : Nat) (some ((5 : Nat), (1 : Nat))))], Con Tryz.prog 22 [] [V.vs (u8s D) (5 + List.length ds)] [(360005, Blk.mk (u8s ds) true 0 (some (5, 1)))] (V.tup [V.agg false [u8 9, u8 (sOf k), u8 (tOf k), u16 0, V.sl 360005 0 (List.length ds)], i64 0]), (0 : Nat) = (0 : Nat), ((5 : Nat) + List.length ds) * (1 : Nat) = List.length (u8s D)]) (s' := St.mk [(2, tp (V.vs L 19)), (6, tp (i64 0)), (7, tp (V.ptr 7 0)), (8, tp (V.ptr 8 0)), (10, tp (i64 0)), (11, tp (V.ptr 11 0))] [(7, Blk.mk [u8 0, u8 0, u8 0, u16 0, V.val (Value.slice none 0 0)] true 5 none), (8, Blk.mk [u8 0, u8 0, u8 0, u16 0, V.val (Value.slice none 0 0)] true 5 none), (11, Blk.mk [u8 9, u8 (sOf k), u8 (tOf k), u16 0, V.sl 960005 0 (List.length ds)] false 5 none), (960005, Blk.mk (u8s ds) true 0 (some (5, 1)))]) (by kernel_rfl) ⟨(VO.tup (VOL.cons (VO.agg (VOL.cons (VO.val _) (VOL.cons (VO.val _) (VOL.cons (VO.val _) (VOL.cons (VO.val _) (VOL.cons (VO.sl _ _ _) VOL.nil)))))) (VOL.cons (VO.val _) VOL.nil))), ⟨(VOL.u8s _), trivial⟩, (c2 ), (by omega), (by (simp [len_u8s]; omega)), trivial⟩ ?_
  refine AWP.seq ?_
  refine xe0 [2, 6, 7, 8, 11, 63] [7, 8, 11, 960005] (by kernel_rfl) ?_
  refine AWP.condF (by kernel_rfl) ?_
  refine AWP.skip ?_
  refine xe0 [2, 6, 7, 8, 11, 12] [7, 8, 11, 960005] (by kernel_rfl) ?_
  refine AWP.seq ?_
  refine xe1 (os := [Con Tryz.prog 23 [] [V.vs L 19] [] (V.vs L 19)]) [(1, ⟨none, some ⟨V.vs L 19, [], []⟩⟩)] [6, 7, 8, 11, 12, 66, 67, 68] [7, 8, 11, 960005] (by kernel_rfl) ⟨(c3 ), trivial⟩ ?_
  refine AWP.block ?_
  clear c1 c2 c3 c4 hsh e0 hcb hP
  refine AWP.loopI [6, 7, 8, 11, 12, 66, 67, 68] [7, 8, 11, 960005] (fun N s' => ∃ (i code : Int), s' = St.mk [(6, T.plain (i64 0)), (7, T.plain (V.ptr 7 0)), (8, T.plain (V.ptr 8 0)), (11, T.plain (V.ptr 11 0)), (12, T.plain (i64 code)), (66, T.plain (V.vs L 19)), (67, T.plain (i64 19)), (68, T.plain (i64 i))] [(7, Blk.mk [u8 0, u8 0, u8 0, u16 0, V.val (Value.slice none 0 0)] true 5 none), (8, Blk.mk [u8 0, u8 0, u8 0, u16 0, V.val (Value.slice none 0 0)] true 5 none), (11, Blk.mk [u8 9, u8 (sOf k), u8 (tOf k), u16 0, V.sl 960005 0 (List.length ds)] false 5 none), (960005, Blk.mk (u8s ds) true 0 (some (5, 1)))]
      ∧ 0 ≤ i ∧ i ≤ k ∧ (N : Int) = k - i) k (s0 := St.mk [(6, T.plain (i64 0)), (7, T.plain (V.ptr 7 0)), (8, T.plain (V.ptr 8 0)), (11, T.plain (V.ptr 11 0)), (12, T.plain (i64 4)), (66, T.plain (V.vs L 19)), (67, T.plain (i64 19)), (68, T.plain (i64 0))] [(7, Blk.mk [u8 0, u8 0, u8 0, u16 0, V.val (Value.slice none 0 0)] true 5 none), (8, Blk.mk [u8 0, u8 0, u8 0, u16 0, V.val (Value.slice none 0 0)] true 5 none), (11, Blk.mk [u8 9, u8 (sOf k), u8 (tOf k), u16 0, V.sl 960005 0 (List.length ds)] false 5 none), (960005, Blk.mk (u8s ds) true 0 (some (5, 1)))]) (by kernel_rfl) ?_ ?_
  · exact ⟨0, 4, rfl, by omega, by omega, by omega⟩
  rintro N s' ⟨i, code, rfl, hi, hi2, hN⟩
  have hrow1 := hrow i.toNat (by omega)
  have hbd := row_bd (i := i.toNat) (by omega)
  have hi19 : i < 19 := by omega
  by_cases hik : i.toNat = k
  · rw [show sOf i.toNat = sOf k by rw [hik], show tOf i.toNat = tOf k by rw [hik], show mOf i.toNat = mOf k by rw [hik]] at hrow1 hbd
    generalize sOf k = s at *
    generalize tOf k = t at *
    generalize mOf k = m at *
    clear hrow
    refine AWP.seq ?_
    refine AWP.regionT tcok hmix [] [6, 7, 8, 11, 12, 66, 67, 68, 69] [7, 8, 11, 960005] (os := []) (s' := St.mk [(6, tp (i64 0)), (7, tp (V.ptr 7 0)), (8, tp (V.ptr 8 0)), (11, tp (V.ptr 11 0)), (12, tp (i64 code)), (66, tp (V.vs L 19)), (67, tp (i64 19)), (68, tp (i64 i)), (69, tp (vb (decide (i < 19))))] [(7, Blk.mk [u8 0, u8 0, u8 0, u16 0, V.val (Value.slice none 0 0)] true 5 none), (8, Blk.mk [u8 0, u8 0, u8 0, u16 0, V.val (Value.slice none 0 0)] true 5 none), (11, Blk.mk [u8 9, u8 s, u8 t, u16 0, V.sl 960005 0 (List.length ds)] false 5 none), (960005, Blk.mk (u8s ds) true 0 (some (5, 1)))]) (by kernel_rfl) trivial ?_
    refine AWP.seq ?_
    refine AWP.cond (b := decide (i < 19)) (by kernel_rfl) (fun hq5 => ?_) (fun hq5 => ?_)
    · simp only [decide_eq_true_eq] at hq5
      refine AWP.skip ?_
      refine AWP.seq ?_
      refine AWP.block ?_
      refine AWP.seq ?_
      refine AWP.regionT tcok hmix [(0, ⟨some (V.vp (u8 s :: u8 t :: i64 m :: i64 m :: List.drop ((Int.toNat i + 1) * 4) L)), none⟩)] [6, 7, 8, 11, 12, 14, 66, 67, 68] [7, 8, 11, 14, 960005] (os := [(0 : Int) ≤ i ∧ i < (↑(19 : Nat) : Int), V.vp (List.drop (Int.toNat i * 4) L) = V.vp (u8 s :: u8 t :: i64 m :: i64 m :: List.drop ((Int.toNat i + 1) * 4) L)]) (s' := St.mk [(6, tp (i64 0)), (7, tp (V.ptr 7 0)), (8, tp (V.ptr 8 0)), (11, tp (V.ptr 11 0)), (12, tp (i64 code)), (14, tp (V.ptr 14 0)), (66, tp (V.vs L 19)), (67, tp (i64 19)), (68, tp (i64 i))] [(7, Blk.mk [u8 0, u8 0, u8 0, u16 0, V.val (Value.slice none 0 0)] true 5 none), (8, Blk.mk [u8 0, u8 0, u8 0, u16 0, V.val (Value.slice none 0 0)] true 5 none), (11, Blk.mk [u8 9, u8 s, u8 t, u16 0, V.sl 960005 0 (List.length ds)] false 5 none), (14, Blk.mk [u8 s, u8 t, i64 m, i64 m] true 4 none), (960005, Blk.mk (u8s ds) true 0 (some (5, 1)))]) (by kernel_rfl) ⟨(by omega), (congrArg V.vp hrow1), trivial⟩ ?_
      refine xe0 [6, 7, 8, 11, 12, 14, 66, 67, 68, 76] [7, 8, 11, 14, 960005] (by kernel_rfl) ?_
      refine AWP.cond (b := s == s) (by kernel_rfl) (fun hq6 => ?_) (fun hq6 => ?_)
      · simp only [beq_iff_eq] at hq6
        refine AWP.seq ?_
        refine AWP.seq ?_
        refine AWP.regionT tcok hmix [] [6, 7, 8, 11, 12, 14, 66, 67, 68, 81] [7, 8, 11, 14, 960005] (os := []) (s' := St.mk [(6, tp (i64 0)), (7, tp (V.ptr 7 0)), (8, tp (V.ptr 8 0)), (11, tp (V.ptr 11 0)), (12, tp (i64 code)), (14, tp (V.ptr 14 0)), (66, tp (V.vs L 19)), (67, tp (i64 19)), (68, tp (i64 i)), (81, tp (vb (t == t)))] [(7, Blk.mk [u8 0, u8 0, u8 0, u16 0, V.val (Value.slice none 0 0)] true 5 none), (8, Blk.mk [u8 0, u8 0, u8 0, u16 0, V.val (Value.slice none 0 0)] true 5 none), (11, Blk.mk [u8 9, u8 s, u8 t, u16 0, V.sl 960005 0 (List.length ds)] false 5 none), (14, Blk.mk [u8 s, u8 t, i64 m, i64 m] true 4 none), (960005, Blk.mk (u8s ds) true 0 (some (5, 1)))]) (by kernel_rfl) trivial ?_
        refine AWP.cond (b := t == t) (by kernel_rfl) (fun hq7 => ?_) (fun hq7 => ?_)
        · simp only [beq_iff_eq] at hq7
          refine AWP.seq ?_
          refine AWP.seq ?_
          refine AWP.regionT tcok hmix [] [6, 7, 8, 11, 12, 66, 67, 68, 95] [7, 8, 11, 960005] (os := []) (s' := St.mk [(6, tp (i64 0)), (7, tp (V.ptr 7 0)), (8, tp (V.ptr 8 0)), (11, tp (V.ptr 11 0)), (12, tp (i64 code)), (66, tp (V.vs L 19)), (67, tp (i64 19)), (68, tp (i64 i)), (95, tp (vb (decide ((↑(List.length ds) : Int) < m) || decide ((↑(List.length ds) : Int) > m))))] [(7, Blk.mk [u8 0, u8 0, u8 0, u16 0, V.val (Value.slice none 0 0)] true 5 none), (8, Blk.mk [u8 0, u8 0, u8 0, u16 0, V.val (Value.slice none 0 0)] true 5 none), (11, Blk.mk [u8 9, u8 s, u8 t, u16 0, V.sl 960005 0 (List.length ds)] false 5 none), (960005, Blk.mk (u8s ds) true 0 (some (5, 1)))]) (by kernel_rfl) trivial ?_
          refine AWP.cond (b := decide ((↑(List.length ds) : Int) < m) || decide ((↑(List.length ds) : Int) > m)) (by kernel_rfl) (fun hq8 => ?_) (fun hq8 => ?_)
          · simp only [decide_eq_true_eq, Bool.or_eq_true] at hq8
            (exfalso; omega)
          simp only [decide_eq_false_iff_not, Bool.or_eq_false_iff] at hq8
          refine AWP.skip ?_
          refine AWP.seq ?_
          refine AWP.regionT tcok hmix [] [6, 7, 8, 11, 12, 66, 67, 68] [7, 8, 11, 960005] (os := []) (s' := St.mk [(6, tp (i64 0)), (7, tp (V.ptr 7 0)), (8, tp (V.ptr 8 0)), (11, tp (V.ptr 11 0)), (12, tp (i64 code)), (66, tp (V.vs L 19)), (67, tp (i64 19)), (68, tp (i64 i))] [(7, Blk.mk [u8 9, u8 s, u8 t, u16 0, V.sl 960005 0 (List.length ds)] false 5 none), (8, Blk.mk [u8 0, u8 0, u8 0, u16 0, V.val (Value.slice none 0 0)] true 5 none), (11, Blk.mk [u8 9, u8 s, u8 t, u16 0, V.sl 960005 0 (List.length ds)] false 5 none), (960005, Blk.mk (u8s ds) true 0 (some (5, 1)))]) (by kernel_rfl) trivial ?_
          refine AWP.ret ?_
          refine ⟨Or.inr rfl, Eq.trans (b := some ([(960005, Blk.mk (u8s ds) true 0 (some (5, 1)))], V.tup [i64 0, V.agg false [u8 9, u8 s, u8 t, u16 0, V.sl 960005 0 (List.length ds)]])) (by kernel_rfl) ?_⟩
          first | rfl | (exfalso; omega)
        simp only [beq_eq_false_iff_ne] at hq7
        (exfalso; omega)
      simp only [beq_eq_false_iff_ne] at hq6
      (exfalso; omega)
    simp only [decide_eq_false_iff_not] at hq5
    (exfalso; omega)
  · have hne := row_ne (i := i.toNat) (j := k) (by omega) hk
    generalize sOf i.toNat = s at *
    generalize tOf i.toNat = t at *
    generalize mOf i.toNat = m at *
    generalize sOf k = s2 at *
    generalize tOf k = t2 at *
    clear hrow
    refine AWP.seq ?_
    refine AWP.regionT tcok hmix [] [6, 7, 8, 11, 12, 66, 67, 68, 69] [7, 8, 11, 960005] (os := []) (s' := St.mk [(6, tp (i64 0)), (7, tp (V.ptr 7 0)), (8, tp (V.ptr 8 0)), (11, tp (V.ptr 11 0)), (12, tp (i64 code)), (66, tp (V.vs L 19)), (67, tp (i64 19)), (68, tp (i64 i)), (69, tp (vb (decide (i < 19))))] [(7, Blk.mk [u8 0, u8 0, u8 0, u16 0, V.val (Value.slice none 0 0)] true 5 none), (8, Blk.mk [u8 0, u8 0, u8 0, u16 0, V.val (Value.slice none 0 0)] true 5 none), (11, Blk.mk [u8 9, u8 s2, u8 t2, u16 0, V.sl 960005 0 (List.length ds)] false 5 none), (960005, Blk.mk (u8s ds) true 0 (some (5, 1)))]) (by kernel_rfl) trivial ?_
    refine AWP.seq ?_
    refine AWP.cond (b := decide (i < 19)) (by kernel_rfl) (fun hq9 => ?_) (fun hq9 => ?_)
    · simp only [decide_eq_true_eq] at hq9
      refine AWP.skip ?_
      refine AWP.seq ?_
      refine AWP.block ?_
      refine AWP.seq ?_
      refine AWP.regionT tcok hmix [(0, ⟨some (V.vp (u8 s :: u8 t :: i64 m :: i64 m :: List.drop ((Int.toNat i + 1) * 4) L)), none⟩)] [6, 7, 8, 11, 12, 14, 66, 67, 68] [7, 8, 11, 14, 960005] (os := [(0 : Int) ≤ i ∧ i < (↑(19 : Nat) : Int), V.vp (List.drop (Int.toNat i * 4) L) = V.vp (u8 s :: u8 t :: i64 m :: i64 m :: List.drop ((Int.toNat i + 1) * 4) L)]) (s' := St.mk [(6, tp (i64 0)), (7, tp (V.ptr 7 0)), (8, tp (V.ptr 8 0)), (11, tp (V.ptr 11 0)), (12, tp (i64 code)), (14, tp (V.ptr 14 0)), (66, tp (V.vs L 19)), (67, tp (i64 19)), (68, tp (i64 i))] [(7, Blk.mk [u8 0, u8 0, u8 0, u16 0, V.val (Value.slice none 0 0)] true 5 none), (8, Blk.mk [u8 0, u8 0, u8 0, u16 0, V.val (Value.slice none 0 0)] true 5 none), (11, Blk.mk [u8 9, u8 s2, u8 t2, u16 0, V.sl 960005 0 (List.length ds)] false 5 none), (14, Blk.mk [u8 s, u8 t, i64 m, i64 m] true 4 none), (960005, Blk.mk (u8s ds) true 0 (some (5, 1)))]) (by kernel_rfl) ⟨(by omega), (congrArg V.vp hrow1), trivial⟩ ?_
      refine xe0 [6, 7, 8, 11, 12, 14, 66, 67, 68, 76] [7, 8, 11, 14, 960005] (by kernel_rfl) ?_
      refine AWP.cond (b := s == s2) (by kernel_rfl) (fun hq10 => ?_) (fun hq10 => ?_)
      · simp only [beq_iff_eq] at hq10
        refine AWP.seq ?_
        refine AWP.seq ?_
        refine AWP.regionT tcok hmix [] [6, 7, 8, 11, 12, 14, 66, 67, 68, 81] [7, 8, 11, 14, 960005] (os := []) (s' := St.mk [(6, tp (i64 0)), (7, tp (V.ptr 7 0)), (8, tp (V.ptr 8 0)), (11, tp (V.ptr 11 0)), (12, tp (i64 code)), (14, tp (V.ptr 14 0)), (66, tp (V.vs L 19)), (67, tp (i64 19)), (68, tp (i64 i)), (81, tp (vb (t == t2)))] [(7, Blk.mk [u8 0, u8 0, u8 0, u16 0, V.val (Value.slice none 0 0)] true 5 none), (8, Blk.mk [u8 0, u8 0, u8 0, u16 0, V.val (Value.slice none 0 0)] true 5 none), (11, Blk.mk [u8 9, u8 s2, u8 t2, u16 0, V.sl 960005 0 (List.length ds)] false 5 none), (14, Blk.mk [u8 s, u8 t, i64 m, i64 m] true 4 none), (960005, Blk.mk (u8s ds) true 0 (some (5, 1)))]) (by kernel_rfl) trivial ?_
        refine AWP.cond (b := t == t2) (by kernel_rfl) (fun hq11 => ?_) (fun hq11 => ?_)
        · simp only [beq_iff_eq] at hq11
          (exfalso; omega)
        simp only [beq_eq_false_iff_ne] at hq11
        refine AWP.skip ?_
        refine AWP.region tcok hmix [] (os := []) (sf := St.mk [(6, tp (i64 0)), (7, tp (V.ptr 7 0)), (8, tp (V.ptr 8 0)), (11, tp (V.ptr 11 0)), (12, tp (i64 5)), (14, tp (V.ptr 14 0)), (66, tp (V.vs L 19)), (67, tp (i64 19)), (68, tp (i64 i)), (81, tp (vb (t == t2)))] [(7, Blk.mk [u8 0, u8 0, u8 0, u16 0, V.val (Value.slice none 0 0)] true 5 none), (8, Blk.mk [u8 0, u8 0, u8 0, u16 0, V.val (Value.slice none 0 0)] true 5 none), (11, Blk.mk [u8 9, u8 s2, u8 t2, u16 0, V.sl 960005 0 (List.length ds)] false 5 none), (14, Blk.mk [u8 s, u8 t, i64 m, i64 m] true 4 none), (960005, Blk.mk (u8s ds) true 0 (some (5, 1)))]) (by kernel_rfl) trivial ?_
        refine AWP.keep' [6, 7, 8, 11, 12, 66, 67, 68] [7, 8, 11, 960005] (sf := St.mk [(6, tp (i64 0)), (7, tp (V.ptr 7 0)), (8, tp (V.ptr 8 0)), (11, tp (V.ptr 11 0)), (12, tp (i64 5)), (66, tp (V.vs L 19)), (67, tp (i64 19)), (68, tp (i64 i))] [(7, Blk.mk [u8 0, u8 0, u8 0, u16 0, V.val (Value.slice none 0 0)] true 5 none), (8, Blk.mk [u8 0, u8 0, u8 0, u16 0, V.val (Value.slice none 0 0)] true 5 none), (11, Blk.mk [u8 9, u8 s2, u8 t2, u16 0, V.sl 960005 0 (List.length ds)] false 5 none), (960005, Blk.mk (u8s ds) true 0 (some (5, 1)))]) (by kernel_rfl) ?_
        refine AWP.region tcok hmix [(0, ⟨some (i64 (i + 1)), none⟩)] (os := [i64 (IntKind.wrap IntKind.i64 (i + 1)) = i64 (i + 1)]) (sf := St.mk [(6, tp (i64 0)), (7, tp (V.ptr 7 0)), (8, tp (V.ptr 8 0)), (11, tp (V.ptr 11 0)), (12, tp (i64 5)), (66, tp (V.vs L 19)), (67, tp (i64 19)), (68, tp (i64 (i + 1))), (98, tp (i64 (i + 1)))] [(7, Blk.mk [u8 0, u8 0, u8 0, u16 0, V.val (Value.slice none 0 0)] true 5 none), (8, Blk.mk [u8 0, u8 0, u8 0, u16 0, V.val (Value.slice none 0 0)] true 5 none), (11, Blk.mk [u8 9, u8 s2, u8 t2, u16 0, V.sl 960005 0 (List.length ds)] false 5 none), (960005, Blk.mk (u8s ds) true 0 (some (5, 1)))]) (by kernel_rfl) ⟨(wr_i64 (by omega) (by omega)), trivial⟩ ?_
        refine ⟨St.mk [(6, tp (i64 0)), (7, tp (V.ptr 7 0)), (8, tp (V.ptr 8 0)), (11, tp (V.ptr 11 0)), (12, tp (i64 5)), (66, tp (V.vs L 19)), (67, tp (i64 19)), (68, tp (i64 (i + 1)))] [(7, Blk.mk [u8 0, u8 0, u8 0, u16 0, V.val (Value.slice none 0 0)] true 5 none), (8, Blk.mk [u8 0, u8 0, u8 0, u16 0, V.val (Value.slice none 0 0)] true 5 none), (11, Blk.mk [u8 9, u8 s2, u8 t2, u16 0, V.sl 960005 0 (List.length ds)] false 5 none), (960005, Blk.mk (u8s ds) true 0 (some (5, 1)))], by kernel_rfl, ?_⟩
        first | (exact ⟨(k - (i + 1)).toNat, (by omega), i + 1, _, rfl, (by omega), (by omega), (by omega)⟩) | (exfalso; omega)
      simp only [beq_eq_false_iff_ne] at hq10
      refine AWP.skip ?_
      refine AWP.region tcok hmix [(0, ⟨some (i64 (i + 1)), none⟩)] (os := [i64 (IntKind.wrap IntKind.i64 (i + 1)) = i64 (i + 1)]) (sf := St.mk [(6, tp (i64 0)), (7, tp (V.ptr 7 0)), (8, tp (V.ptr 8 0)), (11, tp (V.ptr 11 0)), (12, tp (i64 code)), (14, tp (V.ptr 14 0)), (66, tp (V.vs L 19)), (67, tp (i64 19)), (68, tp (i64 (i + 1))), (76, tp (vb (s == s2))), (98, tp (i64 (i + 1)))] [(7, Blk.mk [u8 0, u8 0, u8 0, u16 0, V.val (Value.slice none 0 0)] true 5 none), (8, Blk.mk [u8 0, u8 0, u8 0, u16 0, V.val (Value.slice none 0 0)] true 5 none), (11, Blk.mk [u8 9, u8 s2, u8 t2, u16 0, V.sl 960005 0 (List.length ds)] false 5 none), (14, Blk.mk [u8 s, u8 t, i64 m, i64 m] true 4 none), (960005, Blk.mk (u8s ds) true 0 (some (5, 1)))]) (by kernel_rfl) ⟨(wr_i64 (by omega) (by omega)), trivial⟩ ?_
      refine ⟨St.mk [(6, tp (i64 0)), (7, tp (V.ptr 7 0)), (8, tp (V.ptr 8 0)), (11, tp (V.ptr 11 0)), (12, tp (i64 code)), (66, tp (V.vs L 19)), (67, tp (i64 19)), (68, tp (i64 (i + 1)))] [(7, Blk.mk [u8 0, u8 0, u8 0, u16 0, V.val (Value.slice none 0 0)] true 5 none), (8, Blk.mk [u8 0, u8 0, u8 0, u16 0, V.val (Value.slice none 0 0)] true 5 none), (11, Blk.mk [u8 9, u8 s2, u8 t2, u16 0, V.sl 960005 0 (List.length ds)] false 5 none), (960005, Blk.mk (u8s ds) true 0 (some (5, 1)))], by kernel_rfl, ?_⟩
      first | (exact ⟨(k - (i + 1)).toNat, (by omega), i + 1, _, rfl, (by omega), (by omega), (by omega)⟩) | (exfalso; omega)
    simp only [decide_eq_false_iff_not] at hq9
    (exfalso; omega)
end Go.Proofs.YtieoaeidlcdggaaGreatDoor
