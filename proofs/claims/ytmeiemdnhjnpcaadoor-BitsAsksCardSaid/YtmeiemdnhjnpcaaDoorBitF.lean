/- Chapter 04: BitsRounds. -/
import Derived.Test.YtmeiemdnhjnpcaaDoorRg
import Derived.Test.YtmeiemdnhjnpcaaDoorBitT
namespace Go.Proofs.YtmeiemdnhjnpcaaDoor
open Go.Ab
set_option linter.unusedSimpArgs false
set_option linter.unusedVariables false
set_option maxHeartbeats 4000000
set_option maxRecDepth 100000
theorem wth_lst {s : Int} (hs : 0 ≤ s ∧ s < 65536) : wth 0 (lst s 16) = s := by
  apply bit_ext (wth_bd (by omega) _) hs
  intro j hj
  rw [wth_bit _ _ _ hj, bitB_zero, Bool.false_or, in_lst]
  simp [hj]
  omega
theorem wth_or (s : Int) (hs : 0 ≤ s ∧ s < 65536) (Y : List V) : wth s Y = ior .u16 s (wth 0 Y) := by
  apply bit_ext (wth_bd hs _) (ior16_bd _ _)
  intro j hj
  rw [bitB_ior, wth_bit _ _ _ hj, wth_bit _ _ _ hj, bitB_zero, Bool.false_or]
theorem less_wth (s : Int) (hs : 0 ≤ s ∧ s < 65536) (Y : List V) : iandNot .u16 (wth s Y) (wth 0 Y) = iandNot .u16 s (wth 0 Y) := by
  apply bit_ext (iandNot16_bd _ _) (iandNot16_bd _ _)
  intro j hj
  rw [bitB_iandNot _ _ _ hj, bitB_iandNot _ _ _ hj, wth_bit _ _ _ hj, wth_bit _ _ _ hj, bitB_zero]
  cases bitB s j <;> cases inV Y j <;> rfl
theorem less_and (s t : Int) : iand .u16 (iandNot .u16 s t) t = 0 := by
  apply bit_ext (iand16_bd _ _) (by omega)
  intro j hj
  rw [bitB_iand, bitB_iandNot _ _ _ hj, bitB_zero]
  cases bitB s j <;> cases bitB t j <;> rfl
theorem less_all (s : Int) (hs : 0 ≤ s ∧ s < 65536) : iandNot .u16 s 65535 = 0 := by
  apply bit_ext (iandNot16_bd _ _) (by omega)
  intro j hj
  rw [bitB_iandNot _ _ _ hj, bitB_zero]
  have : ∀ j, j < 16 → bitB 65535 j = true := by decide +kernel
  rw [this j hj]
  simp
theorem less_none (s : Int) : iandNot .u16 0 s = 0 := by
  apply bit_ext (iandNot16_bd _ _) (by omega)
  intro j hj
  rw [bitB_iandNot _ _ _ hj, bitB_zero]
  rfl
theorem lst_rise (s : Int) (i : Nat) (h1 : 1 ≤ i) (h2 : i < (lst s 16).length) : ∃ (u v : Int) (r1 r2 : List V), (lst s 16).drop (i * 1) = i64 u :: r1 ∧ (lst s 16).drop ((i - 1) * 1) = i64 v :: r2 ∧ v < u := by
  have hp : (ups s 0).Pairwise (· < ·) := by
    unfold ups
    exact List.Pairwise.filter _ List.pairwise_lt_range'
  have hl : (lst s 16).length = (ups s 0).length := by rw [lst_ups, List.length_map]
  have hi : i < (ups s 0).length := by omega
  have hlt := List.pairwise_iff_getElem.1 hp (i - 1) i (by omega) hi (by omega)
  refine ⟨((ups s 0)[i] : Nat), ((ups s 0)[i - 1] : Nat), (lst s 16).drop (i + 1), (lst s 16).drop (i - 1 + 1), ?_, ?_, by omega⟩
  · rw [Nat.mul_one, List.drop_eq_getElem_cons h2]
    congr 1
    simp only [lst_ups, List.getElem_map]
  · rw [Nat.mul_one, List.drop_eq_getElem_cons (by omega : i - 1 < (lst s 16).length)]
    congr 1
    simp only [lst_ups, List.getElem_map]
theorem told_all (s : Int) (hs : 0 ≤ s ∧ s < 65536) (A : List V) (n : Nat) (hA : lst s 16 = A) (hn : A.length = n) : Con Tryd.prog 21 [] [u16 s, i64 99] [(5, ⟨A, true, 0, some (3, 1)⟩)] (.sl 5 0 n) := by
  refine con_told s 99 hs (by omega) A n ?_ hn
  have hl := lst_len s 16
  rw [← hA, lst_ups, List.take_of_length_le]
  have : (ups s 0).length = (lst s 16).length := by rw [lst_ups, List.length_map]
  omega
theorem law_rounds (s : Int) (xs A Y : List V) (n k m : Nat) (hs : 0 ≤ s ∧ s < 65536) (hx : I64L xs) (hn : xs.length = n) (hlen : n ≤ 9223372036854775807) (hA : lst s 16 = A) (hk : A.length = k) (hY : xs.take 20 = Y) (hm : Y.length = m) :
    Con Tryd.prog 6 [] [u16 s, .vs xs n] [] (vb true) := by
  have iY : I64L Y := hY ▸ i64l_take hx 20
  have iA : I64L A := hA ▸ lst_i64 s 16 (by omega)
  have hm20 : m ≤ 20 := by rw [← hm, ← hY, List.length_take]; omega
  have hk16 : k ≤ 16 := by rw [← hk, ← hA]; exact lst_len s 16
  have c1 := con_few xs Y n m hx hn hlen hY hm
  have c2 := told_all s hs A k hA hk
  refine Con.of (C := ⟨Tryd.prog, tc, Tryd.f6.ntmps⟩) [] tcok Tryd.func6 rfl rfl (by kernel_rfl) (by kernel_rfl) ?_
  refine xe0 [0, 1, 4] [] (by kernel_rfl) ?_
  refine AWP.seq ?_
  refine xe1 [(0, ⟨none, some ⟨vb true, [], []⟩⟩)] [0, 1, 4, 9] [] (by kernel_rfl) (AllP.c (con_awake04 ) AllP.n) ?_
  refine AWP.condF (by kernel_rfl) ?_
  refine AWP.skip ?_
  refine xe1 (os := [Con Tryd.prog 8 [] [V.vs xs n, i64 20] [(5, Blk.mk Y true 0 (some (3, 1)))] (V.sl 5 0 m)]) [(1, ⟨none, some ⟨V.sl 5 0 m, [(5, Blk.mk Y true 0 (some (3, 1)))], []⟩⟩)] [0, 1, 4] [120005] (by kernel_rfl) ⟨(c1 ), trivial⟩ ?_
  refine xe1 (os := [Con Tryd.prog 21 [] [u16 s, i64 99] [(5, Blk.mk A true 0 (some (3, 1)))] (V.sl 5 0 k)]) [(1, ⟨none, some ⟨V.sl 5 0 k, [(5, Blk.mk A true 0 (some (3, 1)))], []⟩⟩)] [0, 1, 4, 5] [120005, 140005] (by kernel_rfl) ⟨(c2 ), trivial⟩ ?_
  refine AWP.seq ?_
  refine xe0 [0, 1, 4, 5, 6] [120005, 140005] (by kernel_rfl) ?_
  refine AWP.block ?_
  refine AWP.frz 120005 (s' := St.mk [(0, T.plain (u16 s)), (1, T.plain (V.vs Y m)), (4, T.plain (vb false)), (5, T.plain (V.sl 140005 0 k)), (6, T.plain (i64 1))] [(140005, Blk.mk A true 0 (some (3, 1)))]) (by kernel_rfl) ?_
  refine AWP.frz 140005 (s' := St.mk [(0, T.plain (u16 s)), (1, T.plain (V.vs Y m)), (4, T.plain (vb false)), (5, T.plain (V.vs A k)), (6, T.plain (i64 1))] []) (by kernel_rfl) ?_
  refine AWP.loopI [0, 1, 4, 5, 6] [] (fun N st => ∃ (p : Int), st = St.mk [(0, T.plain (u16 s)), (1, T.plain (V.vs Y m)), (4, T.plain (vb false)), (5, T.plain (V.vs A k)), (6, T.plain (i64 p))] [] ∧ 1 ≤ p ∧ p ≤ 20 ∧ (N : Int) = 20 - p) 19 (s0 := St.mk [(0, T.plain (u16 s)), (1, T.plain (V.vs Y m)), (4, T.plain (vb false)), (5, T.plain (V.vs A k)), (6, T.plain (i64 1))] []) (by kernel_rfl) ?_ ?_
  · exact ⟨1, rfl, by omega, by omega, by omega⟩
  rintro N st ⟨p, rfl, hp, hp2, hN⟩
  by_cases hlt : p < k
  · obtain ⟨u, v, r1, r2, kx0, ky0, huv⟩ := lst_rise s p.toNat (by omega) (by rw [hA, hk]; omega)
    rw [hA] at kx0 ky0
    have kx : A.drop (p.toNat * 1) = i64 u :: r1 := kx0
    have ky : A.drop ((p - 1).toNat * 1) = i64 v :: r2 := by rw [show (p - 1).toNat = p.toNat - 1 by omega]; exact ky0
    clear kx0 ky0
    refine AWP.seq ?_
    refine xe0 [0, 1, 4, 5, 6, 17] [] (by kernel_rfl) ?_
    refine AWP.cond (b := decide (p < (↑k : Int))) (by kernel_rfl) (fun hq1 => ?_) (fun hq1 => ?_)
    · simp only [decide_eq_true_eq] at hq1
      refine AWP.skip ?_
      refine AWP.seq ?_
      refine AWP.block ?_
      refine xe1 (os := [(0 : Int) ≤ p ∧ p < (↑k : Int), V.vp (List.drop (Int.toNat p * 1) A) = V.vp (i64 u :: r1), i64 (IntKind.wrap IntKind.i64 (p - 1)) = i64 (p - 1), (0 : Int) ≤ p - (1 : Int) ∧ p - (1 : Int) < (↑k : Int), V.vp (List.drop (Int.toNat (p - 1) * 1) A) = V.vp (i64 v :: r2)]) [(2, ⟨some (V.vp (i64 u :: r1)), none⟩), (6, ⟨some (i64 (p - 1)), none⟩), (7, ⟨some (V.vp (i64 v :: r2)), none⟩)] [0, 1, 4, 5, 6, 29] [] (by kernel_rfl) ⟨(by omega), (congrArg V.vp kx), (wr_i64 (by omega) (by omega)), (by omega), (congrArg V.vp ky), trivial⟩ ?_
      refine AWP.cond (b := decide (u ≤ v)) (by kernel_rfl) (fun hq2 => ?_) (fun hq2 => ?_)
      · simp only [decide_eq_true_eq] at hq2
        (exfalso; omega)
      simp only [decide_eq_false_iff_not] at hq2
      refine AWP.skip ?_
      refine AWP.region tcok hmix [(1, ⟨some (i64 (p + 1)), none⟩)] (os := [i64 (IntKind.wrap IntKind.i64 (p + 1)) = i64 (p + 1)]) (sf := St.mk [(0, tp (u16 s)), (1, tp (V.vs Y m)), (4, tp (vb false)), (5, tp (V.vs A k)), (6, tp (i64 (p + 1))), (18, tp (i64 p)), (19, tp (i64 (p + 1))), (29, tp (vb (decide (u ≤ v))))] []) (by kernel_rfl) ⟨(wr_i64 (by omega) (by omega)), trivial⟩ ?_
      refine ⟨St.mk [(0, tp (u16 s)), (1, tp (V.vs Y m)), (4, tp (vb false)), (5, tp (V.vs A k)), (6, tp (i64 (p + 1)))] [], by kernel_rfl, ?_⟩
      first | (exfalso; omega) | (exact ⟨(20 - (p + 1)).toNat, (by omega), p + 1, rfl, (by omega), (by omega), (by omega)⟩)
    simp only [decide_eq_false_iff_not] at hq1
    (exfalso; omega)
  have d1 := con_of Y m iY hm (by omega)
  have d2 := con_of A k iA hk (by omega)
  rw [← hA, wth_lst hs, hA] at d2
  have d3 := con_count s hs
  rw [pop_len hs, hA, hk] at d3
  have d4 : Con Tryd.prog 14 [] [.val (.slice none 0 0)] [] (u16 0) := Con.nil1 (con_of [] 0 i64l_nil rfl (by omega))
  have d5 : Con Tryd.prog 25 [] [u16 0, u16 s] [] (vb true) := by
    have h := con_within 0 s
    rw [less_none] at h
    exact h
  have d6 : Con Tryd.prog 25 [] [u16 s, u16 65535] [] (vb true) := by
    have h := con_within s 65535
    rw [less_all s hs] at h
    exact h
  have d7 := con_with s Y m iY hm (by omega)
  rw [wth_or s hs] at d7
  have d8 := con_or1 s (wth 0 Y)
  have d9 := con_without s Y m iY hm (by omega)
  have d10 := con_less s (wth 0 Y)
  have d11 := con_without (wth s Y) Y m iY hm (by omega)
  rw [less_wth s hs, wth_or s hs] at d11
  have d12 := con_and (iandNot .u16 s (wth 0 Y)) (wth 0 Y)
  rw [less_and] at d12
  refine AWP.seq ?_
  refine xe0 [0, 1, 4, 5, 6, 17] [] (by kernel_rfl) ?_
  refine AWP.cond (b := decide (p < (↑k : Int))) (by kernel_rfl) (fun hq3 => ?_) (fun hq3 => ?_)
  · simp only [decide_eq_true_eq] at hq3
    (exfalso; omega)
  simp only [decide_eq_false_iff_not] at hq3
  refine AWP.exit ?_
  refine xe1 (os := [Con Tryd.prog 14 [] [V.vs Y m] [] (u16 (wth 0 Y))]) [(1, ⟨none, some ⟨u16 (wth 0 Y), [], []⟩⟩)] [0, 1, 4, 5, 7] [] (by kernel_rfl) ⟨(d1 ), trivial⟩ ?_
  refine xe1 (os := [Con Tryd.prog 14 [] [V.vs A k] [] (u16 s), (s == s) = true → Con Tryd.prog (15 : Nat) [] [u16 s] [] (i64 (↑k : Int)) ∧ True, (s == s && (↑k : Int) == (↑k : Int)) = true → Con Tryd.prog (14 : Nat) [] [V.val (Value.slice none (0 : Nat) (0 : Nat))] [] (u16 (0 : Int)) ∧ True, (s == s && (↑k : Int) == (↑k : Int)) = true → Con Tryd.prog (25 : Nat) [] [u16 (0 : Int), u16 s] [] (vb true) ∧ True, (s == s && (↑k : Int) == (↑k : Int) && true) = true → Con Tryd.prog (25 : Nat) [] [u16 s, u16 (65535 : Int)] [] (vb true) ∧ True, (s == s && (↑k : Int) == (↑k : Int) && true && true) = true → Con Tryd.prog (10 : Nat) [] [u16 s, V.vs Y m] [] (u16 (ior IntKind.u16 s (wth (0 : Int) Y))) ∧ True, (s == s && (↑k : Int) == (↑k : Int) && true && true) = true → VO (u16 (ior IntKind.u16 s (wth (0 : Int) Y))) ∧ VOH [] ∧ Con Tryd.prog (22 : Nat) [] [u16 s, V.vs [u16 (wth (0 : Int) Y)] (1 : Nat)] [] (u16 (ior IntKind.u16 s (wth (0 : Int) Y))) ∧ (0 : Nat) = (0 : Nat) ∧ (1 : Nat) = (1 : Nat) ∧ True, (s == s && (↑k : Int) == (↑k : Int) && true && true && ior IntKind.u16 s (wth (0 : Int) Y) == ior IntKind.u16 s (wth (0 : Int) Y)) = true → Con Tryd.prog (13 : Nat) [] [u16 s, V.vs Y m] [] (u16 (iandNot IntKind.u16 s (wth (0 : Int) Y))) ∧ True, (s == s && (↑k : Int) == (↑k : Int) && true && true && ior IntKind.u16 s (wth (0 : Int) Y) == ior IntKind.u16 s (wth (0 : Int) Y)) = true → Con Tryd.prog (24 : Nat) [] [u16 s, u16 (wth (0 : Int) Y)] [] (u16 (iandNot IntKind.u16 s (wth (0 : Int) Y))) ∧ True, (s == s && (↑k : Int) == (↑k : Int) && true && true && ior IntKind.u16 s (wth (0 : Int) Y) == ior IntKind.u16 s (wth (0 : Int) Y) && iandNot IntKind.u16 s (wth (0 : Int) Y) == iandNot IntKind.u16 s (wth (0 : Int) Y)) = true → Con Tryd.prog (10 : Nat) [] [u16 s, V.vs Y m] [] (u16 (ior IntKind.u16 s (wth (0 : Int) Y))) ∧ True, (s == s && (↑k : Int) == (↑k : Int) && true && true && ior IntKind.u16 s (wth (0 : Int) Y) == ior IntKind.u16 s (wth (0 : Int) Y) && iandNot IntKind.u16 s (wth (0 : Int) Y) == iandNot IntKind.u16 s (wth (0 : Int) Y)) = true → Con Tryd.prog (13 : Nat) [] [u16 (ior IntKind.u16 s (wth (0 : Int) Y)), V.vs Y m] [] (u16 (iandNot IntKind.u16 s (wth (0 : Int) Y))) ∧ True, (s == s && (↑k : Int) == (↑k : Int) && true && true && ior IntKind.u16 s (wth (0 : Int) Y) == ior IntKind.u16 s (wth (0 : Int) Y) && iandNot IntKind.u16 s (wth (0 : Int) Y) == iandNot IntKind.u16 s (wth (0 : Int) Y)) = true → Con Tryd.prog (24 : Nat) [] [u16 s, u16 (wth (0 : Int) Y)] [] (u16 (iandNot IntKind.u16 s (wth (0 : Int) Y))) ∧ True, (s == s && (↑k : Int) == (↑k : Int) && true && true && ior IntKind.u16 s (wth (0 : Int) Y) == ior IntKind.u16 s (wth (0 : Int) Y) && iandNot IntKind.u16 s (wth (0 : Int) Y) == iandNot IntKind.u16 s (wth (0 : Int) Y) && iandNot IntKind.u16 s (wth (0 : Int) Y) == iandNot IntKind.u16 s (wth (0 : Int) Y)) = true → Con Tryd.prog (24 : Nat) [] [u16 s, u16 (wth (0 : Int) Y)] [] (u16 (iandNot IntKind.u16 s (wth (0 : Int) Y))) ∧ True, (s == s && (↑k : Int) == (↑k : Int) && true && true && ior IntKind.u16 s (wth (0 : Int) Y) == ior IntKind.u16 s (wth (0 : Int) Y) && iandNot IntKind.u16 s (wth (0 : Int) Y) == iandNot IntKind.u16 s (wth (0 : Int) Y) && iandNot IntKind.u16 s (wth (0 : Int) Y) == iandNot IntKind.u16 s (wth (0 : Int) Y)) = true → Con Tryd.prog (23 : Nat) [] [u16 (iandNot IntKind.u16 s (wth (0 : Int) Y)), u16 (wth (0 : Int) Y)] [] (u16 (0 : Int)) ∧ True]) [(1, ⟨none, some ⟨u16 s, [], []⟩⟩), (8, ⟨none, some ⟨i64 (↑k : Int), [], []⟩⟩), (12, ⟨none, some ⟨u16 0, [], []⟩⟩), (14, ⟨none, some ⟨vb true, [], []⟩⟩), (18, ⟨none, some ⟨vb true, [], []⟩⟩), (23, ⟨none, some ⟨u16 (ior IntKind.u16 s (wth 0 Y)), [], []⟩⟩), (27, ⟨none, some ⟨u16 (ior IntKind.u16 s (wth 0 Y)), [], [(58, true)]⟩⟩), (33, ⟨none, some ⟨u16 (iandNot IntKind.u16 s (wth 0 Y)), [], []⟩⟩), (36, ⟨none, some ⟨u16 (iandNot IntKind.u16 s (wth 0 Y)), [], []⟩⟩), (42, ⟨none, some ⟨u16 (ior IntKind.u16 s (wth 0 Y)), [], []⟩⟩), (44, ⟨none, some ⟨u16 (iandNot IntKind.u16 s (wth 0 Y)), [], []⟩⟩), (47, ⟨none, some ⟨u16 (iandNot IntKind.u16 s (wth 0 Y)), [], []⟩⟩), (53, ⟨none, some ⟨u16 (iandNot IntKind.u16 s (wth 0 Y)), [], []⟩⟩), (55, ⟨none, some ⟨u16 0, [], []⟩⟩)] [4] [] (by kernel_rfl) ⟨(d2 ), (fun _ => ⟨(d3 ), trivial⟩), (fun _ => ⟨(d4 ), trivial⟩), (fun _ => ⟨(d5 ), trivial⟩), (fun _ => ⟨(d6 ), trivial⟩), (fun _ => ⟨(d7 ), trivial⟩), (by intro hc0; first | (cases hc0; done) | ((try simp only [Bool.or_false, Bool.false_or, Bool.true_and, Bool.and_true, decide_eq_true_eq, decide_eq_false_iff_not, Bool.and_eq_true, Bool.or_eq_true, Bool.or_eq_false_iff, Bool.not_eq_true', Bool.and_eq_false_iff, beq_iff_eq, bne_iff_ne, bne_eq_false_iff_eq, beq_eq_false_iff_ne, Bool.not_eq_false'] at hc0); exact ⟨(VO.val _), trivial, (d8 ), (by omega), (by omega), trivial⟩)), (fun _ => ⟨(d9 ), trivial⟩), (fun _ => ⟨(d10 ), trivial⟩), (fun _ => ⟨(d7 ), trivial⟩), (fun _ => ⟨(d11 ), trivial⟩), (fun _ => ⟨(d10 ), trivial⟩), (fun _ => ⟨(d10 ), trivial⟩), (fun _ => ⟨(d12 ), trivial⟩), trivial⟩ ?_
  refine AWP.ret ?_
  refine ⟨Or.inr rfl, Eq.trans (b := some ([], vb (s == s && (↑k : Int) == (↑k : Int) && true && true && ior IntKind.u16 s (wth 0 Y) == ior IntKind.u16 s (wth 0 Y) && iandNot IntKind.u16 s (wth 0 Y) == iandNot IntKind.u16 s (wth 0 Y) && iandNot IntKind.u16 s (wth 0 Y) == iandNot IntKind.u16 s (wth 0 Y) && true))) (by kernel_rfl) ?_⟩
  first | rfl | (simp; done) | (simp only [bl]; simp; done) | (exfalso; omega)
theorem law_BitsRounds (x y : V) (hx : TyV tc 9 23 x) (hy : TyV tc 9 24 y) : Con Tryd.prog 6 [] [x, y] [] (vb true) := by
  obtain ⟨s, rfl, h1⟩ := set_of hx
  obtain ⟨cs, n, rfl, h2, h3, h4⟩ := ints_of hy
  exact law_rounds s cs _ _ n _ _ h1 h2 h3 h4 rfl rfl rfl rfl
end Go.Proofs.YtmeiemdnhjnpcaaDoor
