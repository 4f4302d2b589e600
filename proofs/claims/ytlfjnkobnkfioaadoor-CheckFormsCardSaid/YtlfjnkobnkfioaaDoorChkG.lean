/- Chapter 15: CheckForms: a definition is read of bytes. -/
import Derived.Test.YtlfjnkobnkfioaaDoorRg
import Derived.Test.YtlfjnkobnkfioaaDoorChkH
namespace Go.Proofs.YtlfjnkobnkfioaaDoor
open Go.Ab
set_option linter.unusedSimpArgs false
set_option linter.unusedVariables false
set_option maxHeartbeats 8000000
set_option maxRecDepth 100000
theorem con_sizes : Con Tryd.prog 25 [] [] [(0, ⟨[i64 1, i64 1, i64 4, i64 4, i64 4, i64 4], true, 0, some (3, 1)⟩)] (.sl 0 0 6) := run_con tcok (by kernel_rfl) 400 8 (by kernel_rfl)
theorem con_bytes_y (k pa lo hi ma wa : Int) (hk : 0 ≤ k ∧ k ≤ 2) (hp : 0 ≤ pa ∧ pa < 16) (hlh : lo ≤ hi) (hlo : -2147483648 ≤ lo ∧ lo ≤ 2147483647) (hhi : -2147483648 ≤ hi ∧ hi ≤ 2147483647) (hma : 0 ≤ ma ∧ ma < 4294967296) (hwa : 0 ≤ wa ∧ wa < 4294967296) :
    Con Tryd.prog 16 [] [dV k pa lo hi ma wa] [(250005, ⟨u8s (dby k pa lo hi ma wa), true, 0, some (5, 1)⟩)] (.sl 250005 0 18) := by
  have e1 : k % 256 = k := by omega
  have e2 : pa % 256 = pa := by omega
  have hcr : cright k pa lo hi = true := by
    unfold cright
    simp only [Bool.and_eq_true, decide_eq_true_eq]
    omega
  have c1 := con_cright k pa lo hi
  rw [hcr] at c1
  refine Con.of (C := ⟨Tryd.prog, tc, Tryd.f16.ntmps⟩) [250005] tcok Tryd.func16 rfl rfl (by kernel_rfl) (by kernel_rfl) ?_
  refine xe0 [1, 2] [1, 2] (by kernel_rfl) ?_
  refine AWP.seq ?_
  refine xe1 (os := [Con Tryd.prog 10 [] [V.agg true [u8 k, i64 pa, i32 lo, i32 hi, u32 ma, u32 wa]] [] (vb true)]) [(1, ⟨none, some ⟨vb true, [], []⟩⟩)] [1, 2, 5] [1, 2] (by kernel_rfl) ⟨(c1 (ma) (wa)), trivial⟩ ?_
  refine AWP.condF (by kernel_rfl) ?_
  refine AWP.skip ?_
  refine AWP.seq ?_
  refine AWP.keep' [1] [1] (sf := St.mk [(1, tp (V.ptr 1 0))] [(1, Blk.mk [u8 k, i64 pa, i32 lo, i32 hi, u32 ma, u32 wa] true 6 none)]) (by kernel_rfl) ?_
  refine xg1 (os := [Con Tryd.prog 25 [] [] [(0, Blk.mk [i64 1, i64 1, i64 4, i64 4, i64 4, i64 4] true 0 (some (3, 1)))] (V.sl 0 0 6), u32 (IntKind.wrap IntKind.u32 k) = u32 k, u32 (IntKind.wrap IntKind.u32 pa) = u32 pa, u32 (IntKind.wrap IntKind.u32 lo) = u32 (lo % 4294967296), u32 (IntKind.wrap IntKind.u32 hi) = u32 (hi % 4294967296), VO (V.sl (5 : Nat) (0 : Nat) (18 : Nat)), VOH [((5 : Nat), Blk.mk [u8 (k % (256 : Int)), u8 (pa % (256 : Int)), u8 (lo % (4294967296 : Int) / (256 : Int) / (256 : Int) / (256 : Int) % (256 : Int)), u8 (lo % (4294967296 : Int) / (256 : Int) / (256 : Int) % (256 : Int)), u8 (lo % (4294967296 : Int) / (256 : Int) % (256 : Int)), u8 (lo % (4294967296 : Int) % (256 : Int)), u8 (hi % (4294967296 : Int) / (256 : Int) / (256 : Int) / (256 : Int) % (256 : Int)), u8 (hi % (4294967296 : Int) / (256 : Int) / (256 : Int) % (256 : Int)), u8 (hi % (4294967296 : Int) / (256 : Int) % (256 : Int)), u8 (hi % (4294967296 : Int) % (256 : Int)), u8 (ma / (256 : Int) / (256 : Int) / (256 : Int) % (256 : Int)), u8 (ma / (256 : Int) / (256 : Int) % (256 : Int)), u8 (ma / (256 : Int) % (256 : Int)), u8 (ma % (256 : Int)), u8 (wa / (256 : Int) / (256 : Int) / (256 : Int) % (256 : Int)), u8 (wa / (256 : Int) / (256 : Int) % (256 : Int)), u8 (wa / (256 : Int) % (256 : Int)), u8 (wa % (256 : Int))] true (0 : Nat) (some ((5 : Nat), (1 : Nat))))], Con Tryd.prog 24 [] [V.vs [i64 1, i64 1, i64 4, i64 4, i64 4, i64 4] 6, V.vs [u32 k, u32 pa, u32 (lo % 4294967296), u32 (hi % 4294967296), u32 ma, u32 wa] 6] [(5, Blk.mk [u8 (k % 256), u8 (pa % 256), u8 (lo % 4294967296 / 256 / 256 / 256 % 256), u8 (lo % 4294967296 / 256 / 256 % 256), u8 (lo % 4294967296 / 256 % 256), u8 (lo % 4294967296 % 256), u8 (hi % 4294967296 / 256 / 256 / 256 % 256), u8 (hi % 4294967296 / 256 / 256 % 256), u8 (hi % 4294967296 / 256 % 256), u8 (hi % 4294967296 % 256), u8 (ma / 256 / 256 / 256 % 256), u8 (ma / 256 / 256 % 256), u8 (ma / 256 % 256), u8 (ma % 256), u8 (wa / 256 / 256 / 256 % 256), u8 (wa / 256 / 256 % 256), u8 (wa / 256 % 256), u8 (wa % 256)] true 0 (some (5, 1)))] (V.sl 5 0 18), (0 : Nat) = (0 : Nat), (6 : Nat) = (6 : Nat), (0 : Nat) = (0 : Nat), (6 : Nat) = (6 : Nat)]) [(0, ⟨none, some ⟨V.sl 0 0 6, [(0, Blk.mk [i64 1, i64 1, i64 4, i64 4, i64 4, i64 4] true 0 (some (3, 1)))], []⟩⟩), (3, ⟨some (u32 k), none⟩), (6, ⟨some (u32 pa), none⟩), (9, ⟨some (u32 (lo % 4294967296)), none⟩), (12, ⟨some (u32 (hi % 4294967296)), none⟩), (18, ⟨none, some ⟨V.sl 5 0 18, [(5, Blk.mk (u8s ([k % 256, pa % 256] ++ w4 (lo % 4294967296) ++ w4 (hi % 4294967296) ++ w4 ma ++ w4 wa)) true 0 (some (5, 1)))], [(23, true), (70000, true)]⟩⟩)] [2] [250005] (by kernel_rfl) ⟨(con_sizes ), (wr_u32 (by omega) (by omega)), (wr_u32 (by omega) (by omega)), wm_u32, wm_u32, (VO.sl _ _ _), ⟨(VOL.cons (VO.val _) (VOL.cons (VO.val _) (VOL.cons (VO.val _) (VOL.cons (VO.val _) (VOL.cons (VO.val _) (VOL.cons (VO.val _) (VOL.cons (VO.val _) (VOL.cons (VO.val _) (VOL.cons (VO.val _) (VOL.cons (VO.val _) (VOL.cons (VO.val _) (VOL.cons (VO.val _) (VOL.cons (VO.val _) (VOL.cons (VO.val _) (VOL.cons (VO.val _) (VOL.cons (VO.val _) (VOL.cons (VO.val _) (VOL.cons (VO.val _) VOL.nil)))))))))))))))))), trivial⟩, (con_lay (k) (pa) (lo % 4294967296) (hi % 4294967296) (ma) (wa) (by omega) (by omega) (by omega) (by omega) (by assumption) (by assumption)), (by omega), (by omega), (by omega), (by omega), trivial⟩ ?_
  refine AWP.ret ?_
  refine ⟨Or.inr rfl, Eq.trans (b := some ([(250005, Blk.mk [u8 (k % 256), u8 (pa % 256), u8 (lo % 4294967296 / 256 / 256 / 256 % 256), u8 (lo % 4294967296 / 256 / 256 % 256), u8 (lo % 4294967296 / 256 % 256), u8 (lo % 4294967296 % 256), u8 (hi % 4294967296 / 256 / 256 / 256 % 256), u8 (hi % 4294967296 / 256 / 256 % 256), u8 (hi % 4294967296 / 256 % 256), u8 (hi % 4294967296 % 256), u8 (ma / 256 / 256 / 256 % 256), u8 (ma / 256 / 256 % 256), u8 (ma / 256 % 256), u8 (ma % 256), u8 (wa / 256 / 256 / 256 % 256), u8 (wa / 256 / 256 % 256), u8 (wa / 256 % 256), u8 (wa % 256)] true 0 (some (5, 1)))], V.sl 250005 0 18)) (by kernel_rfl) ?_⟩
  (rw [e1, e2]; rfl)
theorem con_bytes_n (k pa lo hi ma wa : Int) (hcr : cright k pa lo hi = false) :
    Con Tryd.prog 16 [] [dV k pa lo hi ma wa] [(2, ⟨[], true, 0, some (5, 1)⟩)] (.sl 2 0 0) := by
  have c1 := con_cright k pa lo hi
  rw [hcr] at c1
  refine Con.of (C := ⟨Tryd.prog, tc, Tryd.f16.ntmps⟩) [2] tcok Tryd.func16 rfl rfl (by kernel_rfl) (by kernel_rfl) ?_
  refine xe0 [1, 2] [1, 2] (by kernel_rfl) ?_
  refine AWP.seq ?_
  refine xe1 (os := [Con Tryd.prog 10 [] [V.agg true [u8 k, i64 pa, i32 lo, i32 hi, u32 ma, u32 wa]] [] (vb false)]) [(1, ⟨none, some ⟨vb false, [], []⟩⟩)] [1, 2, 5] [1, 2] (by kernel_rfl) ⟨(c1 (ma) (wa)), trivial⟩ ?_
  refine AWP.condT (by kernel_rfl) ?_
  refine AWP.seq ?_
  refine AWP.keep' [1] [1] (sf := St.mk [(1, tp (V.ptr 1 0))] [(1, Blk.mk [u8 k, i64 pa, i32 lo, i32 hi, u32 ma, u32 wa] true 6 none)]) (by kernel_rfl) ?_
  refine xg0 [1, 2] [1, 2] (by kernel_rfl) ?_
  refine AWP.ret ?_
  refine ⟨Or.inr rfl, Eq.trans (b := some ([(2, Blk.mk [] true 0 (some (5, 1)))], V.sl 2 0 0)) (by kernel_rfl) ?_⟩
  rfl
theorem con_numbers_no (l : List Int) (hl : l.length ≤ 9223372036854775807) (h : ¬ l.length = 18) : Con Tryd.prog 28 [] [.vs (u8s l) l.length, .vs [i64 1, i64 1, i64 4, i64 4, i64 4, i64 4] 6] [(4, ⟨[], true, 0, some (23, 1)⟩)] (.tup [.sl 4 0 0, i64 2]) := by
  refine Con.of (C := ⟨Tryd.prog, tc, Tryd.f28.ntmps⟩) [4] tcok Tryd.func28 rfl rfl (by kernel_rfl) (by kernel_rfl) ?_
  refine xe0 [0, 1, 4, 5] [4] (by kernel_rfl) ?_
  refine xe0 [0, 1, 4, 5, 6, 7] [4] (by kernel_rfl) ?_
  refine AWP.seq ?_
  refine xe0 [0, 1, 4, 5, 6, 7, 16, 17, 18] [4] (by kernel_rfl) ?_
  refine AWP.block ?_
  refine AWP.unroll 8 ?_
  refine xe0 [0, 1, 4, 5, 6, 7, 16, 17, 18, 19] [4] (by kernel_rfl) ?_
  refine AWP.seq ?_
  refine AWP.condT (by kernel_rfl) ?_
  refine AWP.skip ?_
  refine AWP.seq ?_
  refine AWP.block ?_
  refine xe0 [0, 1, 4, 5, 6, 7, 9, 16, 17, 18, 19, 20, 21] [4] (by kernel_rfl) ?_
  refine xe1 (os := [true = true → Con Tryd.prog (32 : Nat) [] [i64 (1 : Int)] [] (vb true) ∧ True]) [(3, ⟨none, some ⟨vb true, [], []⟩⟩)] [0, 1, 4, 5, 6, 7, 9, 16, 17, 18, 19, 20, 21, 22, 23, 26] [4] (by kernel_rfl) ⟨(by intro hc0; first | (cases hc0; done) | ((try simp only [Bool.or_false, Bool.false_or, Bool.true_and, Bool.and_true, decide_eq_true_eq, decide_eq_false_iff_not, Bool.and_eq_true, Bool.or_eq_true, Bool.or_eq_false_iff, Bool.not_eq_true', Bool.and_eq_false_iff, beq_iff_eq, bne_iff_ne, bne_eq_false_iff_eq, beq_eq_false_iff_ne, Bool.not_eq_false'] at hc0); exact ⟨(con_sized (1) (by omega)), trivial⟩)), trivial⟩ ?_
  refine xe1 [(1, ⟨none, some ⟨vb true, [], []⟩⟩)] [0, 1, 4, 5, 6, 7, 9, 16, 17, 18, 19, 20, 21, 22, 23, 26, 27, 28] [4] (by kernel_rfl) (AllP.c (con_sized (1) (by omega)) AllP.n) ?_
  refine AWP.condT (by kernel_rfl) ?_
  refine AWP.region tcok hmix [] (os := []) (sf := St.mk [(0, tp (B8 l)), (1, tp (V.vs [i64 1, i64 1, i64 4, i64 4, i64 4, i64 4] 6)), (4, tp (V.sl 4 0 0)), (5, tp (i64 0)), (6, tp (i64 1)), (7, tp (vb true)), (9, tp (i64 1)), (16, tp (V.vs [i64 1, i64 1, i64 4, i64 4, i64 4, i64 4] 6)), (17, tp (i64 6)), (18, tp (i64 0)), (19, tp (vb true)), (20, tp (V.vp [i64 1, i64 1, i64 4, i64 4, i64 4, i64 4])), (21, tp (i64 1)), (22, tp (vb true)), (23, tp (vb true)), (26, tp (vb true)), (27, tp (i64 1)), (28, tp (vb true)), (29, tp (i64 0)), (30, tp (i64 1)), (31, tp (i64 1))] [(4, Blk.mk [] true 0 (some (23, 1)))]) (by kernel_rfl) trivial ?_
  refine AWP.region tcok hmix [] (os := []) (sf := St.mk [(0, tp (B8 l)), (1, tp (V.vs [i64 1, i64 1, i64 4, i64 4, i64 4, i64 4] 6)), (4, tp (V.sl 4 0 0)), (5, tp (i64 0)), (6, tp (i64 1)), (7, tp (vb true)), (9, tp (i64 1)), (16, tp (V.vs [i64 1, i64 1, i64 4, i64 4, i64 4, i64 4] 6)), (17, tp (i64 6)), (18, tp (i64 1)), (19, tp (vb true)), (20, tp (V.vp [i64 1, i64 1, i64 4, i64 4, i64 4, i64 4])), (21, tp (i64 1)), (22, tp (vb true)), (23, tp (vb true)), (26, tp (vb true)), (27, tp (i64 1)), (28, tp (vb true)), (29, tp (i64 0)), (30, tp (i64 1)), (31, tp (i64 1)), (32, tp (i64 1))] [(4, Blk.mk [] true 0 (some (23, 1)))]) (by kernel_rfl) trivial ?_
  refine xe0 [0, 1, 4, 5, 6, 7, 9, 16, 17, 18, 19, 20, 21, 22, 23, 26, 27, 28, 29, 30, 31, 32] [4] (by kernel_rfl) ?_
  refine AWP.seq ?_
  refine AWP.condT (by kernel_rfl) ?_
  refine AWP.skip ?_
  refine AWP.seq ?_
  refine AWP.block ?_
  refine xe0 [0, 1, 4, 5, 6, 7, 9, 16, 17, 18, 19, 20, 21, 22, 23, 26, 27, 28, 29, 30, 31, 32] [4] (by kernel_rfl) ?_
  refine xe1 (os := [true = true → Con Tryd.prog (32 : Nat) [] [i64 (1 : Int)] [] (vb true) ∧ True]) [(3, ⟨none, some ⟨vb true, [], []⟩⟩)] [0, 1, 4, 5, 6, 7, 9, 16, 17, 18, 19, 20, 21, 22, 23, 26, 27, 28, 29, 30, 31, 32] [4] (by kernel_rfl) ⟨(by intro hc0; first | (cases hc0; done) | ((try simp only [Bool.or_false, Bool.false_or, Bool.true_and, Bool.and_true, decide_eq_true_eq, decide_eq_false_iff_not, Bool.and_eq_true, Bool.or_eq_true, Bool.or_eq_false_iff, Bool.not_eq_true', Bool.and_eq_false_iff, beq_iff_eq, bne_iff_ne, bne_eq_false_iff_eq, beq_eq_false_iff_ne, Bool.not_eq_false'] at hc0); exact ⟨(con_sized (1) (by omega)), trivial⟩)), trivial⟩ ?_
  refine xe1 [(1, ⟨none, some ⟨vb true, [], []⟩⟩)] [0, 1, 4, 5, 6, 7, 9, 16, 17, 18, 19, 20, 21, 22, 23, 26, 27, 28, 29, 30, 31, 32] [4] (by kernel_rfl) (AllP.c (con_sized (1) (by omega)) AllP.n) ?_
  refine AWP.condT (by kernel_rfl) ?_
  refine AWP.region tcok hmix [] (os := []) (sf := St.mk [(0, tp (B8 l)), (1, tp (V.vs [i64 1, i64 1, i64 4, i64 4, i64 4, i64 4] 6)), (4, tp (V.sl 4 0 0)), (5, tp (i64 0)), (6, tp (i64 2)), (7, tp (vb true)), (9, tp (i64 1)), (16, tp (V.vs [i64 1, i64 1, i64 4, i64 4, i64 4, i64 4] 6)), (17, tp (i64 6)), (18, tp (i64 1)), (19, tp (vb true)), (20, tp (V.vp [i64 1, i64 4, i64 4, i64 4, i64 4])), (21, tp (i64 1)), (22, tp (vb true)), (23, tp (vb true)), (26, tp (vb true)), (27, tp (i64 1)), (28, tp (vb true)), (29, tp (i64 1)), (30, tp (i64 1)), (31, tp (i64 2)), (32, tp (i64 1))] [(4, Blk.mk [] true 0 (some (23, 1)))]) (by kernel_rfl) trivial ?_
  refine AWP.region tcok hmix [] (os := []) (sf := St.mk [(0, tp (B8 l)), (1, tp (V.vs [i64 1, i64 1, i64 4, i64 4, i64 4, i64 4] 6)), (4, tp (V.sl 4 0 0)), (5, tp (i64 0)), (6, tp (i64 2)), (7, tp (vb true)), (9, tp (i64 1)), (16, tp (V.vs [i64 1, i64 1, i64 4, i64 4, i64 4, i64 4] 6)), (17, tp (i64 6)), (18, tp (i64 2)), (19, tp (vb true)), (20, tp (V.vp [i64 1, i64 4, i64 4, i64 4, i64 4])), (21, tp (i64 1)), (22, tp (vb true)), (23, tp (vb true)), (26, tp (vb true)), (27, tp (i64 1)), (28, tp (vb true)), (29, tp (i64 1)), (30, tp (i64 1)), (31, tp (i64 2)), (32, tp (i64 2))] [(4, Blk.mk [] true 0 (some (23, 1)))]) (by kernel_rfl) trivial ?_
  refine xe0 [0, 1, 4, 5, 6, 7, 9, 16, 17, 18, 19, 20, 21, 22, 23, 26, 27, 28, 29, 30, 31, 32] [4] (by kernel_rfl) ?_
  refine AWP.seq ?_
  refine AWP.condT (by kernel_rfl) ?_
  refine AWP.skip ?_
  refine AWP.seq ?_
  refine AWP.block ?_
  refine xe0 [0, 1, 4, 5, 6, 7, 9, 16, 17, 18, 19, 20, 21, 22, 23, 26, 27, 28, 29, 30, 31, 32] [4] (by kernel_rfl) ?_
  refine xe1 (os := [true = true → Con Tryd.prog (32 : Nat) [] [i64 (4 : Int)] [] (vb true) ∧ True]) [(3, ⟨none, some ⟨vb true, [], []⟩⟩)] [0, 1, 4, 5, 6, 7, 9, 16, 17, 18, 19, 20, 21, 22, 23, 26, 27, 28, 29, 30, 31, 32] [4] (by kernel_rfl) ⟨(by intro hc0; first | (cases hc0; done) | ((try simp only [Bool.or_false, Bool.false_or, Bool.true_and, Bool.and_true, decide_eq_true_eq, decide_eq_false_iff_not, Bool.and_eq_true, Bool.or_eq_true, Bool.or_eq_false_iff, Bool.not_eq_true', Bool.and_eq_false_iff, beq_iff_eq, bne_iff_ne, bne_eq_false_iff_eq, beq_eq_false_iff_ne, Bool.not_eq_false'] at hc0); exact ⟨(con_sized (4) (by omega)), trivial⟩)), trivial⟩ ?_
  refine xe1 [(1, ⟨none, some ⟨vb true, [], []⟩⟩)] [0, 1, 4, 5, 6, 7, 9, 16, 17, 18, 19, 20, 21, 22, 23, 26, 27, 28, 29, 30, 31, 32] [4] (by kernel_rfl) (AllP.c (con_sized (4) (by omega)) AllP.n) ?_
  refine AWP.condT (by kernel_rfl) ?_
  refine AWP.region tcok hmix [] (os := []) (sf := St.mk [(0, tp (B8 l)), (1, tp (V.vs [i64 1, i64 1, i64 4, i64 4, i64 4, i64 4] 6)), (4, tp (V.sl 4 0 0)), (5, tp (i64 0)), (6, tp (i64 6)), (7, tp (vb true)), (9, tp (i64 4)), (16, tp (V.vs [i64 1, i64 1, i64 4, i64 4, i64 4, i64 4] 6)), (17, tp (i64 6)), (18, tp (i64 2)), (19, tp (vb true)), (20, tp (V.vp [i64 4, i64 4, i64 4, i64 4])), (21, tp (i64 4)), (22, tp (vb true)), (23, tp (vb true)), (26, tp (vb true)), (27, tp (i64 4)), (28, tp (vb true)), (29, tp (i64 2)), (30, tp (i64 4)), (31, tp (i64 6)), (32, tp (i64 2))] [(4, Blk.mk [] true 0 (some (23, 1)))]) (by kernel_rfl) trivial ?_
  refine AWP.region tcok hmix [] (os := []) (sf := St.mk [(0, tp (B8 l)), (1, tp (V.vs [i64 1, i64 1, i64 4, i64 4, i64 4, i64 4] 6)), (4, tp (V.sl 4 0 0)), (5, tp (i64 0)), (6, tp (i64 6)), (7, tp (vb true)), (9, tp (i64 4)), (16, tp (V.vs [i64 1, i64 1, i64 4, i64 4, i64 4, i64 4] 6)), (17, tp (i64 6)), (18, tp (i64 3)), (19, tp (vb true)), (20, tp (V.vp [i64 4, i64 4, i64 4, i64 4])), (21, tp (i64 4)), (22, tp (vb true)), (23, tp (vb true)), (26, tp (vb true)), (27, tp (i64 4)), (28, tp (vb true)), (29, tp (i64 2)), (30, tp (i64 4)), (31, tp (i64 6)), (32, tp (i64 3))] [(4, Blk.mk [] true 0 (some (23, 1)))]) (by kernel_rfl) trivial ?_
  refine xe0 [0, 1, 4, 5, 6, 7, 9, 16, 17, 18, 19, 20, 21, 22, 23, 26, 27, 28, 29, 30, 31, 32] [4] (by kernel_rfl) ?_
  refine AWP.seq ?_
  refine AWP.condT (by kernel_rfl) ?_
  refine AWP.skip ?_
  refine AWP.seq ?_
  refine AWP.block ?_
  refine xe0 [0, 1, 4, 5, 6, 7, 9, 16, 17, 18, 19, 20, 21, 22, 23, 26, 27, 28, 29, 30, 31, 32] [4] (by kernel_rfl) ?_
  refine xe1 (os := [true = true → Con Tryd.prog (32 : Nat) [] [i64 (4 : Int)] [] (vb true) ∧ True]) [(3, ⟨none, some ⟨vb true, [], []⟩⟩)] [0, 1, 4, 5, 6, 7, 9, 16, 17, 18, 19, 20, 21, 22, 23, 26, 27, 28, 29, 30, 31, 32] [4] (by kernel_rfl) ⟨(by intro hc0; first | (cases hc0; done) | ((try simp only [Bool.or_false, Bool.false_or, Bool.true_and, Bool.and_true, decide_eq_true_eq, decide_eq_false_iff_not, Bool.and_eq_true, Bool.or_eq_true, Bool.or_eq_false_iff, Bool.not_eq_true', Bool.and_eq_false_iff, beq_iff_eq, bne_iff_ne, bne_eq_false_iff_eq, beq_eq_false_iff_ne, Bool.not_eq_false'] at hc0); exact ⟨(con_sized (4) (by omega)), trivial⟩)), trivial⟩ ?_
  refine xe1 [(1, ⟨none, some ⟨vb true, [], []⟩⟩)] [0, 1, 4, 5, 6, 7, 9, 16, 17, 18, 19, 20, 21, 22, 23, 26, 27, 28, 29, 30, 31, 32] [4] (by kernel_rfl) (AllP.c (con_sized (4) (by omega)) AllP.n) ?_
  refine AWP.condT (by kernel_rfl) ?_
  refine AWP.region tcok hmix [] (os := []) (sf := St.mk [(0, tp (B8 l)), (1, tp (V.vs [i64 1, i64 1, i64 4, i64 4, i64 4, i64 4] 6)), (4, tp (V.sl 4 0 0)), (5, tp (i64 0)), (6, tp (i64 10)), (7, tp (vb true)), (9, tp (i64 4)), (16, tp (V.vs [i64 1, i64 1, i64 4, i64 4, i64 4, i64 4] 6)), (17, tp (i64 6)), (18, tp (i64 3)), (19, tp (vb true)), (20, tp (V.vp [i64 4, i64 4, i64 4])), (21, tp (i64 4)), (22, tp (vb true)), (23, tp (vb true)), (26, tp (vb true)), (27, tp (i64 4)), (28, tp (vb true)), (29, tp (i64 6)), (30, tp (i64 4)), (31, tp (i64 10)), (32, tp (i64 3))] [(4, Blk.mk [] true 0 (some (23, 1)))]) (by kernel_rfl) trivial ?_
  refine AWP.region tcok hmix [] (os := []) (sf := St.mk [(0, tp (B8 l)), (1, tp (V.vs [i64 1, i64 1, i64 4, i64 4, i64 4, i64 4] 6)), (4, tp (V.sl 4 0 0)), (5, tp (i64 0)), (6, tp (i64 10)), (7, tp (vb true)), (9, tp (i64 4)), (16, tp (V.vs [i64 1, i64 1, i64 4, i64 4, i64 4, i64 4] 6)), (17, tp (i64 6)), (18, tp (i64 4)), (19, tp (vb true)), (20, tp (V.vp [i64 4, i64 4, i64 4])), (21, tp (i64 4)), (22, tp (vb true)), (23, tp (vb true)), (26, tp (vb true)), (27, tp (i64 4)), (28, tp (vb true)), (29, tp (i64 6)), (30, tp (i64 4)), (31, tp (i64 10)), (32, tp (i64 4))] [(4, Blk.mk [] true 0 (some (23, 1)))]) (by kernel_rfl) trivial ?_
  refine xe0 [0, 1, 4, 5, 6, 7, 9, 16, 17, 18, 19, 20, 21, 22, 23, 26, 27, 28, 29, 30, 31, 32] [4] (by kernel_rfl) ?_
  refine AWP.seq ?_
  refine AWP.condT (by kernel_rfl) ?_
  refine AWP.skip ?_
  refine AWP.seq ?_
  refine AWP.block ?_
  refine xe0 [0, 1, 4, 5, 6, 7, 9, 16, 17, 18, 19, 20, 21, 22, 23, 26, 27, 28, 29, 30, 31, 32] [4] (by kernel_rfl) ?_
  refine xe1 (os := [true = true → Con Tryd.prog (32 : Nat) [] [i64 (4 : Int)] [] (vb true) ∧ True]) [(3, ⟨none, some ⟨vb true, [], []⟩⟩)] [0, 1, 4, 5, 6, 7, 9, 16, 17, 18, 19, 20, 21, 22, 23, 26, 27, 28, 29, 30, 31, 32] [4] (by kernel_rfl) ⟨(by intro hc0; first | (cases hc0; done) | ((try simp only [Bool.or_false, Bool.false_or, Bool.true_and, Bool.and_true, decide_eq_true_eq, decide_eq_false_iff_not, Bool.and_eq_true, Bool.or_eq_true, Bool.or_eq_false_iff, Bool.not_eq_true', Bool.and_eq_false_iff, beq_iff_eq, bne_iff_ne, bne_eq_false_iff_eq, beq_eq_false_iff_ne, Bool.not_eq_false'] at hc0); exact ⟨(con_sized (4) (by omega)), trivial⟩)), trivial⟩ ?_
  refine xe1 [(1, ⟨none, some ⟨vb true, [], []⟩⟩)] [0, 1, 4, 5, 6, 7, 9, 16, 17, 18, 19, 20, 21, 22, 23, 26, 27, 28, 29, 30, 31, 32] [4] (by kernel_rfl) (AllP.c (con_sized (4) (by omega)) AllP.n) ?_
  refine AWP.condT (by kernel_rfl) ?_
  refine AWP.region tcok hmix [] (os := []) (sf := St.mk [(0, tp (B8 l)), (1, tp (V.vs [i64 1, i64 1, i64 4, i64 4, i64 4, i64 4] 6)), (4, tp (V.sl 4 0 0)), (5, tp (i64 0)), (6, tp (i64 14)), (7, tp (vb true)), (9, tp (i64 4)), (16, tp (V.vs [i64 1, i64 1, i64 4, i64 4, i64 4, i64 4] 6)), (17, tp (i64 6)), (18, tp (i64 4)), (19, tp (vb true)), (20, tp (V.vp [i64 4, i64 4])), (21, tp (i64 4)), (22, tp (vb true)), (23, tp (vb true)), (26, tp (vb true)), (27, tp (i64 4)), (28, tp (vb true)), (29, tp (i64 10)), (30, tp (i64 4)), (31, tp (i64 14)), (32, tp (i64 4))] [(4, Blk.mk [] true 0 (some (23, 1)))]) (by kernel_rfl) trivial ?_
  refine AWP.region tcok hmix [] (os := []) (sf := St.mk [(0, tp (B8 l)), (1, tp (V.vs [i64 1, i64 1, i64 4, i64 4, i64 4, i64 4] 6)), (4, tp (V.sl 4 0 0)), (5, tp (i64 0)), (6, tp (i64 14)), (7, tp (vb true)), (9, tp (i64 4)), (16, tp (V.vs [i64 1, i64 1, i64 4, i64 4, i64 4, i64 4] 6)), (17, tp (i64 6)), (18, tp (i64 5)), (19, tp (vb true)), (20, tp (V.vp [i64 4, i64 4])), (21, tp (i64 4)), (22, tp (vb true)), (23, tp (vb true)), (26, tp (vb true)), (27, tp (i64 4)), (28, tp (vb true)), (29, tp (i64 10)), (30, tp (i64 4)), (31, tp (i64 14)), (32, tp (i64 5))] [(4, Blk.mk [] true 0 (some (23, 1)))]) (by kernel_rfl) trivial ?_
  refine xe0 [0, 1, 4, 5, 6, 7, 9, 16, 17, 18, 19, 20, 21, 22, 23, 26, 27, 28, 29, 30, 31, 32] [4] (by kernel_rfl) ?_
  refine AWP.seq ?_
  refine AWP.condT (by kernel_rfl) ?_
  refine AWP.skip ?_
  refine AWP.seq ?_
  refine AWP.block ?_
  refine xe0 [0, 1, 4, 5, 6, 7, 9, 16, 17, 18, 19, 20, 21, 22, 23, 26, 27, 28, 29, 30, 31, 32] [4] (by kernel_rfl) ?_
  refine xe1 (os := [true = true → Con Tryd.prog (32 : Nat) [] [i64 (4 : Int)] [] (vb true) ∧ True]) [(3, ⟨none, some ⟨vb true, [], []⟩⟩)] [0, 1, 4, 5, 6, 7, 9, 16, 17, 18, 19, 20, 21, 22, 23, 26, 27, 28, 29, 30, 31, 32] [4] (by kernel_rfl) ⟨(by intro hc0; first | (cases hc0; done) | ((try simp only [Bool.or_false, Bool.false_or, Bool.true_and, Bool.and_true, decide_eq_true_eq, decide_eq_false_iff_not, Bool.and_eq_true, Bool.or_eq_true, Bool.or_eq_false_iff, Bool.not_eq_true', Bool.and_eq_false_iff, beq_iff_eq, bne_iff_ne, bne_eq_false_iff_eq, beq_eq_false_iff_ne, Bool.not_eq_false'] at hc0); exact ⟨(con_sized (4) (by omega)), trivial⟩)), trivial⟩ ?_
  refine xe1 [(1, ⟨none, some ⟨vb true, [], []⟩⟩)] [0, 1, 4, 5, 6, 7, 9, 16, 17, 18, 19, 20, 21, 22, 23, 26, 27, 28, 29, 30, 31, 32] [4] (by kernel_rfl) (AllP.c (con_sized (4) (by omega)) AllP.n) ?_
  refine AWP.condT (by kernel_rfl) ?_
  refine AWP.region tcok hmix [] (os := []) (sf := St.mk [(0, tp (B8 l)), (1, tp (V.vs [i64 1, i64 1, i64 4, i64 4, i64 4, i64 4] 6)), (4, tp (V.sl 4 0 0)), (5, tp (i64 0)), (6, tp (i64 18)), (7, tp (vb true)), (9, tp (i64 4)), (16, tp (V.vs [i64 1, i64 1, i64 4, i64 4, i64 4, i64 4] 6)), (17, tp (i64 6)), (18, tp (i64 5)), (19, tp (vb true)), (20, tp (V.vp [i64 4])), (21, tp (i64 4)), (22, tp (vb true)), (23, tp (vb true)), (26, tp (vb true)), (27, tp (i64 4)), (28, tp (vb true)), (29, tp (i64 14)), (30, tp (i64 4)), (31, tp (i64 18)), (32, tp (i64 5))] [(4, Blk.mk [] true 0 (some (23, 1)))]) (by kernel_rfl) trivial ?_
  refine AWP.region tcok hmix [] (os := []) (sf := St.mk [(0, tp (B8 l)), (1, tp (V.vs [i64 1, i64 1, i64 4, i64 4, i64 4, i64 4] 6)), (4, tp (V.sl 4 0 0)), (5, tp (i64 0)), (6, tp (i64 18)), (7, tp (vb true)), (9, tp (i64 4)), (16, tp (V.vs [i64 1, i64 1, i64 4, i64 4, i64 4, i64 4] 6)), (17, tp (i64 6)), (18, tp (i64 6)), (19, tp (vb true)), (20, tp (V.vp [i64 4])), (21, tp (i64 4)), (22, tp (vb true)), (23, tp (vb true)), (26, tp (vb true)), (27, tp (i64 4)), (28, tp (vb true)), (29, tp (i64 14)), (30, tp (i64 4)), (31, tp (i64 18)), (32, tp (i64 6))] [(4, Blk.mk [] true 0 (some (23, 1)))]) (by kernel_rfl) trivial ?_
  refine xe0 [0, 1, 4, 5, 6, 7, 9, 16, 17, 18, 19, 20, 21, 22, 23, 26, 27, 28, 29, 30, 31, 32] [4] (by kernel_rfl) ?_
  refine AWP.seq ?_
  refine AWP.condF (by kernel_rfl) ?_
  refine AWP.exit ?_
  refine AWP.seq ?_
  refine AWP.block ?_
  refine xe0 [0, 1, 4, 5, 6, 33] [4] (by kernel_rfl) ?_
  refine AWP.condF (by kernel_rfl) ?_
  refine xe0 [0, 1, 4, 5, 36] [4] (by kernel_rfl) ?_
  refine AWP.cond (b := 18 != (↑(List.length l) : Int)) (by kernel_rfl) (fun hq16 => ?_) (fun hq16 => ?_)
  · simp only [bne_iff_ne] at hq16
    refine AWP.seq ?_
    refine AWP.keep' [0, 1] [] (sf := St.mk [(0, tp (B8 l)), (1, tp (V.vs [i64 1, i64 1, i64 4, i64 4, i64 4, i64 4] 6))] []) (by kernel_rfl) ?_
    refine xg0 [0, 1, 4, 5] [4] (by kernel_rfl) ?_
    refine AWP.ret ?_
    refine ⟨Or.inr rfl, Eq.trans (b := some ([(4, Blk.mk [] true 0 (some (23, 1)))], V.tup [V.sl 4 0 0, i64 2])) (by kernel_rfl) ?_⟩
    rfl
  simp only [bne_eq_false_iff_eq] at hq16
  (exfalso; omega)
theorem parse_l (l : List Int) (hl : l.length ≤ 9223372036854775807) (h : ¬ l.length = 18) : Con Tryd.prog 20 [] [.vs (u8s l) l.length] [] (.tup [dV 0 0 0 0 0 0, i64 2]) := by
  have c1 := con_numbers_no l hl h
  refine Con.of (C := ⟨Tryd.prog, tc, Tryd.f20.ntmps⟩) [] tcok Tryd.func20 rfl rfl (by kernel_rfl) (by kernel_rfl) ?_
  refine xe0 [0, 2, 3] [2] (by kernel_rfl) ?_
  refine xe1 (os := [Con Tryd.prog 25 [] [] [(0, Blk.mk [i64 1, i64 1, i64 4, i64 4, i64 4, i64 4] true 0 (some (3, 1)))] (V.sl 0 0 6), VO (V.tup [V.sl (4 : Nat) (0 : Nat) (0 : Nat), i64 (2 : Int)]), VOH [((4 : Nat), Blk.mk [] true (0 : Nat) (some ((23 : Nat), (1 : Nat))))], Con Tryd.prog 28 [] [B8 l, V.vs [i64 1, i64 1, i64 4, i64 4, i64 4, i64 4] 6] [(4, Blk.mk [] true 0 (some (23, 1)))] (V.tup [V.sl 4 0 0, i64 2]), (0 : Nat) = (0 : Nat), (6 : Nat) = (6 : Nat)]) [(1, ⟨none, some ⟨V.sl 0 0 6, [(0, Blk.mk [i64 1, i64 1, i64 4, i64 4, i64 4, i64 4] true 0 (some (3, 1)))], []⟩⟩), (2, ⟨none, some ⟨V.tup [V.sl 4 0 0, i64 2], [(4, Blk.mk [] true 0 (some (23, 1)))], [(100000, true)]⟩⟩)] [2, 3, 4, 5] [2, 110004] (by kernel_rfl) ⟨(con_sizes ), (VO.tup (VOL.cons (VO.sl _ _ _) (VOL.cons (VO.val _) VOL.nil))), ⟨VOL.nil, trivial⟩, (c1 ), (by omega), (by omega), trivial⟩ ?_
  refine AWP.seq ?_
  refine xe0 [2, 3, 4, 5, 14] [2, 110004] (by kernel_rfl) ?_
  refine AWP.condT (by kernel_rfl) ?_
  refine xe0 [2, 3, 4] [2, 110004] (by kernel_rfl) ?_
  refine AWP.ret ?_
  refine ⟨Or.inr rfl, Eq.trans (b := some ([], V.tup [V.agg true [u8 0, i64 0, i32 0, i32 0, u32 0, u32 0], i64 2])) (by kernel_rfl) ?_⟩
  rfl
theorem rparse_l (l : List Int) (hl : l.length ≤ 9223372036854775807) (h : ¬ l.length = 18) : Con Tryd.prog 21 [] [.vs (u8s l) l.length] [] (.tup [dV 0 0 0 0 0 0, i64 2]) := by
  refine Con.of (C := ⟨Tryd.prog, tc, Tryd.f21.ntmps⟩) [] tcok Tryd.func21 rfl rfl (by kernel_rfl) (by kernel_rfl) ?_
  refine xe0 [0, 2, 3] [2] (by kernel_rfl) ?_
  refine AWP.seq ?_
  refine xe0 [0, 2, 3, 7] [2] (by kernel_rfl) ?_
  refine AWP.cond (b := (↑(List.length l) : Int) != 18) (by kernel_rfl) (fun hq18 => ?_) (fun hq18 => ?_)
  · simp only [bne_iff_ne] at hq18
    refine xe0 [0, 2, 3] [2] (by kernel_rfl) ?_
    refine AWP.ret ?_
    refine ⟨Or.inr rfl, Eq.trans (b := some ([], V.tup [V.agg true [u8 0, i64 0, i32 0, i32 0, u32 0, u32 0], i64 2])) (by kernel_rfl) ?_⟩
    rfl
  simp only [bne_eq_false_iff_eq] at hq18
  (exfalso; omega)
theorem parse_18 (b0 b1 b2 b3 b4 b5 b6 b7 b8 b9 b10 b11 b12 b13 b14 b15 b16 b17 : Int) (h : 0 ≤ b0 ∧ b0 < 256 ∧ 0 ≤ b1 ∧ b1 < 256 ∧ 0 ≤ b2 ∧ b2 < 256 ∧ 0 ≤ b3 ∧ b3 < 256 ∧ 0 ≤ b4 ∧ b4 < 256 ∧ 0 ≤ b5 ∧ b5 < 256 ∧ 0 ≤ b6 ∧ b6 < 256 ∧ 0 ≤ b7 ∧ b7 < 256 ∧ 0 ≤ b8 ∧ b8 < 256 ∧ 0 ≤ b9 ∧ b9 < 256 ∧ 0 ≤ b10 ∧ b10 < 256 ∧ 0 ≤ b11 ∧ b11 < 256 ∧ 0 ≤ b12 ∧ b12 < 256 ∧ 0 ≤ b13 ∧ b13 < 256 ∧ 0 ≤ b14 ∧ b14 < 256 ∧ 0 ≤ b15 ∧ b15 < 256 ∧ 0 ≤ b16 ∧ b16 < 256 ∧ 0 ≤ b17 ∧ b17 < 256) (e : Bool) (he : cright b0 b1 (IntKind.wrap .i32 (v4 b2 b3 b4 b5)) (IntKind.wrap .i32 (v4 b6 b7 b8 b9)) = e) : Con Tryd.prog 20 [] [.vs (u8s [b0, b1, b2, b3, b4, b5, b6, b7, b8, b9, b10, b11, b12, b13, b14, b15, b16, b17]) 18] [] (.tup [if e then dV b0 b1 (IntKind.wrap .i32 (v4 b2 b3 b4 b5)) (IntKind.wrap .i32 (v4 b6 b7 b8 b9)) (v4 b10 b11 b12 b13) (v4 b14 b15 b16 b17) else dV 0 0 0 0 0 0, i64 (if e then 0 else 1)]) := by
  have c1 := con_numbers b0 b1 b2 b3 b4 b5 b6 b7 b8 b9 b10 b11 b12 b13 b14 b15 b16 b17 h
  have c2 := con_cright b0 b1 (IntKind.wrap .i32 (v4 b2 b3 b4 b5)) (IntKind.wrap .i32 (v4 b6 b7 b8 b9))
  rw [he] at c2
  cases e
  · refine Con.of (C := ⟨Tryd.prog, tc, Tryd.f20.ntmps⟩) [] tcok Tryd.func20 rfl rfl (by kernel_rfl) (by kernel_rfl) ?_
    refine xe0 [0, 2, 3] [2] (by kernel_rfl) ?_
    refine xe1 (os := [Con Tryd.prog 25 [] [] [(0, Blk.mk [i64 1, i64 1, i64 4, i64 4, i64 4, i64 4] true 0 (some (3, 1)))] (V.sl 0 0 6), VO (V.tup [V.sl (10 : Nat) (0 : Nat) (6 : Nat), i64 (0 : Int)]), VOH [((10 : Nat), Blk.mk [u32 b0, u32 b1, u32 (v4 b2 b3 b4 b5), u32 (v4 b6 b7 b8 b9), u32 (v4 b10 b11 b12 b13), u32 (v4 b14 b15 b16 b17)] true (0 : Nat) (some ((23 : Nat), (1 : Nat))))], Con Tryd.prog 28 [] [V.vs [u8 b0, u8 b1, u8 b2, u8 b3, u8 b4, u8 b5, u8 b6, u8 b7, u8 b8, u8 b9, u8 b10, u8 b11, u8 b12, u8 b13, u8 b14, u8 b15, u8 b16, u8 b17] 18, V.vs [i64 1, i64 1, i64 4, i64 4, i64 4, i64 4] 6] [(10, Blk.mk [u32 b0, u32 b1, u32 (v4 b2 b3 b4 b5), u32 (v4 b6 b7 b8 b9), u32 (v4 b10 b11 b12 b13), u32 (v4 b14 b15 b16 b17)] true 0 (some (23, 1)))] (V.tup [V.sl 10 0 6, i64 0]), (0 : Nat) = (0 : Nat), (6 : Nat) = (6 : Nat)]) [(1, ⟨none, some ⟨V.sl 0 0 6, [(0, Blk.mk [i64 1, i64 1, i64 4, i64 4, i64 4, i64 4] true 0 (some (3, 1)))], []⟩⟩), (2, ⟨none, some ⟨V.tup [V.sl 10 0 6, i64 0], [(10, Blk.mk [u32 b0, u32 b1, u32 (v4 b2 b3 b4 b5), u32 (v4 b6 b7 b8 b9), u32 (v4 b10 b11 b12 b13), u32 (v4 b14 b15 b16 b17)] true 0 (some (23, 1)))], [(100000, true)]⟩⟩)] [2, 3, 4, 5] [2, 110010] (by kernel_rfl) ⟨(con_sizes ), (VO.tup (VOL.cons (VO.sl _ _ _) (VOL.cons (VO.val _) VOL.nil))), ⟨(VOL.cons (VO.val _) (VOL.cons (VO.val _) (VOL.cons (VO.val _) (VOL.cons (VO.val _) (VOL.cons (VO.val _) (VOL.cons (VO.val _) VOL.nil)))))), trivial⟩, (c1 ), (by omega), (by omega), trivial⟩ ?_
    refine AWP.seq ?_
    refine xe0 [2, 3, 4, 5, 14] [2, 110010] (by kernel_rfl) ?_
    refine AWP.condF (by kernel_rfl) ?_
    refine AWP.skip ?_
    refine xe1 (os := [u8 (IntKind.wrap IntKind.u8 b0) = u8 b0, i64 (IntKind.wrap IntKind.i64 b1) = i64 b1]) [(3, ⟨some (u8 b0), none⟩), (7, ⟨some (i64 b1), none⟩)] [2, 3, 6] [2, 6] (by kernel_rfl) ⟨(wr_u8 (by omega) (by omega)), (wr_i64 (by omega) (by omega)), trivial⟩ ?_
    refine AWP.seq ?_
    refine xe1 (os := [Con Tryd.prog 10 [] [V.agg true [u8 b0, i64 b1, i32 (IntKind.wrap IntKind.i32 (v4 b2 b3 b4 b5)), i32 (IntKind.wrap IntKind.i32 (v4 b6 b7 b8 b9)), u32 (v4 b10 b11 b12 b13), u32 (v4 b14 b15 b16 b17)]] [] (vb false)]) [(1, ⟨none, some ⟨vb false, [], []⟩⟩)] [2, 3, 6, 42] [2, 6] (by kernel_rfl) ⟨(c2 (v4 b10 b11 b12 b13) (v4 b14 b15 b16 b17)), trivial⟩ ?_
    refine AWP.condT (by kernel_rfl) ?_
    refine xe0 [2, 3, 6] [2, 6] (by kernel_rfl) ?_
    refine AWP.ret ?_
    refine ⟨Or.inr rfl, Eq.trans (b := some ([], V.tup [V.agg true [u8 0, i64 0, i32 0, i32 0, u32 0, u32 0], i64 1])) (by kernel_rfl) ?_⟩
    rfl
  · refine Con.of (C := ⟨Tryd.prog, tc, Tryd.f20.ntmps⟩) [] tcok Tryd.func20 rfl rfl (by kernel_rfl) (by kernel_rfl) ?_
    refine xe0 [0, 2, 3] [2] (by kernel_rfl) ?_
    refine xe1 (os := [Con Tryd.prog 25 [] [] [(0, Blk.mk [i64 1, i64 1, i64 4, i64 4, i64 4, i64 4] true 0 (some (3, 1)))] (V.sl 0 0 6), VO (V.tup [V.sl (10 : Nat) (0 : Nat) (6 : Nat), i64 (0 : Int)]), VOH [((10 : Nat), Blk.mk [u32 b0, u32 b1, u32 (v4 b2 b3 b4 b5), u32 (v4 b6 b7 b8 b9), u32 (v4 b10 b11 b12 b13), u32 (v4 b14 b15 b16 b17)] true (0 : Nat) (some ((23 : Nat), (1 : Nat))))], Con Tryd.prog 28 [] [V.vs [u8 b0, u8 b1, u8 b2, u8 b3, u8 b4, u8 b5, u8 b6, u8 b7, u8 b8, u8 b9, u8 b10, u8 b11, u8 b12, u8 b13, u8 b14, u8 b15, u8 b16, u8 b17] 18, V.vs [i64 1, i64 1, i64 4, i64 4, i64 4, i64 4] 6] [(10, Blk.mk [u32 b0, u32 b1, u32 (v4 b2 b3 b4 b5), u32 (v4 b6 b7 b8 b9), u32 (v4 b10 b11 b12 b13), u32 (v4 b14 b15 b16 b17)] true 0 (some (23, 1)))] (V.tup [V.sl 10 0 6, i64 0]), (0 : Nat) = (0 : Nat), (6 : Nat) = (6 : Nat)]) [(1, ⟨none, some ⟨V.sl 0 0 6, [(0, Blk.mk [i64 1, i64 1, i64 4, i64 4, i64 4, i64 4] true 0 (some (3, 1)))], []⟩⟩), (2, ⟨none, some ⟨V.tup [V.sl 10 0 6, i64 0], [(10, Blk.mk [u32 b0, u32 b1, u32 (v4 b2 b3 b4 b5), u32 (v4 b6 b7 b8 b9), u32 (v4 b10 b11 b12 b13), u32 (v4 b14 b15 b16 b17)] true 0 (some (23, 1)))], [(100000, true)]⟩⟩)] [2, 3, 4, 5] [2, 110010] (by kernel_rfl) ⟨(con_sizes ), (VO.tup (VOL.cons (VO.sl _ _ _) (VOL.cons (VO.val _) VOL.nil))), ⟨(VOL.cons (VO.val _) (VOL.cons (VO.val _) (VOL.cons (VO.val _) (VOL.cons (VO.val _) (VOL.cons (VO.val _) (VOL.cons (VO.val _) VOL.nil)))))), trivial⟩, (c1 ), (by omega), (by omega), trivial⟩ ?_
    refine AWP.seq ?_
    refine xe0 [2, 3, 4, 5, 14] [2, 110010] (by kernel_rfl) ?_
    refine AWP.condF (by kernel_rfl) ?_
    refine AWP.skip ?_
    refine xe1 (os := [u8 (IntKind.wrap IntKind.u8 b0) = u8 b0, i64 (IntKind.wrap IntKind.i64 b1) = i64 b1]) [(3, ⟨some (u8 b0), none⟩), (7, ⟨some (i64 b1), none⟩)] [2, 3, 6] [2, 6] (by kernel_rfl) ⟨(wr_u8 (by omega) (by omega)), (wr_i64 (by omega) (by omega)), trivial⟩ ?_
    refine AWP.seq ?_
    refine xe1 (os := [Con Tryd.prog 10 [] [V.agg true [u8 b0, i64 b1, i32 (IntKind.wrap IntKind.i32 (v4 b2 b3 b4 b5)), i32 (IntKind.wrap IntKind.i32 (v4 b6 b7 b8 b9)), u32 (v4 b10 b11 b12 b13), u32 (v4 b14 b15 b16 b17)]] [] (vb true)]) [(1, ⟨none, some ⟨vb true, [], []⟩⟩)] [2, 3, 6, 42] [2, 6] (by kernel_rfl) ⟨(c2 (v4 b10 b11 b12 b13) (v4 b14 b15 b16 b17)), trivial⟩ ?_
    refine AWP.condF (by kernel_rfl) ?_
    refine AWP.skip ?_
    refine xe0 [2, 3] [2] (by kernel_rfl) ?_
    refine AWP.ret ?_
    refine ⟨Or.inr rfl, Eq.trans (b := some ([], V.tup [V.agg true [u8 b0, i64 b1, i32 (IntKind.wrap IntKind.i32 (v4 b2 b3 b4 b5)), i32 (IntKind.wrap IntKind.i32 (v4 b6 b7 b8 b9)), u32 (v4 b10 b11 b12 b13), u32 (v4 b14 b15 b16 b17)], i64 0])) (by kernel_rfl) ?_⟩
    rfl
theorem rparse_18 (b0 b1 b2 b3 b4 b5 b6 b7 b8 b9 b10 b11 b12 b13 b14 b15 b16 b17 : Int) (h : 0 ≤ b0 ∧ b0 < 256 ∧ 0 ≤ b1 ∧ b1 < 256 ∧ 0 ≤ b2 ∧ b2 < 256 ∧ 0 ≤ b3 ∧ b3 < 256 ∧ 0 ≤ b4 ∧ b4 < 256 ∧ 0 ≤ b5 ∧ b5 < 256 ∧ 0 ≤ b6 ∧ b6 < 256 ∧ 0 ≤ b7 ∧ b7 < 256 ∧ 0 ≤ b8 ∧ b8 < 256 ∧ 0 ≤ b9 ∧ b9 < 256 ∧ 0 ≤ b10 ∧ b10 < 256 ∧ 0 ≤ b11 ∧ b11 < 256 ∧ 0 ≤ b12 ∧ b12 < 256 ∧ 0 ≤ b13 ∧ b13 < 256 ∧ 0 ≤ b14 ∧ b14 < 256 ∧ 0 ≤ b15 ∧ b15 < 256 ∧ 0 ≤ b16 ∧ b16 < 256 ∧ 0 ≤ b17 ∧ b17 < 256) (e : Bool) (he : cright b0 b1 (IntKind.wrap .i32 (v4 b2 b3 b4 b5)) (IntKind.wrap .i32 (v4 b6 b7 b8 b9)) = e) : Con Tryd.prog 21 [] [.vs (u8s [b0, b1, b2, b3, b4, b5, b6, b7, b8, b9, b10, b11, b12, b13, b14, b15, b16, b17]) 18] [] (.tup [if e then dV b0 b1 (IntKind.wrap .i32 (v4 b2 b3 b4 b5)) (IntKind.wrap .i32 (v4 b6 b7 b8 b9)) (v4 b10 b11 b12 b13) (v4 b14 b15 b16 b17) else dV 0 0 0 0 0 0, i64 (if e then 0 else 1)]) := by
  have c2 := con_rcright b0 b1 (IntKind.wrap .i32 (v4 b2 b3 b4 b5)) (IntKind.wrap .i32 (v4 b6 b7 b8 b9))
  rw [he] at c2
  have d1 := con_val4 b2 b3 b4 b5 (by omega) (by omega) (by omega) (by omega)
  have d2 := con_val4 b6 b7 b8 b9 (by omega) (by omega) (by omega) (by omega)
  have d3 := con_val4 b10 b11 b12 b13 (by omega) (by omega) (by omega) (by omega)
  have d4 := con_val4 b14 b15 b16 b17 (by omega) (by omega) (by omega) (by omega)
  have v1 : 0 ≤ v4 b2 b3 b4 b5 ∧ v4 b2 b3 b4 b5 < 4294967296 := by unfold v4; omega
  have v2 : 0 ≤ v4 b6 b7 b8 b9 ∧ v4 b6 b7 b8 b9 < 4294967296 := by unfold v4; omega
  have v3 : 0 ≤ v4 b10 b11 b12 b13 ∧ v4 b10 b11 b12 b13 < 4294967296 := by unfold v4; omega
  have v5 : 0 ≤ v4 b14 b15 b16 b17 ∧ v4 b14 b15 b16 b17 < 4294967296 := by unfold v4; omega
  cases e
  · refine Con.of (C := ⟨Tryd.prog, tc, Tryd.f21.ntmps⟩) [] tcok Tryd.func21 rfl rfl (by kernel_rfl) (by kernel_rfl) ?_
    refine xe0 [0, 2, 3] [2] (by kernel_rfl) ?_
    refine AWP.seq ?_
    refine xe0 [0, 2, 3, 7] [2] (by kernel_rfl) ?_
    refine AWP.condF (by kernel_rfl) ?_
    refine AWP.skip ?_
    refine xe1 (os := [i64 (IntKind.wrap IntKind.i64 b1) = i64 b1, Con Tryd.prog 29 [] [V.vs [u8 b2, u8 b3, u8 b4, u8 b5] 4] [] (u64 (v4 b2 b3 b4 b5)), u32 (IntKind.wrap IntKind.u32 (v4 b2 b3 b4 b5)) = u32 (v4 b2 b3 b4 b5), Con Tryd.prog 29 [] [V.vs [u8 b6, u8 b7, u8 b8, u8 b9] 4] [] (u64 (v4 b6 b7 b8 b9)), u32 (IntKind.wrap IntKind.u32 (v4 b6 b7 b8 b9)) = u32 (v4 b6 b7 b8 b9), Con Tryd.prog 29 [] [V.vs [u8 b10, u8 b11, u8 b12, u8 b13] 4] [] (u64 (v4 b10 b11 b12 b13)), u32 (IntKind.wrap IntKind.u32 (v4 b10 b11 b12 b13)) = u32 (v4 b10 b11 b12 b13), Con Tryd.prog 29 [] [V.vs [u8 b14, u8 b15, u8 b16, u8 b17] 4] [] (u64 (v4 b14 b15 b16 b17)), u32 (IntKind.wrap IntKind.u32 (v4 b14 b15 b16 b17)) = u32 (v4 b14 b15 b16 b17)]) [(6, ⟨some (i64 b1), none⟩), (9, ⟨none, some ⟨u64 (v4 b2 b3 b4 b5), [], []⟩⟩), (10, ⟨some (u32 (v4 b2 b3 b4 b5)), none⟩), (14, ⟨none, some ⟨u64 (v4 b6 b7 b8 b9), [], []⟩⟩), (15, ⟨some (u32 (v4 b6 b7 b8 b9)), none⟩), (19, ⟨none, some ⟨u64 (v4 b10 b11 b12 b13), [], []⟩⟩), (20, ⟨some (u32 (v4 b10 b11 b12 b13)), none⟩), (23, ⟨none, some ⟨u64 (v4 b14 b15 b16 b17), [], []⟩⟩), (24, ⟨some (u32 (v4 b14 b15 b16 b17)), none⟩)] [2, 3, 4] [2, 4] (by kernel_rfl) ⟨(wr_i64 (by omega) (by omega)), (d1 ), (wr_u32 (by omega) (by omega)), (d2 ), (wr_u32 (by omega) (by omega)), (d3 ), (wr_u32 (by omega) (by omega)), (d4 ), (wr_u32 (by omega) (by omega)), trivial⟩ ?_
    refine AWP.seq ?_
    refine xe1 (os := [Con Tryd.prog 11 [] [V.agg true [u8 b0, i64 b1, i32 (IntKind.wrap IntKind.i32 (v4 b2 b3 b4 b5)), i32 (IntKind.wrap IntKind.i32 (v4 b6 b7 b8 b9)), u32 (v4 b10 b11 b12 b13), u32 (v4 b14 b15 b16 b17)]] [] (vb false)]) [(1, ⟨none, some ⟨vb false, [], []⟩⟩)] [2, 3, 4, 37] [2, 4] (by kernel_rfl) ⟨(c2 (v4 b10 b11 b12 b13) (v4 b14 b15 b16 b17)), trivial⟩ ?_
    refine AWP.condT (by kernel_rfl) ?_
    refine xe0 [2, 3, 4] [2, 4] (by kernel_rfl) ?_
    refine AWP.ret ?_
    refine ⟨Or.inr rfl, Eq.trans (b := some ([], V.tup [V.agg true [u8 0, i64 0, i32 0, i32 0, u32 0, u32 0], i64 1])) (by kernel_rfl) ?_⟩
    rfl
  · refine Con.of (C := ⟨Tryd.prog, tc, Tryd.f21.ntmps⟩) [] tcok Tryd.func21 rfl rfl (by kernel_rfl) (by kernel_rfl) ?_
    refine xe0 [0, 2, 3] [2] (by kernel_rfl) ?_
    refine AWP.seq ?_
    refine xe0 [0, 2, 3, 7] [2] (by kernel_rfl) ?_
    refine AWP.condF (by kernel_rfl) ?_
    refine AWP.skip ?_
    refine xe1 (os := [i64 (IntKind.wrap IntKind.i64 b1) = i64 b1, Con Tryd.prog 29 [] [V.vs [u8 b2, u8 b3, u8 b4, u8 b5] 4] [] (u64 (v4 b2 b3 b4 b5)), u32 (IntKind.wrap IntKind.u32 (v4 b2 b3 b4 b5)) = u32 (v4 b2 b3 b4 b5), Con Tryd.prog 29 [] [V.vs [u8 b6, u8 b7, u8 b8, u8 b9] 4] [] (u64 (v4 b6 b7 b8 b9)), u32 (IntKind.wrap IntKind.u32 (v4 b6 b7 b8 b9)) = u32 (v4 b6 b7 b8 b9), Con Tryd.prog 29 [] [V.vs [u8 b10, u8 b11, u8 b12, u8 b13] 4] [] (u64 (v4 b10 b11 b12 b13)), u32 (IntKind.wrap IntKind.u32 (v4 b10 b11 b12 b13)) = u32 (v4 b10 b11 b12 b13), Con Tryd.prog 29 [] [V.vs [u8 b14, u8 b15, u8 b16, u8 b17] 4] [] (u64 (v4 b14 b15 b16 b17)), u32 (IntKind.wrap IntKind.u32 (v4 b14 b15 b16 b17)) = u32 (v4 b14 b15 b16 b17)]) [(6, ⟨some (i64 b1), none⟩), (9, ⟨none, some ⟨u64 (v4 b2 b3 b4 b5), [], []⟩⟩), (10, ⟨some (u32 (v4 b2 b3 b4 b5)), none⟩), (14, ⟨none, some ⟨u64 (v4 b6 b7 b8 b9), [], []⟩⟩), (15, ⟨some (u32 (v4 b6 b7 b8 b9)), none⟩), (19, ⟨none, some ⟨u64 (v4 b10 b11 b12 b13), [], []⟩⟩), (20, ⟨some (u32 (v4 b10 b11 b12 b13)), none⟩), (23, ⟨none, some ⟨u64 (v4 b14 b15 b16 b17), [], []⟩⟩), (24, ⟨some (u32 (v4 b14 b15 b16 b17)), none⟩)] [2, 3, 4] [2, 4] (by kernel_rfl) ⟨(wr_i64 (by omega) (by omega)), (d1 ), (wr_u32 (by omega) (by omega)), (d2 ), (wr_u32 (by omega) (by omega)), (d3 ), (wr_u32 (by omega) (by omega)), (d4 ), (wr_u32 (by omega) (by omega)), trivial⟩ ?_
    refine AWP.seq ?_
    refine xe1 (os := [Con Tryd.prog 11 [] [V.agg true [u8 b0, i64 b1, i32 (IntKind.wrap IntKind.i32 (v4 b2 b3 b4 b5)), i32 (IntKind.wrap IntKind.i32 (v4 b6 b7 b8 b9)), u32 (v4 b10 b11 b12 b13), u32 (v4 b14 b15 b16 b17)]] [] (vb true)]) [(1, ⟨none, some ⟨vb true, [], []⟩⟩)] [2, 3, 4, 37] [2, 4] (by kernel_rfl) ⟨(c2 (v4 b10 b11 b12 b13) (v4 b14 b15 b16 b17)), trivial⟩ ?_
    refine AWP.condF (by kernel_rfl) ?_
    refine AWP.skip ?_
    refine xe0 [2, 3] [2] (by kernel_rfl) ?_
    refine AWP.ret ?_
    refine ⟨Or.inr rfl, Eq.trans (b := some ([], V.tup [V.agg true [u8 b0, i64 b1, i32 (IntKind.wrap IntKind.i32 (v4 b2 b3 b4 b5)), i32 (IntKind.wrap IntKind.i32 (v4 b6 b7 b8 b9)), u32 (v4 b10 b11 b12 b13), u32 (v4 b14 b15 b16 b17)], i64 0])) (by kernel_rfl) ?_⟩
    rfl
end Go.Proofs.YtlfjnkobnkfioaaDoor
