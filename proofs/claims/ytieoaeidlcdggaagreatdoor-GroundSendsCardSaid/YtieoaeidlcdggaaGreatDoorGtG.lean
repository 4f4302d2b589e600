/- Phrases made packets: one step. -/
import Derived.Test.YtieoaeidlcdggaaGreatDoorRg
import Derived.Test.YtieoaeidlcdggaaGreatDoorGtB
import Derived.Test.YtieoaeidlcdggaaGreatDoorGsJ
namespace Go.Proofs.YtieoaeidlcdggaaGreatDoor
open Go Go.Ab
set_option linter.unusedSimpArgs false
set_option linter.unusedVariables false
set_option maxRecDepth 100000
theorem iand_lo {a : Int} (h : 0 ≤ a ∧ a < 16384) : iand .u16 a 16383 = a := by
  obtain ⟨k, rfl⟩ : ∃ k : Nat, a = k := ⟨a.toNat, by omega⟩
  have e : iand .u16 (k : Int) 16383 = ((BitVec.ofInt 16 (k : Int) &&& BitVec.ofInt 16 16383).toNat : Int) := wrap16 _
  rw [e, BitVec.toNat_and, BitVec.toNat_ofInt, BitVec.toNat_ofInt]
  have e1 : ((k : Int) % ((2 ^ 16 : Nat) : Int)).toNat = k := by
    rw [show ((2 ^ 16 : Nat) : Int) = 65536 from rfl]
    omega
  have e2 : ((16383 : Int) % ((2 ^ 16 : Nat) : Int)).toNat = 2 ^ 14 - 1 := by decide
  rw [e1, e2, Nat.and_two_pow_sub_one_eq_mod]
  omega
theorem con_next (c : Int) (h : 0 ≤ c ∧ c < 1000) : Con Tryz.prog 18 [] [u16 c] [] (u16 (c + 1)) := by
  have wf1 : iand .u16 (c + 1) 16383 = c + 1 := iand_lo ⟨by omega, by omega⟩
  refine Con.of (C := ⟨Tryz.prog, tc, Tryz.f18.ntmps⟩) [] tcok Tryz.func18 rfl rfl (by kernel_rfl) (by kernel_rfl) ?_
  refine AWP.seq ?_
  refine AWP.regionT tcok hmix [] [0, 2] [] (os := []) (s' := St.mk [(0, tp (u16 c)), (2, tp (u16 0))] []) (by kernel_rfl) trivial ?_
  refine xe1 (os := [u16 (IntKind.wrap IntKind.u16 (c + 1)) = u16 (c + 1), u16 (iand IntKind.u16 (c + 1) 16383) = u16 (c + 1)]) [(1, ⟨some (u16 (c + 1)), none⟩), (2, ⟨some (u16 (c + 1)), none⟩)] [2] [] (by kernel_rfl) ⟨(wr_u16 (by omega) (by omega)), (in_eq wf1), trivial⟩ ?_
  refine AWP.ret ?_
  refine ⟨Or.inr rfl, Eq.trans (b := some ([], u16 (c + 1))) (by kernel_rfl) ?_⟩
  rfl
theorem con_packed (ap c : Int) (hap : 0 ≤ ap ∧ ap < 2048) (hc : 0 ≤ c ∧ c < 16384) (l : List Int) (hb : BL l) (m : Nat) (hm : l.length = m) (hl : m ≤ 200) : Con Tryz.prog 34 [] [vb true, u16 ap, u16 c, .vs (u8s l) m, i64 0] [(800005, ⟨u8s (pkB ap c l), true, 0, some (5, 1)⟩)] (.tup [.sl 800005 0 (m + 8), i64 0]) := by
  have c1 := con_pbytes ap c hap hc l hb m hm hl
  refine Con.of (C := ⟨Tryz.prog, tc, Tryz.f34.ntmps⟩) [800005] tcok Tryz.func34 rfl rfl (by kernel_rfl) (by kernel_rfl) ?_
  refine AWP.seq ?_
  refine AWP.regionT tcok hmix [] [0, 1, 2, 3, 4, 10, 11] [10] (os := []) (s' := St.mk [(0, tp (vb true)), (1, tp (u16 ap)), (2, tp (u16 c)), (3, tp (V.vs (u8s l) m)), (4, tp (i64 0)), (10, tp (V.sl 10 0 0)), (11, tp (i64 0))] [(10, Blk.mk [] true 0 (some (5, 1)))]) (by kernel_rfl) trivial ?_
  refine AWP.seq ?_
  refine xe0 [0, 1, 2, 3, 4, 10, 11, 13] [10] (by kernel_rfl) ?_
  refine AWP.condF (by kernel_rfl) ?_
  refine AWP.skip ?_
  refine AWP.seq ?_
  refine AWP.keep' [0, 1, 2, 3] [] (sf := St.mk [(0, tp (vb true)), (1, tp (u16 ap)), (2, tp (u16 c)), (3, tp (V.vs (u8s l) m))] []) (by kernel_rfl) ?_
  refine xg1 (os := [Con Tryz.prog 45 [] [V.agg true [vb true, u16 ap, u16 c, V.vs (u8s l) m]] [(590005, Blk.mk (u8s (pkB ap c l)) true 0 (some (5, 1)))] (V.tup [V.sl 590005 0 (m + 8), i64 0])]) [(5, ⟨none, some ⟨V.tup [V.sl 590005 0 (m + 8), i64 0], [(590005, Blk.mk (u8s (pkB ap c l)) true 0 (some (5, 1)))], []⟩⟩)] [10, 11] [800005] (by kernel_rfl) ⟨(c1 ), trivial⟩ ?_
  refine AWP.ret ?_
  refine ⟨Or.inr rfl, Eq.trans (b := some ([(800005, Blk.mk (u8s (pkB ap c l)) true 0 (some (5, 1)))], V.tup [V.sl 800005 0 (m + 8), i64 0])) (by kernel_rfl) ?_⟩
  rfl
theorem cmdB_len (a b : Int) (ds : List Int) : (cmdB a b ds).length = 5 + ds.length := by unfold cmdB; rw [List.length_append]; rfl
theorem con_send (ap c : Int) (hap : 0 ≤ ap ∧ ap < 2048) (hc : 0 ≤ c ∧ c < 16384) (a b : Int) (ds : List Int) (hb : BL (cmdB a b ds)) (m : Nat) (hm : ds.length = m) (hl : m ≤ 100) : Con Tryz.prog 17 [] [u16 ap, u16 c, .agg true [u8 9, u8 a, u8 b, u16 0, .vs (u8s ds) m]] [(1000005, ⟨u8s (pkB ap c (cmdB a b ds)), true, 0, some (5, 1)⟩)] (.tup [.sl 1000005 0 (5 + m + 8), i64 0]) := by
  have c1 := con_cbytes a b ds m hm hl
  have hcl := cmdB_len a b ds
  rw [hm] at hcl
  have c2 := con_packed ap c hap hc (cmdB a b ds) hb (5 + m) hcl (by omega)
  generalize cmdB a b ds = D at *
  refine Con.of (C := ⟨Tryz.prog, tc, Tryz.f17.ntmps⟩) [1000005] tcok Tryz.func17 rfl rfl (by kernel_rfl) (by kernel_rfl) ?_
  refine AWP.seq ?_
  refine AWP.regionT tcok hmix [] [0, 1, 5, 6, 7] [5, 6] (os := []) (s' := St.mk [(0, tp (u16 ap)), (1, tp (u16 c)), (5, tp (V.ptr 5 0)), (6, tp (V.sl 6 0 0)), (7, tp (i64 0))] [(5, Blk.mk [u8 9, u8 a, u8 b, u16 0, V.vs (u8s ds) m] true 5 none), (6, Blk.mk [] true 0 (some (5, 1)))]) (by kernel_rfl) trivial ?_
  refine xe1 (os := [Con Tryz.prog 33 [] [V.agg true [u8 9, u8 a, u8 b, u16 0, V.vs (u8s ds) m]] [(22, Blk.mk (u8s D) true 0 (some (5, 1)))] (V.tup [V.sl 22 0 (5 + m), i64 0])]) [(1, ⟨none, some ⟨V.tup [V.sl 22 0 (5 + m), i64 0], [(22, Blk.mk (u8s D) true 0 (some (5, 1)))], []⟩⟩)] [0, 1, 6, 7, 8, 9] [6, 130022] (by kernel_rfl) ⟨(c1 ), trivial⟩ ?_
  refine AWP.seq ?_
  refine AWP.keep' [0, 1, 8, 9] [130022] (sf := St.mk [(0, tp (u16 ap)), (1, tp (u16 c)), (8, tp (V.sl 130022 0 (5 + m))), (9, tp (i64 0))] [(130022, Blk.mk (u8s D) true 0 (some (5, 1)))]) (by kernel_rfl) ?_
  refine xg1 (os := [VO (V.tup [V.sl (800005 : Nat) (0 : Nat) ((5 : Nat) + m + (8 : Nat)), i64 (0 : Int)]), VOH [((800005 : Nat), Blk.mk (u8s (pkB ap c D)) true (0 : Nat) (some ((5 : Nat), (1 : Nat))))], Con Tryz.prog 34 [] [vb true, u16 ap, u16 c, V.vs (u8s D) (5 + m), i64 0] [(800005, Blk.mk (u8s (pkB ap c D)) true 0 (some (5, 1)))] (V.tup [V.sl 800005 0 (5 + m + 8), i64 0]), (0 : Nat) = (0 : Nat), ((5 : Nat) + m) * (1 : Nat) = List.length (u8s D)]) [(4, ⟨none, some ⟨V.tup [V.sl 800005 0 (5 + m + 8), i64 0], [(800005, Blk.mk (u8s (pkB ap c D)) true 0 (some (5, 1)))], [(130022, true)]⟩⟩)] [6, 7] [1000005] (by kernel_rfl) ⟨(VO.tup (VOL.cons (VO.sl _ _ _) (VOL.cons (VO.val _) VOL.nil))), ⟨(VOL.u8s _), trivial⟩, (c2 ), (by omega), (by (simp [len_u8s]; omega)), trivial⟩ ?_
  refine AWP.ret ?_
  refine ⟨Or.inr rfl, Eq.trans (b := some ([(1000005, Blk.mk (u8s (pkB ap c D)) true 0 (some (5, 1)))], V.tup [V.sl 1000005 0 (5 + m + 8), i64 0])) (by kernel_rfl) ?_⟩
  rfl
theorem con_pbytes_x (ap c : Int) (hap : 2048 ≤ ap ∧ ap < 65536) (x : List V) (n : Nat) : Con Tryz.prog 45 [] [.agg true [vb true, u16 ap, u16 c, .vs x n]] [(2, ⟨[], true, 0, some (5, 1)⟩)] (.tup [.sl 2 0 0, i64 1]) := by
  refine Con.of (C := ⟨Tryz.prog, tc, Tryz.f45.ntmps⟩) [2] tcok Tryz.func45 rfl rfl (by kernel_rfl) (by kernel_rfl) ?_
  refine AWP.seq ?_
  refine AWP.regionT tcok hmix [] [1, 2, 3] [1, 2] (os := []) (s' := St.mk [(1, tp (V.ptr 1 0)), (2, tp (V.sl 2 0 0)), (3, tp (i64 0))] [(1, Blk.mk [vb true, u16 ap, u16 c, V.vs x n] true 4 none), (2, Blk.mk [] true 0 (some (5, 1)))]) (by kernel_rfl) trivial ?_
  refine AWP.seq ?_
  refine AWP.block ?_
  refine xe0 [1, 2, 3, 6] [1, 2] (by kernel_rfl) ?_
  refine AWP.cond (b := decide (ap > 2047) || decide (c > 16383)) (by kernel_rfl) (fun hq1 => ?_) (fun hq1 => ?_)
  · simp only [decide_eq_true_eq, Bool.or_eq_true] at hq1
    refine AWP.seq ?_
    refine AWP.keep' [1] [1] (sf := St.mk [(1, tp (V.ptr 1 0))] [(1, Blk.mk [vb true, u16 ap, u16 c, V.vs x n] true 4 none)]) (by kernel_rfl) ?_
    refine AWP.regionT tcok hmix [] [1, 2, 3] [1, 2] (os := []) (s' := St.mk [(1, tp (V.ptr 1 0)), (2, tp (V.sl 2 0 0)), (3, tp (i64 1))] [(1, Blk.mk [vb true, u16 ap, u16 c, V.vs x n] true 4 none), (2, Blk.mk [] true 0 (some (5, 1)))]) (by kernel_rfl) trivial ?_
    refine AWP.ret ?_
    refine ⟨Or.inr rfl, Eq.trans (b := some ([(2, Blk.mk [] true 0 (some (5, 1)))], V.tup [V.sl 2 0 0, i64 1])) (by kernel_rfl) ?_⟩
    first | rfl | (exfalso; omega)
  simp only [decide_eq_false_iff_not, Bool.or_eq_false_iff] at hq1
  (exfalso; omega)
theorem con_packed_x (ap c : Int) (hap : 2048 ≤ ap ∧ ap < 65536) (l : List Int) (m : Nat) : Con Tryz.prog 34 [] [vb true, u16 ap, u16 c, .vs (u8s l) m, i64 0] [(210002, ⟨[], true, 0, some (5, 1)⟩)] (.tup [.sl 210002 0 0, i64 1]) := by
  have c1 := con_pbytes_x ap c hap (u8s l) m
  refine Con.of (C := ⟨Tryz.prog, tc, Tryz.f34.ntmps⟩) [210002] tcok Tryz.func34 rfl rfl (by kernel_rfl) (by kernel_rfl) ?_
  refine AWP.seq ?_
  refine AWP.regionT tcok hmix [] [0, 1, 2, 3, 4, 10, 11] [10] (os := []) (s' := St.mk [(0, tp (vb true)), (1, tp (u16 ap)), (2, tp (u16 c)), (3, tp (V.vs (u8s l) m)), (4, tp (i64 0)), (10, tp (V.sl 10 0 0)), (11, tp (i64 0))] [(10, Blk.mk [] true 0 (some (5, 1)))]) (by kernel_rfl) trivial ?_
  refine AWP.seq ?_
  refine xe0 [0, 1, 2, 3, 4, 10, 11, 13] [10] (by kernel_rfl) ?_
  refine AWP.condF (by kernel_rfl) ?_
  refine AWP.skip ?_
  refine AWP.seq ?_
  refine AWP.keep' [0, 1, 2, 3] [] (sf := St.mk [(0, tp (vb true)), (1, tp (u16 ap)), (2, tp (u16 c)), (3, tp (V.vs (u8s l) m))] []) (by kernel_rfl) ?_
  refine xg1 (os := [Con Tryz.prog 45 [] [V.agg true [vb true, u16 ap, u16 c, V.vs (u8s l) m]] [(2, Blk.mk [] true 0 (some (5, 1)))] (V.tup [V.sl 2 0 0, i64 1])]) [(5, ⟨none, some ⟨V.tup [V.sl 2 0 0, i64 1], [(2, Blk.mk [] true 0 (some (5, 1)))], []⟩⟩)] [10, 11] [210002] (by kernel_rfl) ⟨(c1 ), trivial⟩ ?_
  refine AWP.ret ?_
  refine ⟨Or.inr rfl, Eq.trans (b := some ([(210002, Blk.mk [] true 0 (some (5, 1)))], V.tup [V.sl 210002 0 0, i64 1])) (by kernel_rfl) ?_⟩
  rfl
theorem con_send_x (ap c : Int) (hap : 2048 ≤ ap ∧ ap < 65536) (a b : Int) (ds : List Int) (m : Nat) (hm : ds.length = m) (hl : m ≤ 100) : Con Tryz.prog 17 [] [u16 ap, u16 c, .agg true [u8 9, u8 a, u8 b, u16 0, .vs (u8s ds) m]] [(410002, ⟨[], true, 0, some (5, 1)⟩)] (.tup [.sl 410002 0 0, i64 1]) := by
  have c1 := con_cbytes a b ds m hm hl
  have hcl := cmdB_len a b ds
  rw [hm] at hcl
  have c2 := con_packed_x ap c hap (cmdB a b ds) (5 + m)
  generalize cmdB a b ds = D at *
  refine Con.of (C := ⟨Tryz.prog, tc, Tryz.f17.ntmps⟩) [410002] tcok Tryz.func17 rfl rfl (by kernel_rfl) (by kernel_rfl) ?_
  refine AWP.seq ?_
  refine AWP.regionT tcok hmix [] [0, 1, 5, 6, 7] [5, 6] (os := []) (s' := St.mk [(0, tp (u16 ap)), (1, tp (u16 c)), (5, tp (V.ptr 5 0)), (6, tp (V.sl 6 0 0)), (7, tp (i64 0))] [(5, Blk.mk [u8 9, u8 a, u8 b, u16 0, V.vs (u8s ds) m] true 5 none), (6, Blk.mk [] true 0 (some (5, 1)))]) (by kernel_rfl) trivial ?_
  refine xe1 (os := [Con Tryz.prog 33 [] [V.agg true [u8 9, u8 a, u8 b, u16 0, V.vs (u8s ds) m]] [(22, Blk.mk (u8s D) true 0 (some (5, 1)))] (V.tup [V.sl 22 0 (5 + m), i64 0])]) [(1, ⟨none, some ⟨V.tup [V.sl 22 0 (5 + m), i64 0], [(22, Blk.mk (u8s D) true 0 (some (5, 1)))], []⟩⟩)] [0, 1, 6, 7, 8, 9] [6, 130022] (by kernel_rfl) ⟨(c1 ), trivial⟩ ?_
  refine AWP.seq ?_
  refine AWP.keep' [0, 1, 8, 9] [130022] (sf := St.mk [(0, tp (u16 ap)), (1, tp (u16 c)), (8, tp (V.sl 130022 0 (5 + m))), (9, tp (i64 0))] [(130022, Blk.mk (u8s D) true 0 (some (5, 1)))]) (by kernel_rfl) ?_
  refine xg1 (os := [VO (V.tup [V.sl (210002 : Nat) (0 : Nat) (0 : Nat), i64 (1 : Int)]), VOH [((210002 : Nat), Blk.mk [] true (0 : Nat) (some ((5 : Nat), (1 : Nat))))], Con Tryz.prog 34 [] [vb true, u16 ap, u16 c, V.vs (u8s D) (5 + m), i64 0] [(210002, Blk.mk [] true 0 (some (5, 1)))] (V.tup [V.sl 210002 0 0, i64 1]), (0 : Nat) = (0 : Nat), ((5 : Nat) + m) * (1 : Nat) = List.length (u8s D)]) [(4, ⟨none, some ⟨V.tup [V.sl 210002 0 0, i64 1], [(210002, Blk.mk [] true 0 (some (5, 1)))], [(130022, true)]⟩⟩)] [6, 7] [410002] (by kernel_rfl) ⟨(VO.tup (VOL.cons (VO.sl _ _ _) (VOL.cons (VO.val _) VOL.nil))), ⟨VOL.nil, trivial⟩, (c2 ), (by omega), (by (simp [len_u8s]; omega)), trivial⟩ ?_
  refine AWP.ret ?_
  refine ⟨Or.inr rfl, Eq.trans (b := some ([(410002, Blk.mk [] true 0 (some (5, 1)))], V.tup [V.sl 410002 0 0, i64 1])) (by kernel_rfl) ?_⟩
  rfl
end Go.Proofs.YtieoaeidlcdggaaGreatDoor
