/- Sets of copies. -/
import Derived.Test.YtmeiemdnhjnpcaaRg
import Derived.Test.YtmeiemdnhjnpcaaGrdK
namespace Go.Proofs.Ytmeiemdnhjnpcaa
open Go.Ab
set_option linter.unusedSimpArgs false
set_option linter.unusedVariables false
theorem con_bone0 : Con Try.prog 72 [] [i64 0] [] (u16 1) := by
  refine Con.of (C := ⟨Try.prog, tc, Try.f72.ntmps⟩) [] tcok Try.func72 rfl rfl (by kernel_rfl) (by kernel_rfl) ?_
  refine xe0 [0, 2] [] (by kernel_rfl) ?_
  refine AWP.seq ?_
  refine xe0 [0, 2, 8] [] (by kernel_rfl) ?_
  refine AWP.condF (by kernel_rfl) ?_
  refine AWP.skip ?_
  refine xe0 [2] [] (by kernel_rfl) ?_
  refine AWP.ret ?_
  refine ⟨Or.inr rfl, Eq.trans (b := some ([], u16 1)) (by kernel_rfl) ?_⟩
  rfl
theorem con_bone1 : Con Try.prog 72 [] [i64 1] [] (u16 2) := by
  refine Con.of (C := ⟨Try.prog, tc, Try.f72.ntmps⟩) [] tcok Try.func72 rfl rfl (by kernel_rfl) (by kernel_rfl) ?_
  refine xe0 [0, 2] [] (by kernel_rfl) ?_
  refine AWP.seq ?_
  refine xe0 [0, 2, 8] [] (by kernel_rfl) ?_
  refine AWP.condF (by kernel_rfl) ?_
  refine AWP.skip ?_
  refine xe0 [2] [] (by kernel_rfl) ?_
  refine AWP.ret ?_
  refine ⟨Or.inr rfl, Eq.trans (b := some ([], u16 2)) (by kernel_rfl) ?_⟩
  rfl
theorem con_bone2 : Con Try.prog 72 [] [i64 2] [] (u16 4) := by
  refine Con.of (C := ⟨Try.prog, tc, Try.f72.ntmps⟩) [] tcok Try.func72 rfl rfl (by kernel_rfl) (by kernel_rfl) ?_
  refine xe0 [0, 2] [] (by kernel_rfl) ?_
  refine AWP.seq ?_
  refine xe0 [0, 2, 8] [] (by kernel_rfl) ?_
  refine AWP.condF (by kernel_rfl) ?_
  refine AWP.skip ?_
  refine xe0 [2] [] (by kernel_rfl) ?_
  refine AWP.ret ?_
  refine ⟨Or.inr rfl, Eq.trans (b := some ([], u16 4)) (by kernel_rfl) ?_⟩
  rfl
theorem con_with0 : Con Try.prog 71 [] [u16 0, .vs [i64 0] 1] [] (u16 1) := by
  refine Con.of (C := ⟨Try.prog, tc, Try.f71.ntmps⟩) [] tcok Try.func71 rfl rfl (by kernel_rfl) (by kernel_rfl) ?_
  refine xe0 [0, 1, 4] [] (by kernel_rfl) ?_
  refine AWP.seq ?_
  refine xe0 [0, 4, 7, 8, 9] [] (by kernel_rfl) ?_
  refine AWP.block ?_
  refine AWP.unroll 8 ?_
  refine xe0 [0, 4, 7, 8, 9, 10] [] (by kernel_rfl) ?_
  refine AWP.seq ?_
  refine AWP.condT (by kernel_rfl) ?_
  refine AWP.skip ?_
  refine AWP.seq ?_
  refine AWP.block ?_
  refine xe0 [0, 4, 6, 7, 8, 9, 10, 11, 12] [] (by kernel_rfl) ?_
  refine AWP.region tcok hmix [(2, ⟨none, some ⟨u16 1, [], []⟩⟩)] (os := [Con Try.prog 72 [] [i64 0] [] (u16 1)]) (sf := St.mk [(0, tp (u16 1)), (4, tp (u16 0)), (6, tp (i64 0)), (7, tp (V.vs [i64 0] 1)), (8, tp (i64 1)), (9, tp (i64 0)), (10, tp (vb true)), (11, tp (V.vp [i64 0])), (12, tp (i64 0)), (13, tp (u16 0)), (14, tp (i64 0)), (15, tp (u16 1)), (16, tp (u16 1))] []) (by kernel_rfl) ⟨(con_bone0 ), trivial⟩ ?_
  refine AWP.region tcok hmix [] (os := []) (sf := St.mk [(0, tp (u16 1)), (4, tp (u16 0)), (6, tp (i64 0)), (7, tp (V.vs [i64 0] 1)), (8, tp (i64 1)), (9, tp (i64 1)), (10, tp (vb true)), (11, tp (V.vp [i64 0])), (12, tp (i64 0)), (13, tp (u16 0)), (14, tp (i64 0)), (15, tp (u16 1)), (16, tp (u16 1)), (17, tp (i64 1))] []) (by kernel_rfl) trivial ?_
  refine xe0 [0, 4, 6, 7, 8, 9, 10, 11, 12, 13, 14, 15, 16, 17] [] (by kernel_rfl) ?_
  refine AWP.seq ?_
  refine AWP.condF (by kernel_rfl) ?_
  refine AWP.exit ?_
  refine xe0 [4] [] (by kernel_rfl) ?_
  refine AWP.ret ?_
  refine ⟨Or.inr rfl, Eq.trans (b := some ([], u16 1)) (by kernel_rfl) ?_⟩
  rfl
theorem con_with1 : Con Try.prog 71 [] [u16 1, .vs [i64 1] 1] [] (u16 3) := by
  refine Con.of (C := ⟨Try.prog, tc, Try.f71.ntmps⟩) [] tcok Try.func71 rfl rfl (by kernel_rfl) (by kernel_rfl) ?_
  refine xe0 [0, 1, 4] [] (by kernel_rfl) ?_
  refine AWP.seq ?_
  refine xe0 [0, 4, 7, 8, 9] [] (by kernel_rfl) ?_
  refine AWP.block ?_
  refine AWP.unroll 8 ?_
  refine xe0 [0, 4, 7, 8, 9, 10] [] (by kernel_rfl) ?_
  refine AWP.seq ?_
  refine AWP.condT (by kernel_rfl) ?_
  refine AWP.skip ?_
  refine AWP.seq ?_
  refine AWP.block ?_
  refine xe0 [0, 4, 6, 7, 8, 9, 10, 11, 12] [] (by kernel_rfl) ?_
  refine AWP.region tcok hmix [(2, ⟨none, some ⟨u16 2, [], []⟩⟩)] (os := [Con Try.prog 72 [] [i64 1] [] (u16 2)]) (sf := St.mk [(0, tp (u16 3)), (4, tp (u16 0)), (6, tp (i64 1)), (7, tp (V.vs [i64 1] 1)), (8, tp (i64 1)), (9, tp (i64 0)), (10, tp (vb true)), (11, tp (V.vp [i64 1])), (12, tp (i64 1)), (13, tp (u16 1)), (14, tp (i64 1)), (15, tp (u16 2)), (16, tp (u16 3))] []) (by kernel_rfl) ⟨(con_bone1 ), trivial⟩ ?_
  refine AWP.region tcok hmix [] (os := []) (sf := St.mk [(0, tp (u16 3)), (4, tp (u16 0)), (6, tp (i64 1)), (7, tp (V.vs [i64 1] 1)), (8, tp (i64 1)), (9, tp (i64 1)), (10, tp (vb true)), (11, tp (V.vp [i64 1])), (12, tp (i64 1)), (13, tp (u16 1)), (14, tp (i64 1)), (15, tp (u16 2)), (16, tp (u16 3)), (17, tp (i64 1))] []) (by kernel_rfl) trivial ?_
  refine xe0 [0, 4, 6, 7, 8, 9, 10, 11, 12, 13, 14, 15, 16, 17] [] (by kernel_rfl) ?_
  refine AWP.seq ?_
  refine AWP.condF (by kernel_rfl) ?_
  refine AWP.exit ?_
  refine xe0 [4] [] (by kernel_rfl) ?_
  refine AWP.ret ?_
  refine ⟨Or.inr rfl, Eq.trans (b := some ([], u16 3)) (by kernel_rfl) ?_⟩
  rfl
theorem con_with2 : Con Try.prog 71 [] [u16 3, .vs [i64 2] 1] [] (u16 7) := by
  refine Con.of (C := ⟨Try.prog, tc, Try.f71.ntmps⟩) [] tcok Try.func71 rfl rfl (by kernel_rfl) (by kernel_rfl) ?_
  refine xe0 [0, 1, 4] [] (by kernel_rfl) ?_
  refine AWP.seq ?_
  refine xe0 [0, 4, 7, 8, 9] [] (by kernel_rfl) ?_
  refine AWP.block ?_
  refine AWP.unroll 8 ?_
  refine xe0 [0, 4, 7, 8, 9, 10] [] (by kernel_rfl) ?_
  refine AWP.seq ?_
  refine AWP.condT (by kernel_rfl) ?_
  refine AWP.skip ?_
  refine AWP.seq ?_
  refine AWP.block ?_
  refine xe0 [0, 4, 6, 7, 8, 9, 10, 11, 12] [] (by kernel_rfl) ?_
  refine AWP.region tcok hmix [(2, ⟨none, some ⟨u16 4, [], []⟩⟩)] (os := [Con Try.prog 72 [] [i64 2] [] (u16 4)]) (sf := St.mk [(0, tp (u16 7)), (4, tp (u16 0)), (6, tp (i64 2)), (7, tp (V.vs [i64 2] 1)), (8, tp (i64 1)), (9, tp (i64 0)), (10, tp (vb true)), (11, tp (V.vp [i64 2])), (12, tp (i64 2)), (13, tp (u16 3)), (14, tp (i64 2)), (15, tp (u16 4)), (16, tp (u16 7))] []) (by kernel_rfl) ⟨(con_bone2 ), trivial⟩ ?_
  refine AWP.region tcok hmix [] (os := []) (sf := St.mk [(0, tp (u16 7)), (4, tp (u16 0)), (6, tp (i64 2)), (7, tp (V.vs [i64 2] 1)), (8, tp (i64 1)), (9, tp (i64 1)), (10, tp (vb true)), (11, tp (V.vp [i64 2])), (12, tp (i64 2)), (13, tp (u16 3)), (14, tp (i64 2)), (15, tp (u16 4)), (16, tp (u16 7)), (17, tp (i64 1))] []) (by kernel_rfl) trivial ?_
  refine xe0 [0, 4, 6, 7, 8, 9, 10, 11, 12, 13, 14, 15, 16, 17] [] (by kernel_rfl) ?_
  refine AWP.seq ?_
  refine AWP.condF (by kernel_rfl) ?_
  refine AWP.exit ?_
  refine xe0 [4] [] (by kernel_rfl) ?_
  refine AWP.ret ?_
  refine ⟨Or.inr rfl, Eq.trans (b := some ([], u16 7)) (by kernel_rfl) ?_⟩
  rfl
theorem con_ones7 : Con Try.prog 74 [] [u16 7] [] (i64 3) := by
  refine Con.of (C := ⟨Try.prog, tc, Try.f74.ntmps⟩) [] tcok Try.func74 rfl rfl (by kernel_rfl) (by kernel_rfl) ?_
  refine xe0 [0, 2] [] (by kernel_rfl) ?_
  refine xe0 [2] [] (by kernel_rfl) ?_
  refine AWP.ret ?_
  refine ⟨Or.inr rfl, Eq.trans (b := some ([], i64 3)) (by kernel_rfl) ?_⟩
  rfl
theorem con_count7 : Con Try.prog 57 [] [u16 7] [] (i64 3) := by
  refine Con.of (C := ⟨Try.prog, tc, Try.f57.ntmps⟩) [] tcok Try.func57 rfl rfl (by kernel_rfl) (by kernel_rfl) ?_
  refine xe0 [0, 2] [] (by kernel_rfl) ?_
  refine xe1 [(1, ⟨none, some ⟨i64 3, [], []⟩⟩)] [2] [] (by kernel_rfl) (AllP.c (con_ones7 ) AllP.n) ?_
  refine AWP.ret ?_
  refine ⟨Or.inr rfl, Eq.trans (b := some ([], i64 3)) (by kernel_rfl) ?_⟩
  rfl
theorem con_good3 (a b c : List Int) (ha : BL a) (hb : BL b) (hc : BL c) (hla : a.length ≤ 1000000) (hlb : b.length ≤ 1000000) (hlc : c.length ≤ 1000000) (ea : cE a = 0) (eb : cE b = 0) (ec : cE c = 0) : Con Try.prog 39 [] [.vs [B8 a, B8 b, B8 c] 3] [] (u16 7) := by
  refine Con.of (C := ⟨Try.prog, tc, Try.f39.ntmps⟩) [] tcok Try.func39 rfl rfl (by kernel_rfl) (by kernel_rfl) ?_
  refine xe0 [0, 2] [] (by kernel_rfl) ?_
  refine xe0 [0, 2, 3] [] (by kernel_rfl) ?_
  refine AWP.seq ?_
  refine xe0 [2, 3, 9, 10, 11] [] (by kernel_rfl) ?_
  refine AWP.block ?_
  refine AWP.unroll 8 ?_
  refine xe0 [2, 3, 9, 10, 11, 12] [] (by kernel_rfl) ?_
  refine AWP.seq ?_
  refine AWP.condT (by kernel_rfl) ?_
  refine AWP.skip ?_
  refine AWP.seq ?_
  refine AWP.block ?_
  refine xe0 [2, 3, 4, 5, 9, 10, 11, 12, 13, 14, 15] [] (by kernel_rfl) ?_
  refine xe1 (os := [Con Try.prog 33 [] [B8 a] [(680005, Blk.mk (u8s (cPo a)) true 0 (some (5, 1)))] (V.tup [u32 (cNo a), V.sl 680005 0 (List.length (cPo a)), i64 (cE a)]), i64 (cE a) = i64 0]) [(1, ⟨none, some ⟨V.tup [u32 (cNo a), V.sl 680005 0 (List.length (cPo a)), i64 (cE a)], [(680005, Blk.mk (u8s (cPo a)) true 0 (some (5, 1)))], []⟩⟩), (5, ⟨some (i64 0), none⟩)] [2, 3, 4, 5, 8, 9, 10, 11, 12, 13, 14, 15, 16, 17, 18, 19, 20, 21] [870005] (by kernel_rfl) ⟨(con_cparse (a) (List.length a) (by omega) (by assumption) (by omega)), (in_eq ea), trivial⟩ ?_
  refine xe0 [2, 3, 4, 5, 8, 9, 10, 11, 12, 13, 14, 15, 16, 17, 18, 19, 20, 21, 22, 23] [870005] (by kernel_rfl) ?_
  refine AWP.condT (by kernel_rfl) ?_
  refine AWP.region tcok hmix [(3, ⟨none, some ⟨u16 1, [], [(26, true)]⟩⟩)] (os := [VO (u16 (1 : Int)), VOH [], Con Try.prog 71 [] [u16 0, V.vs [i64 0] 1] [] (u16 1), (0 : Nat) = (0 : Nat), (1 : Nat) = (1 : Nat)]) (sf := St.mk [(2, tp (u16 0)), (3, tp (u16 1)), (4, tp (i64 0)), (5, tp (B8 a)), (8, tp (i64 0)), (9, tp (V.vs [B8 a, B8 b, B8 c] 3)), (10, tp (i64 3)), (11, tp (i64 0)), (12, tp (vb true)), (13, tp (i64 0)), (14, tp (V.vp [B8 a, B8 b, B8 c])), (15, tp (B8 a)), (16, tp (V.tup [u32 (cNo a), V.sl 870005 0 (List.length (cPo a)), i64 (cE a)])), (17, tp (B8 a)), (18, tp (V.tup [u32 (cNo a), V.sl 870005 0 (List.length (cPo a)), i64 (cE a)])), (19, tp (u32 (cNo a))), (20, tp (V.sl 870005 0 (List.length (cPo a)))), (21, tp (i64 0)), (22, tp (i64 0)), (23, tp (vb true)), (24, tp (u16 0)), (25, tp (i64 0)), (26, tp (V.sl 26 0 1)), (27, tp (u16 1))] [(26, Blk.mk [i64 0] true 0 (some (3, 1))), (870005, Blk.mk (u8s (cPo a)) true 0 (some (5, 1)))]) (by kernel_rfl) ⟨(VO.val _), trivial, (con_with0 ), (by omega), (by omega), trivial⟩ ?_
  refine AWP.region tcok hmix [] (os := []) (sf := St.mk [(2, tp (u16 0)), (3, tp (u16 1)), (4, tp (i64 0)), (5, tp (B8 a)), (8, tp (i64 0)), (9, tp (V.vs [B8 a, B8 b, B8 c] 3)), (10, tp (i64 3)), (11, tp (i64 1)), (12, tp (vb true)), (13, tp (i64 0)), (14, tp (V.vp [B8 a, B8 b, B8 c])), (15, tp (B8 a)), (16, tp (V.tup [u32 (cNo a), V.sl 870005 0 (List.length (cPo a)), i64 (cE a)])), (17, tp (B8 a)), (18, tp (V.tup [u32 (cNo a), V.sl 870005 0 (List.length (cPo a)), i64 (cE a)])), (19, tp (u32 (cNo a))), (20, tp (V.sl 870005 0 (List.length (cPo a)))), (21, tp (i64 0)), (22, tp (i64 0)), (23, tp (vb true)), (24, tp (u16 0)), (25, tp (i64 0)), (26, tp (V.sl 26 0 1)), (27, tp (u16 1)), (28, tp (i64 1))] [(26, Blk.mk [i64 0] true 0 (some (3, 1))), (870005, Blk.mk (u8s (cPo a)) true 0 (some (5, 1)))]) (by kernel_rfl) trivial ?_
  refine xe0 [2, 3, 4, 5, 8, 9, 10, 11, 12, 13, 14, 15, 16, 17, 18, 19, 20, 21, 22, 23, 24, 25, 26, 27, 28] [26, 870005] (by kernel_rfl) ?_
  refine AWP.seq ?_
  refine AWP.condT (by kernel_rfl) ?_
  refine AWP.skip ?_
  refine AWP.seq ?_
  refine AWP.block ?_
  refine xe0 [2, 3, 4, 5, 8, 9, 10, 11, 12, 13, 14, 15, 16, 17, 18, 19, 20, 21, 22, 23, 24, 25, 26, 27, 28] [26, 870005] (by kernel_rfl) ?_
  refine AWP.seq ?_
  refine AWP.keep' [2, 3, 4, 5, 9, 10, 11, 12, 13, 14, 15, 22, 23, 24, 25, 26, 27, 28] [26] (sf := St.mk [(2, tp (u16 0)), (3, tp (u16 1)), (4, tp (i64 1)), (5, tp (B8 b)), (9, tp (V.vs [B8 a, B8 b, B8 c] 3)), (10, tp (i64 3)), (11, tp (i64 1)), (12, tp (vb true)), (13, tp (i64 1)), (14, tp (V.vp [B8 b, B8 c])), (15, tp (B8 b)), (22, tp (i64 0)), (23, tp (vb true)), (24, tp (u16 0)), (25, tp (i64 0)), (26, tp (V.sl 26 0 1)), (27, tp (u16 1)), (28, tp (i64 1))] [(26, Blk.mk [i64 0] true 0 (some (3, 1)))]) (by kernel_rfl) ?_
  refine xg1 (os := [Con Try.prog 33 [] [B8 b] [(680005, Blk.mk (u8s (cPo b)) true 0 (some (5, 1)))] (V.tup [u32 (cNo b), V.sl 680005 0 (List.length (cPo b)), i64 (cE b)]), i64 (cE b) = i64 0]) [(1, ⟨none, some ⟨V.tup [u32 (cNo b), V.sl 680005 0 (List.length (cPo b)), i64 (cE b)], [(680005, Blk.mk (u8s (cPo b)) true 0 (some (5, 1)))], []⟩⟩), (5, ⟨some (i64 0), none⟩)] [2, 3, 4, 5, 8, 9, 10, 11, 12, 13, 14, 15, 16, 17, 18, 19, 20, 21, 22, 23, 24, 25, 26, 27, 28] [870005, 26] (by kernel_rfl) ⟨(con_cparse (b) (List.length b) (by omega) (by assumption) (by omega)), (in_eq eb), trivial⟩ ?_
  refine xe0 [2, 3, 4, 5, 8, 9, 10, 11, 12, 13, 14, 15, 16, 17, 18, 19, 20, 21, 22, 23, 24, 25, 26, 27, 28] [26, 870005] (by kernel_rfl) ?_
  refine AWP.condT (by kernel_rfl) ?_
  refine AWP.keep' [2, 3, 4, 5, 8, 9, 10, 11, 12, 13, 14, 15, 16, 17, 18, 19, 20, 21, 22, 23, 28] [870005] (sf := St.mk [(2, tp (u16 0)), (3, tp (u16 1)), (4, tp (i64 1)), (5, tp (B8 b)), (8, tp (i64 0)), (9, tp (V.vs [B8 a, B8 b, B8 c] 3)), (10, tp (i64 3)), (11, tp (i64 1)), (12, tp (vb true)), (13, tp (i64 1)), (14, tp (V.vp [B8 b, B8 c])), (15, tp (B8 b)), (16, tp (V.tup [u32 (cNo b), V.sl 870005 0 (List.length (cPo b)), i64 (cE b)])), (17, tp (B8 b)), (18, tp (V.tup [u32 (cNo b), V.sl 870005 0 (List.length (cPo b)), i64 (cE b)])), (19, tp (u32 (cNo b))), (20, tp (V.sl 870005 0 (List.length (cPo b)))), (21, tp (i64 0)), (22, tp (i64 0)), (23, tp (vb true)), (28, tp (i64 1))] [(870005, Blk.mk (u8s (cPo b)) true 0 (some (5, 1)))]) (by kernel_rfl) ?_
  refine AWP.region tcok hmix [(3, ⟨none, some ⟨u16 3, [], [(26, true)]⟩⟩)] (os := [VO (u16 (3 : Int)), VOH [], Con Try.prog 71 [] [u16 1, V.vs [i64 1] 1] [] (u16 3), (0 : Nat) = (0 : Nat), (1 : Nat) = (1 : Nat)]) (sf := St.mk [(2, tp (u16 0)), (3, tp (u16 3)), (4, tp (i64 1)), (5, tp (B8 b)), (8, tp (i64 0)), (9, tp (V.vs [B8 a, B8 b, B8 c] 3)), (10, tp (i64 3)), (11, tp (i64 1)), (12, tp (vb true)), (13, tp (i64 1)), (14, tp (V.vp [B8 b, B8 c])), (15, tp (B8 b)), (16, tp (V.tup [u32 (cNo b), V.sl 870005 0 (List.length (cPo b)), i64 (cE b)])), (17, tp (B8 b)), (18, tp (V.tup [u32 (cNo b), V.sl 870005 0 (List.length (cPo b)), i64 (cE b)])), (19, tp (u32 (cNo b))), (20, tp (V.sl 870005 0 (List.length (cPo b)))), (21, tp (i64 0)), (22, tp (i64 0)), (23, tp (vb true)), (24, tp (u16 1)), (25, tp (i64 1)), (26, tp (V.sl 26 0 1)), (27, tp (u16 3)), (28, tp (i64 1))] [(26, Blk.mk [i64 1] true 0 (some (3, 1))), (870005, Blk.mk (u8s (cPo b)) true 0 (some (5, 1)))]) (by kernel_rfl) ⟨(VO.val _), trivial, (con_with1 ), (by omega), (by omega), trivial⟩ ?_
  refine AWP.region tcok hmix [] (os := []) (sf := St.mk [(2, tp (u16 0)), (3, tp (u16 3)), (4, tp (i64 1)), (5, tp (B8 b)), (8, tp (i64 0)), (9, tp (V.vs [B8 a, B8 b, B8 c] 3)), (10, tp (i64 3)), (11, tp (i64 2)), (12, tp (vb true)), (13, tp (i64 1)), (14, tp (V.vp [B8 b, B8 c])), (15, tp (B8 b)), (16, tp (V.tup [u32 (cNo b), V.sl 870005 0 (List.length (cPo b)), i64 (cE b)])), (17, tp (B8 b)), (18, tp (V.tup [u32 (cNo b), V.sl 870005 0 (List.length (cPo b)), i64 (cE b)])), (19, tp (u32 (cNo b))), (20, tp (V.sl 870005 0 (List.length (cPo b)))), (21, tp (i64 0)), (22, tp (i64 0)), (23, tp (vb true)), (24, tp (u16 1)), (25, tp (i64 1)), (26, tp (V.sl 26 0 1)), (27, tp (u16 3)), (28, tp (i64 2))] [(26, Blk.mk [i64 1] true 0 (some (3, 1))), (870005, Blk.mk (u8s (cPo b)) true 0 (some (5, 1)))]) (by kernel_rfl) trivial ?_
  refine xe0 [2, 3, 4, 5, 8, 9, 10, 11, 12, 13, 14, 15, 16, 17, 18, 19, 20, 21, 22, 23, 24, 25, 26, 27, 28] [26, 870005] (by kernel_rfl) ?_
  refine AWP.seq ?_
  refine AWP.condT (by kernel_rfl) ?_
  refine AWP.skip ?_
  refine AWP.seq ?_
  refine AWP.block ?_
  refine xe0 [2, 3, 4, 5, 8, 9, 10, 11, 12, 13, 14, 15, 16, 17, 18, 19, 20, 21, 22, 23, 24, 25, 26, 27, 28] [26, 870005] (by kernel_rfl) ?_
  refine AWP.seq ?_
  refine AWP.keep' [2, 3, 4, 5, 9, 10, 11, 12, 13, 14, 15, 22, 23, 24, 25, 26, 27, 28] [26] (sf := St.mk [(2, tp (u16 0)), (3, tp (u16 3)), (4, tp (i64 2)), (5, tp (B8 c)), (9, tp (V.vs [B8 a, B8 b, B8 c] 3)), (10, tp (i64 3)), (11, tp (i64 2)), (12, tp (vb true)), (13, tp (i64 2)), (14, tp (V.vp [B8 c])), (15, tp (B8 c)), (22, tp (i64 0)), (23, tp (vb true)), (24, tp (u16 1)), (25, tp (i64 1)), (26, tp (V.sl 26 0 1)), (27, tp (u16 3)), (28, tp (i64 2))] [(26, Blk.mk [i64 1] true 0 (some (3, 1)))]) (by kernel_rfl) ?_
  refine xg1 (os := [Con Try.prog 33 [] [B8 c] [(680005, Blk.mk (u8s (cPo c)) true 0 (some (5, 1)))] (V.tup [u32 (cNo c), V.sl 680005 0 (List.length (cPo c)), i64 (cE c)]), i64 (cE c) = i64 0]) [(1, ⟨none, some ⟨V.tup [u32 (cNo c), V.sl 680005 0 (List.length (cPo c)), i64 (cE c)], [(680005, Blk.mk (u8s (cPo c)) true 0 (some (5, 1)))], []⟩⟩), (5, ⟨some (i64 0), none⟩)] [2, 3, 4, 5, 8, 9, 10, 11, 12, 13, 14, 15, 16, 17, 18, 19, 20, 21, 22, 23, 24, 25, 26, 27, 28] [870005, 26] (by kernel_rfl) ⟨(con_cparse (c) (List.length c) (by omega) (by assumption) (by omega)), (in_eq ec), trivial⟩ ?_
  refine xe0 [2, 3, 4, 5, 8, 9, 10, 11, 12, 13, 14, 15, 16, 17, 18, 19, 20, 21, 22, 23, 24, 25, 26, 27, 28] [26, 870005] (by kernel_rfl) ?_
  refine AWP.condT (by kernel_rfl) ?_
  refine AWP.keep' [2, 3, 4, 5, 8, 9, 10, 11, 12, 13, 14, 15, 16, 17, 18, 19, 20, 21, 22, 23, 28] [870005] (sf := St.mk [(2, tp (u16 0)), (3, tp (u16 3)), (4, tp (i64 2)), (5, tp (B8 c)), (8, tp (i64 0)), (9, tp (V.vs [B8 a, B8 b, B8 c] 3)), (10, tp (i64 3)), (11, tp (i64 2)), (12, tp (vb true)), (13, tp (i64 2)), (14, tp (V.vp [B8 c])), (15, tp (B8 c)), (16, tp (V.tup [u32 (cNo c), V.sl 870005 0 (List.length (cPo c)), i64 (cE c)])), (17, tp (B8 c)), (18, tp (V.tup [u32 (cNo c), V.sl 870005 0 (List.length (cPo c)), i64 (cE c)])), (19, tp (u32 (cNo c))), (20, tp (V.sl 870005 0 (List.length (cPo c)))), (21, tp (i64 0)), (22, tp (i64 0)), (23, tp (vb true)), (28, tp (i64 2))] [(870005, Blk.mk (u8s (cPo c)) true 0 (some (5, 1)))]) (by kernel_rfl) ?_
  refine AWP.region tcok hmix [(3, ⟨none, some ⟨u16 7, [], [(26, true)]⟩⟩)] (os := [VO (u16 (7 : Int)), VOH [], Con Try.prog 71 [] [u16 3, V.vs [i64 2] 1] [] (u16 7), (0 : Nat) = (0 : Nat), (1 : Nat) = (1 : Nat)]) (sf := St.mk [(2, tp (u16 0)), (3, tp (u16 7)), (4, tp (i64 2)), (5, tp (B8 c)), (8, tp (i64 0)), (9, tp (V.vs [B8 a, B8 b, B8 c] 3)), (10, tp (i64 3)), (11, tp (i64 2)), (12, tp (vb true)), (13, tp (i64 2)), (14, tp (V.vp [B8 c])), (15, tp (B8 c)), (16, tp (V.tup [u32 (cNo c), V.sl 870005 0 (List.length (cPo c)), i64 (cE c)])), (17, tp (B8 c)), (18, tp (V.tup [u32 (cNo c), V.sl 870005 0 (List.length (cPo c)), i64 (cE c)])), (19, tp (u32 (cNo c))), (20, tp (V.sl 870005 0 (List.length (cPo c)))), (21, tp (i64 0)), (22, tp (i64 0)), (23, tp (vb true)), (24, tp (u16 3)), (25, tp (i64 2)), (26, tp (V.sl 26 0 1)), (27, tp (u16 7)), (28, tp (i64 2))] [(26, Blk.mk [i64 2] true 0 (some (3, 1))), (870005, Blk.mk (u8s (cPo c)) true 0 (some (5, 1)))]) (by kernel_rfl) ⟨(VO.val _), trivial, (con_with2 ), (by omega), (by omega), trivial⟩ ?_
  refine AWP.region tcok hmix [] (os := []) (sf := St.mk [(2, tp (u16 0)), (3, tp (u16 7)), (4, tp (i64 2)), (5, tp (B8 c)), (8, tp (i64 0)), (9, tp (V.vs [B8 a, B8 b, B8 c] 3)), (10, tp (i64 3)), (11, tp (i64 3)), (12, tp (vb true)), (13, tp (i64 2)), (14, tp (V.vp [B8 c])), (15, tp (B8 c)), (16, tp (V.tup [u32 (cNo c), V.sl 870005 0 (List.length (cPo c)), i64 (cE c)])), (17, tp (B8 c)), (18, tp (V.tup [u32 (cNo c), V.sl 870005 0 (List.length (cPo c)), i64 (cE c)])), (19, tp (u32 (cNo c))), (20, tp (V.sl 870005 0 (List.length (cPo c)))), (21, tp (i64 0)), (22, tp (i64 0)), (23, tp (vb true)), (24, tp (u16 3)), (25, tp (i64 2)), (26, tp (V.sl 26 0 1)), (27, tp (u16 7)), (28, tp (i64 3))] [(26, Blk.mk [i64 2] true 0 (some (3, 1))), (870005, Blk.mk (u8s (cPo c)) true 0 (some (5, 1)))]) (by kernel_rfl) trivial ?_
  refine xe0 [2, 3, 4, 5, 8, 9, 10, 11, 12, 13, 14, 15, 16, 17, 18, 19, 20, 21, 22, 23, 24, 25, 26, 27, 28] [26, 870005] (by kernel_rfl) ?_
  refine AWP.seq ?_
  refine AWP.condF (by kernel_rfl) ?_
  refine AWP.exit ?_
  refine xe0 [2] [] (by kernel_rfl) ?_
  refine AWP.ret ?_
  refine ⟨Or.inr rfl, Eq.trans (b := some ([], u16 7)) (by kernel_rfl) ?_⟩
  rfl
theorem con_ggood3 (a b c : List Int) (nx : V) (ha : BL a) (hb : BL b) (hc : BL c) (hla : a.length ≤ 1000000) (hlb : b.length ≤ 1000000) (hlc : c.length ≤ 1000000) (ea : cE a = 0) (eb : cE b = 0) (ec : cE c = 0) : Con Try.prog 56 [] [.vp [B8 a, B8 b, B8 c, nx]] [] (u16 7) := by
  refine Con.of (C := ⟨Try.prog, tc, Try.f56.ntmps⟩) [] tcok Try.func56 rfl rfl (by kernel_rfl) (by kernel_rfl) ?_
  refine xe0 [0, 2] [] (by kernel_rfl) ?_
  refine AWP.seq ?_
  refine xe0 [0, 2, 4] [] (by kernel_rfl) ?_
  refine AWP.condF (by kernel_rfl) ?_
  refine AWP.skip ?_
  refine xe1 [(4, ⟨none, some ⟨u16 7, [], []⟩⟩)] [2] [] (by kernel_rfl) (AllP.c (con_good3 (a) (b) (c) (by assumption) (by assumption) (by assumption) (by assumption) (by assumption) (by assumption) (by assumption) (by assumption) (by assumption)) AllP.n) ?_
  refine AWP.ret ?_
  refine ⟨Or.inr rfl, Eq.trans (b := some ([], u16 7)) (by kernel_rfl) ?_⟩
  rfl
end Go.Proofs.Ytmeiemdnhjnpcaa
