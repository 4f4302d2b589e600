/- Functions on bytes. -/
import Derived.Test.YtlfjnkobnkfioaaDoorRg
import Derived.Test.YtlfjnkobnkfioaaDoorTc
import Derived.Test.YtlfjnkobnkfioaaDoorAb24
namespace Go.Proofs.YtlfjnkobnkfioaaDoor
open Go.Ab
set_option linter.unusedSimpArgs false
set_option linter.unusedVariables false
theorem con_num4 (n : Int) (h : 0 ≤ n ∧ n < 18446744073709551616) : Con Tryd.prog 27 [] [u64 n, i64 4] [(8, ⟨[u8 (n / 256 / 256 / 256 % 256), u8 (n / 256 / 256 % 256), u8 (n / 256 % 256), u8 (n % 256)], true, 0, some (5, 1)⟩)] (.sl 8 0 4) := by
  refine Con.of (C := ⟨Tryd.prog, tc, Tryd.f27.ntmps⟩) [8] tcok Tryd.func27 rfl rfl (by kernel_rfl) (by kernel_rfl) ?_
  refine e0 [0, 1, 4] [4] (by kernel_rfl) ?_
  refine e0 [0, 1, 4, 5] [4, 8] (by kernel_rfl) ?_
  refine AWP.seq ?_
  refine e0 [0, 4, 5, 6] [4, 8] (by kernel_rfl) ?_
  refine AWP.block ?_
  refine AWP.unroll 6 ?_
  refine AWP.seq ?_
  refine e0 [0, 4, 5, 6, 11, 12] [4, 8] (by kernel_rfl) ?_
  refine AWP.condT (by kernel_rfl) ?_
  refine AWP.skip ?_
  refine AWP.seq ?_
  refine AWP.block ?_
  refine e1 (os := [(256 : Int) ≠ (0 : Int), u64 (Int.tmod n 256) = u64 (n % 256), u8 (IntKind.wrap IntKind.u8 (n % 256)) = u8 (n % 256)]) [(3, ⟨some (u64 (n % 256)), none⟩), (4, ⟨some (u8 (n % 256)), none⟩)] [0, 4, 5, 6, 11, 12, 15, 16, 17, 18, 19, 20] [4, 8] (by kernel_rfl) ⟨(by omega), (tm_ (by omega)), (wr_u8 (by omega) (by omega)), trivial⟩ ?_
  refine AWP.region tcok hmix [(1, ⟨some (u64 (n / 256)), none⟩)] (os := [(256 : Int) ≠ (0 : Int), u64 (IntKind.wrap IntKind.u64 (Int.tdiv n 256)) = u64 (n / 256)]) (sf := St.mk [(0, tp (u64 (n / 256))), (4, tp (V.sl 4 0 0)), (5, tp (V.sl 8 0 4)), (6, tp (i64 3)), (11, tp (i64 3)), (12, tp (vb true)), (15, tp (V.sl 8 0 4)), (16, tp (i64 3)), (17, tp (u64 n)), (18, tp (u64 (n % 256))), (19, tp (u8 (n % 256))), (20, tp (V.ptr 8 3)), (21, tp (u64 n)), (22, tp (u64 (n / 256)))] [(4, Blk.mk [] true 0 (some (5, 1))), (8, Blk.mk [u8 0, u8 0, u8 0, u8 (n % 256)] true 0 (some (5, 1)))]) (by kernel_rfl) ⟨(by omega), (wtd (by omega) (wr_u64 (by omega) (by omega))), trivial⟩ ?_
  refine AWP.region tcok hmix [] (os := []) (sf := St.mk [(0, tp (u64 (n / 256))), (4, tp (V.sl 4 0 0)), (5, tp (V.sl 8 0 4)), (6, tp (i64 2)), (11, tp (i64 3)), (12, tp (vb true)), (13, tp (i64 3)), (14, tp (i64 2)), (15, tp (V.sl 8 0 4)), (16, tp (i64 3)), (17, tp (u64 n)), (18, tp (u64 (n % 256))), (19, tp (u8 (n % 256))), (20, tp (V.ptr 8 3)), (21, tp (u64 n)), (22, tp (u64 (n / 256)))] [(4, Blk.mk [] true 0 (some (5, 1))), (8, Blk.mk [u8 0, u8 0, u8 0, u8 (n % 256)] true 0 (some (5, 1)))]) (by kernel_rfl) trivial ?_
  refine AWP.seq ?_
  refine e0 [0, 4, 5, 6, 11, 12, 13, 14, 15, 16, 17, 18, 19, 20, 21, 22] [4, 8] (by kernel_rfl) ?_
  refine AWP.condT (by kernel_rfl) ?_
  refine AWP.skip ?_
  refine AWP.seq ?_
  refine AWP.block ?_
  refine AWP.seq ?_
  refine AWP.keep' [0, 4, 5, 6, 11, 12, 13, 14, 21, 22] [4, 8] (sf := St.mk [(0, tp (u64 (n / 256))), (4, tp (V.sl 4 0 0)), (5, tp (V.sl 8 0 4)), (6, tp (i64 2)), (11, tp (i64 2)), (12, tp (vb true)), (13, tp (i64 3)), (14, tp (i64 2)), (21, tp (u64 n)), (22, tp (u64 (n / 256)))] [(4, Blk.mk [] true 0 (some (5, 1))), (8, Blk.mk [u8 0, u8 0, u8 0, u8 (n % 256)] true 0 (some (5, 1)))]) (by kernel_rfl) ?_
  refine g1 (os := [(256 : Int) ≠ (0 : Int), u64 (Int.tmod (n / 256) 256) = u64 (n / 256 % 256), u8 (IntKind.wrap IntKind.u8 (n / 256 % 256)) = u8 (n / 256 % 256)]) [(3, ⟨some (u64 (n / 256 % 256)), none⟩), (4, ⟨some (u8 (n / 256 % 256)), none⟩)] [0, 4, 5, 6, 11, 12, 13, 14, 15, 16, 17, 18, 19, 20, 21, 22] [4, 8] (by kernel_rfl) ⟨(by omega), (tm_ (by omega)), (wr_u8 (by omega) (by omega)), trivial⟩ ?_
  refine AWP.region tcok hmix [(1, ⟨some (u64 (n / 256 / 256)), none⟩)] (os := [(256 : Int) ≠ (0 : Int), u64 (IntKind.wrap IntKind.u64 (Int.tdiv (n / 256) 256)) = u64 (n / 256 / 256)]) (sf := St.mk [(0, tp (u64 (n / 256 / 256))), (4, tp (V.sl 4 0 0)), (5, tp (V.sl 8 0 4)), (6, tp (i64 2)), (11, tp (i64 2)), (12, tp (vb true)), (13, tp (i64 3)), (14, tp (i64 2)), (15, tp (V.sl 8 0 4)), (16, tp (i64 2)), (17, tp (u64 (n / 256))), (18, tp (u64 (n / 256 % 256))), (19, tp (u8 (n / 256 % 256))), (20, tp (V.ptr 8 2)), (21, tp (u64 (n / 256))), (22, tp (u64 (n / 256 / 256)))] [(4, Blk.mk [] true 0 (some (5, 1))), (8, Blk.mk [u8 0, u8 0, u8 (n / 256 % 256), u8 (n % 256)] true 0 (some (5, 1)))]) (by kernel_rfl) ⟨(by omega), (wtd (by omega) (wr_u64 (by omega) (by omega))), trivial⟩ ?_
  refine AWP.region tcok hmix [] (os := []) (sf := St.mk [(0, tp (u64 (n / 256 / 256))), (4, tp (V.sl 4 0 0)), (5, tp (V.sl 8 0 4)), (6, tp (i64 1)), (11, tp (i64 2)), (12, tp (vb true)), (13, tp (i64 2)), (14, tp (i64 1)), (15, tp (V.sl 8 0 4)), (16, tp (i64 2)), (17, tp (u64 (n / 256))), (18, tp (u64 (n / 256 % 256))), (19, tp (u8 (n / 256 % 256))), (20, tp (V.ptr 8 2)), (21, tp (u64 (n / 256))), (22, tp (u64 (n / 256 / 256)))] [(4, Blk.mk [] true 0 (some (5, 1))), (8, Blk.mk [u8 0, u8 0, u8 (n / 256 % 256), u8 (n % 256)] true 0 (some (5, 1)))]) (by kernel_rfl) trivial ?_
  refine AWP.seq ?_
  refine e0 [0, 4, 5, 6, 11, 12, 13, 14, 15, 16, 17, 18, 19, 20, 21, 22] [4, 8] (by kernel_rfl) ?_
  refine AWP.condT (by kernel_rfl) ?_
  refine AWP.skip ?_
  refine AWP.seq ?_
  refine AWP.block ?_
  refine AWP.seq ?_
  refine AWP.keep' [0, 4, 5, 6, 11, 12, 13, 14, 21, 22] [4, 8] (sf := St.mk [(0, tp (u64 (n / 256 / 256))), (4, tp (V.sl 4 0 0)), (5, tp (V.sl 8 0 4)), (6, tp (i64 1)), (11, tp (i64 1)), (12, tp (vb true)), (13, tp (i64 2)), (14, tp (i64 1)), (21, tp (u64 (n / 256))), (22, tp (u64 (n / 256 / 256)))] [(4, Blk.mk [] true 0 (some (5, 1))), (8, Blk.mk [u8 0, u8 0, u8 (n / 256 % 256), u8 (n % 256)] true 0 (some (5, 1)))]) (by kernel_rfl) ?_
  refine g1 (os := [(256 : Int) ≠ (0 : Int), u64 (Int.tmod (n / 256 / 256) 256) = u64 (n / 256 / 256 % 256), u8 (IntKind.wrap IntKind.u8 (n / 256 / 256 % 256)) = u8 (n / 256 / 256 % 256)]) [(3, ⟨some (u64 (n / 256 / 256 % 256)), none⟩), (4, ⟨some (u8 (n / 256 / 256 % 256)), none⟩)] [0, 4, 5, 6, 11, 12, 13, 14, 15, 16, 17, 18, 19, 20, 21, 22] [4, 8] (by kernel_rfl) ⟨(by omega), (tm_ (by omega)), (wr_u8 (by omega) (by omega)), trivial⟩ ?_
  refine AWP.region tcok hmix [(1, ⟨some (u64 (n / 256 / 256 / 256)), none⟩)] (os := [(256 : Int) ≠ (0 : Int), u64 (IntKind.wrap IntKind.u64 (Int.tdiv (n / 256 / 256) 256)) = u64 (n / 256 / 256 / 256)]) (sf := St.mk [(0, tp (u64 (n / 256 / 256 / 256))), (4, tp (V.sl 4 0 0)), (5, tp (V.sl 8 0 4)), (6, tp (i64 1)), (11, tp (i64 1)), (12, tp (vb true)), (13, tp (i64 2)), (14, tp (i64 1)), (15, tp (V.sl 8 0 4)), (16, tp (i64 1)), (17, tp (u64 (n / 256 / 256))), (18, tp (u64 (n / 256 / 256 % 256))), (19, tp (u8 (n / 256 / 256 % 256))), (20, tp (V.ptr 8 1)), (21, tp (u64 (n / 256 / 256))), (22, tp (u64 (n / 256 / 256 / 256)))] [(4, Blk.mk [] true 0 (some (5, 1))), (8, Blk.mk [u8 0, u8 (n / 256 / 256 % 256), u8 (n / 256 % 256), u8 (n % 256)] true 0 (some (5, 1)))]) (by kernel_rfl) ⟨(by omega), (wtd (by omega) (wr_u64 (by omega) (by omega))), trivial⟩ ?_
  refine AWP.region tcok hmix [] (os := []) (sf := St.mk [(0, tp (u64 (n / 256 / 256 / 256))), (4, tp (V.sl 4 0 0)), (5, tp (V.sl 8 0 4)), (6, tp (i64 0)), (11, tp (i64 1)), (12, tp (vb true)), (13, tp (i64 1)), (14, tp (i64 0)), (15, tp (V.sl 8 0 4)), (16, tp (i64 1)), (17, tp (u64 (n / 256 / 256))), (18, tp (u64 (n / 256 / 256 % 256))), (19, tp (u8 (n / 256 / 256 % 256))), (20, tp (V.ptr 8 1)), (21, tp (u64 (n / 256 / 256))), (22, tp (u64 (n / 256 / 256 / 256)))] [(4, Blk.mk [] true 0 (some (5, 1))), (8, Blk.mk [u8 0, u8 (n / 256 / 256 % 256), u8 (n / 256 % 256), u8 (n % 256)] true 0 (some (5, 1)))]) (by kernel_rfl) trivial ?_
  refine AWP.seq ?_
  refine e0 [0, 4, 5, 6, 11, 12, 13, 14, 15, 16, 17, 18, 19, 20, 21, 22] [4, 8] (by kernel_rfl) ?_
  refine AWP.condT (by kernel_rfl) ?_
  refine AWP.skip ?_
  refine AWP.seq ?_
  refine AWP.block ?_
  refine AWP.seq ?_
  refine AWP.keep' [0, 4, 5, 6, 11, 12, 13, 14, 21, 22] [4, 8] (sf := St.mk [(0, tp (u64 (n / 256 / 256 / 256))), (4, tp (V.sl 4 0 0)), (5, tp (V.sl 8 0 4)), (6, tp (i64 0)), (11, tp (i64 0)), (12, tp (vb true)), (13, tp (i64 1)), (14, tp (i64 0)), (21, tp (u64 (n / 256 / 256))), (22, tp (u64 (n / 256 / 256 / 256)))] [(4, Blk.mk [] true 0 (some (5, 1))), (8, Blk.mk [u8 0, u8 (n / 256 / 256 % 256), u8 (n / 256 % 256), u8 (n % 256)] true 0 (some (5, 1)))]) (by kernel_rfl) ?_
  refine g1 (os := [(256 : Int) ≠ (0 : Int), u64 (Int.tmod (n / 256 / 256 / 256) 256) = u64 (n / 256 / 256 / 256 % 256), u8 (IntKind.wrap IntKind.u8 (n / 256 / 256 / 256 % 256)) = u8 (n / 256 / 256 / 256 % 256)]) [(3, ⟨some (u64 (n / 256 / 256 / 256 % 256)), none⟩), (4, ⟨some (u8 (n / 256 / 256 / 256 % 256)), none⟩)] [0, 4, 5, 6, 11, 12, 13, 14, 15, 16, 17, 18, 19, 20, 21, 22] [4, 8] (by kernel_rfl) ⟨(by omega), (tm_ (by omega)), (wr_u8 (by omega) (by omega)), trivial⟩ ?_
  refine AWP.region tcok hmix [(1, ⟨some (u64 (n / 256 / 256 / 256 / 256)), none⟩)] (os := [(256 : Int) ≠ (0 : Int), u64 (IntKind.wrap IntKind.u64 (Int.tdiv (n / 256 / 256 / 256) 256)) = u64 (n / 256 / 256 / 256 / 256)]) (sf := St.mk [(0, tp (u64 (n / 256 / 256 / 256 / 256))), (4, tp (V.sl 4 0 0)), (5, tp (V.sl 8 0 4)), (6, tp (i64 0)), (11, tp (i64 0)), (12, tp (vb true)), (13, tp (i64 1)), (14, tp (i64 0)), (15, tp (V.sl 8 0 4)), (16, tp (i64 0)), (17, tp (u64 (n / 256 / 256 / 256))), (18, tp (u64 (n / 256 / 256 / 256 % 256))), (19, tp (u8 (n / 256 / 256 / 256 % 256))), (20, tp (V.ptr 8 0)), (21, tp (u64 (n / 256 / 256 / 256))), (22, tp (u64 (n / 256 / 256 / 256 / 256)))] [(4, Blk.mk [] true 0 (some (5, 1))), (8, Blk.mk [u8 (n / 256 / 256 / 256 % 256), u8 (n / 256 / 256 % 256), u8 (n / 256 % 256), u8 (n % 256)] true 0 (some (5, 1)))]) (by kernel_rfl) ⟨(by omega), (wtd (by omega) (wr_u64 (by omega) (by omega))), trivial⟩ ?_
  refine AWP.region tcok hmix [] (os := []) (sf := St.mk [(0, tp (u64 (n / 256 / 256 / 256 / 256))), (4, tp (V.sl 4 0 0)), (5, tp (V.sl 8 0 4)), (6, tp (i64 (-1))), (11, tp (i64 0)), (12, tp (vb true)), (13, tp (i64 0)), (14, tp (i64 (-1))), (15, tp (V.sl 8 0 4)), (16, tp (i64 0)), (17, tp (u64 (n / 256 / 256 / 256))), (18, tp (u64 (n / 256 / 256 / 256 % 256))), (19, tp (u8 (n / 256 / 256 / 256 % 256))), (20, tp (V.ptr 8 0)), (21, tp (u64 (n / 256 / 256 / 256))), (22, tp (u64 (n / 256 / 256 / 256 / 256)))] [(4, Blk.mk [] true 0 (some (5, 1))), (8, Blk.mk [u8 (n / 256 / 256 / 256 % 256), u8 (n / 256 / 256 % 256), u8 (n / 256 % 256), u8 (n % 256)] true 0 (some (5, 1)))]) (by kernel_rfl) trivial ?_
  refine AWP.seq ?_
  refine e0 [0, 4, 5, 6, 11, 12, 13, 14, 15, 16, 17, 18, 19, 20, 21, 22] [4, 8] (by kernel_rfl) ?_
  refine AWP.condF (by kernel_rfl) ?_
  refine AWP.exit ?_
  refine AWP.seq ?_
  refine AWP.keep' [5] [8] (sf := St.mk [(5, tp (V.sl 8 0 4))] [(8, Blk.mk [u8 (n / 256 / 256 / 256 % 256), u8 (n / 256 / 256 % 256), u8 (n / 256 % 256), u8 (n % 256)] true 0 (some (5, 1)))]) (by kernel_rfl) ?_
  refine g0 [4] [8] (by kernel_rfl) ?_
  refine AWP.ret ?_
  refine ⟨Or.inr rfl, Eq.trans (b := some ([(8, Blk.mk [u8 (n / 256 / 256 / 256 % 256), u8 (n / 256 / 256 % 256), u8 (n / 256 % 256), u8 (n % 256)] true 0 (some (5, 1)))], V.sl 8 0 4)) (by kernel_rfl) ?_⟩
  rfl
theorem con_join1 (a : List Int) (h : a.length ≤ 140737488355328) : Con Tryd.prog 19 [] [.vs [.vs (u8s a) a.length] 1] [(3, ⟨u8s a, true, 0, some (5, 1)⟩)] (.sl 3 0 a.length) := by
  refine Con.of (C := ⟨Tryd.prog, tc, Tryd.f19.ntmps⟩) [3] tcok Tryd.func19 rfl rfl (by kernel_rfl) (by kernel_rfl) ?_
  refine e0 [0, 2] [2] (by kernel_rfl) ?_
  refine e0 [0, 2, 3] [2, 3] (by kernel_rfl) ?_
  refine AWP.seq ?_
  refine e0 [2, 3, 6, 7, 8] [2, 3] (by kernel_rfl) ?_
  refine AWP.block ?_
  refine AWP.unroll 6 ?_
  refine e0 [2, 3, 6, 7, 8, 9] [2, 3] (by kernel_rfl) ?_
  refine AWP.seq ?_
  refine AWP.condT (by kernel_rfl) ?_
  refine AWP.skip ?_
  refine AWP.seq ?_
  refine AWP.block ?_
  refine e0 [2, 3, 5, 6, 7, 8, 9, 10, 11] [2, 3] (by kernel_rfl) ?_
  refine AWP.region tcok hmix [(2, ⟨some (V.tup [V.agg true (u8s a), V.sl 0 0 (List.length a)]), none⟩)] (os := [List.length a * (1 : Nat) ≤ List.length (u8s a), (0 : Nat) = (0 : Nat), (0 : Nat) + List.length a ≤ (9223372036854775807 : Nat), ((0 : Nat) + List.length a) * (1 : Nat) ≤ (140737488355328 : Nat), [] ++ List.take (List.length a * (1 : Nat)) (u8s a) = u8s a, (0 : Nat) + List.length a = List.length a]) (sf := St.mk [(2, tp (V.sl 2 0 0)), (3, tp (V.sl 3 0 (List.length a))), (5, tp (B8 a)), (6, tp (V.vs [B8 a] 1)), (7, tp (i64 1)), (8, tp (i64 0)), (9, tp (vb true)), (10, tp (V.vp [B8 a])), (11, tp (B8 a)), (12, tp V.top), (13, tp (B8 a)), (14, tp (V.sl 3 0 (List.length a)))] [(2, Blk.mk [] true 0 (some (5, 1))), (3, Blk.mk (u8s a) true 0 (some (5, 1)))]) (by kernel_rfl) ⟨(by (simp [len_u8s]; done)), (by omega), (by omega), (by omega), (by first | rfl | (show u8s ([]) ++ _ = _; simp only [u8s_drop, u8s_take, List.drop_zero, Nat.mul_one, Nat.one_mul, u8s_app, List.take_length, List.nil_append, List.append_nil]; done) | (simp [u8s]; done) | (simp [u8s]; omega)), (by omega), trivial⟩ ?_
  refine AWP.region tcok hmix [] (os := []) (sf := St.mk [(2, tp (V.sl 2 0 0)), (3, tp (V.sl 3 0 (List.length a))), (5, tp (B8 a)), (6, tp (V.vs [B8 a] 1)), (7, tp (i64 1)), (8, tp (i64 1)), (9, tp (vb true)), (10, tp (V.vp [B8 a])), (11, tp (B8 a)), (12, tp V.top), (13, tp (B8 a)), (14, tp (V.sl 3 0 (List.length a))), (15, tp (i64 1))] [(2, Blk.mk [] true 0 (some (5, 1))), (3, Blk.mk (u8s a) true 0 (some (5, 1)))]) (by kernel_rfl) trivial ?_
  refine e0 [2, 3, 5, 6, 7, 8, 9, 10, 11, 12, 13, 14, 15] [2, 3] (by kernel_rfl) ?_
  refine AWP.seq ?_
  refine AWP.condF (by kernel_rfl) ?_
  refine AWP.exit ?_
  refine AWP.seq ?_
  refine AWP.keep' [3] [3] (sf := St.mk [(3, tp (V.sl 3 0 (List.length a)))] [(3, Blk.mk (u8s a) true 0 (some (5, 1)))]) (by kernel_rfl) ?_
  refine g0 [2] [3] (by kernel_rfl) ?_
  refine AWP.ret ?_
  refine ⟨Or.inr rfl, Eq.trans (b := some ([(3, Blk.mk (u8s a) true 0 (some (5, 1)))], V.sl 3 0 (List.length a))) (by kernel_rfl) ?_⟩
  rfl
theorem con_join5 (a b c d e : List Int) (h : a.length + b.length + c.length + d.length + e.length ≤ 140737488355328) : Con Tryd.prog 19 [] [.vs [.vs (u8s a) a.length, .vs (u8s b) b.length, .vs (u8s c) c.length, .vs (u8s d) d.length, .vs (u8s e) e.length] 5] [(3, ⟨u8s ((((a ++ b) ++ c) ++ d) ++ e), true, 0, some (5, 1)⟩)] (.sl 3 0 ((((a ++ b) ++ c) ++ d) ++ e).length) := by
  refine Con.of (C := ⟨Tryd.prog, tc, Tryd.f19.ntmps⟩) [3] tcok Tryd.func19 rfl rfl (by kernel_rfl) (by kernel_rfl) ?_
  refine e0 [0, 2] [2] (by kernel_rfl) ?_
  refine e0 [0, 2, 3] [2, 3] (by kernel_rfl) ?_
  refine AWP.seq ?_
  refine e0 [2, 3, 6, 7, 8] [2, 3] (by kernel_rfl) ?_
  refine AWP.block ?_
  refine AWP.unroll 7 ?_
  refine e0 [2, 3, 6, 7, 8, 9] [2, 3] (by kernel_rfl) ?_
  refine AWP.seq ?_
  refine AWP.condT (by kernel_rfl) ?_
  refine AWP.skip ?_
  refine AWP.seq ?_
  refine AWP.block ?_
  refine e0 [2, 3, 5, 6, 7, 8, 9, 10, 11] [2, 3] (by kernel_rfl) ?_
  refine AWP.region tcok hmix [(2, ⟨some (V.tup [V.agg true (u8s a), V.sl 0 0 (List.length a)]), none⟩)] (os := [List.length a * (1 : Nat) ≤ List.length (u8s a), (0 : Nat) = (0 : Nat), (0 : Nat) + List.length a ≤ (9223372036854775807 : Nat), ((0 : Nat) + List.length a) * (1 : Nat) ≤ (140737488355328 : Nat), [] ++ List.take (List.length a * (1 : Nat)) (u8s a) = u8s a, (0 : Nat) + List.length a = List.length a]) (sf := St.mk [(2, tp (V.sl 2 0 0)), (3, tp (V.sl 3 0 (List.length a))), (5, tp (B8 a)), (6, tp (V.vs [B8 a, B8 b, B8 c, B8 d, B8 e] 5)), (7, tp (i64 5)), (8, tp (i64 0)), (9, tp (vb true)), (10, tp (V.vp [B8 a, B8 b, B8 c, B8 d, B8 e])), (11, tp (B8 a)), (12, tp V.top), (13, tp (B8 a)), (14, tp (V.sl 3 0 (List.length a)))] [(2, Blk.mk [] true 0 (some (5, 1))), (3, Blk.mk (u8s a) true 0 (some (5, 1)))]) (by kernel_rfl) ⟨(by (simp [len_u8s]; done)), (by omega), (by omega), (by omega), (by first | rfl | (show u8s ([]) ++ _ = _; simp only [u8s_drop, u8s_take, List.drop_zero, Nat.mul_one, Nat.one_mul, u8s_app, List.take_length, List.nil_append, List.append_nil]; done) | (simp [u8s]; done) | (simp [u8s]; omega)), (by omega), trivial⟩ ?_
  refine AWP.region tcok hmix [] (os := []) (sf := St.mk [(2, tp (V.sl 2 0 0)), (3, tp (V.sl 3 0 (List.length a))), (5, tp (B8 a)), (6, tp (V.vs [B8 a, B8 b, B8 c, B8 d, B8 e] 5)), (7, tp (i64 5)), (8, tp (i64 1)), (9, tp (vb true)), (10, tp (V.vp [B8 a, B8 b, B8 c, B8 d, B8 e])), (11, tp (B8 a)), (12, tp V.top), (13, tp (B8 a)), (14, tp (V.sl 3 0 (List.length a))), (15, tp (i64 1))] [(2, Blk.mk [] true 0 (some (5, 1))), (3, Blk.mk (u8s a) true 0 (some (5, 1)))]) (by kernel_rfl) trivial ?_
  refine e0 [2, 3, 5, 6, 7, 8, 9, 10, 11, 12, 13, 14, 15] [2, 3] (by kernel_rfl) ?_
  refine AWP.seq ?_
  refine AWP.condT (by kernel_rfl) ?_
  refine AWP.skip ?_
  refine AWP.seq ?_
  refine AWP.block ?_
  refine e0 [2, 3, 5, 6, 7, 8, 9, 10, 11, 12, 13, 14, 15] [2, 3] (by kernel_rfl) ?_
  refine AWP.keep' [2, 3, 5, 6, 7, 8, 9, 10, 11, 15] [2, 3] (sf := St.mk [(2, tp (V.sl 2 0 0)), (3, tp (V.sl 3 0 (List.length a))), (5, tp (B8 b)), (6, tp (V.vs [B8 a, B8 b, B8 c, B8 d, B8 e] 5)), (7, tp (i64 5)), (8, tp (i64 1)), (9, tp (vb true)), (10, tp (V.vp [B8 b, B8 c, B8 d, B8 e])), (11, tp (B8 b)), (15, tp (i64 1))] [(2, Blk.mk [] true 0 (some (5, 1))), (3, Blk.mk (u8s a) true 0 (some (5, 1)))]) (by kernel_rfl) ?_
  refine AWP.region tcok hmix [(2, ⟨some (V.tup [V.agg true (u8s (a ++ b)), V.sl 0 0 (List.length (a ++ b))]), none⟩)] (os := [List.length b * (1 : Nat) ≤ List.length (u8s b), List.length a * (1 : Nat) = List.length (u8s a), List.length a + List.length b ≤ (9223372036854775807 : Nat), (List.length a + List.length b) * (1 : Nat) ≤ (140737488355328 : Nat), u8s a ++ List.take (List.length b * (1 : Nat)) (u8s b) = u8s (a ++ b), List.length a + List.length b = List.length (a ++ b)]) (sf := St.mk [(2, tp (V.sl 2 0 0)), (3, tp (V.sl 3 0 (List.length (a ++ b)))), (5, tp (B8 b)), (6, tp (V.vs [B8 a, B8 b, B8 c, B8 d, B8 e] 5)), (7, tp (i64 5)), (8, tp (i64 1)), (9, tp (vb true)), (10, tp (V.vp [B8 b, B8 c, B8 d, B8 e])), (11, tp (B8 b)), (12, tp V.top), (13, tp (B8 b)), (14, tp (V.sl 3 0 (List.length (a ++ b)))), (15, tp (i64 1))] [(2, Blk.mk [] true 0 (some (5, 1))), (3, Blk.mk (u8s (a ++ b)) true 0 (some (5, 1)))]) (by kernel_rfl) ⟨(by (simp [len_u8s]; done)), (by (simp [len_u8s]; done)), (by omega), (by omega), (by first | rfl | (show u8s (a) ++ _ = _; simp only [u8s_drop, u8s_take, List.drop_zero, Nat.mul_one, Nat.one_mul, u8s_app, List.take_length, List.nil_append, List.append_nil]; done) | (simp [u8s]; done) | (simp [u8s]; omega)), (by (simp [len_u8s]; done)), trivial⟩ ?_
  refine AWP.region tcok hmix [] (os := []) (sf := St.mk [(2, tp (V.sl 2 0 0)), (3, tp (V.sl 3 0 (List.length (a ++ b)))), (5, tp (B8 b)), (6, tp (V.vs [B8 a, B8 b, B8 c, B8 d, B8 e] 5)), (7, tp (i64 5)), (8, tp (i64 2)), (9, tp (vb true)), (10, tp (V.vp [B8 b, B8 c, B8 d, B8 e])), (11, tp (B8 b)), (12, tp V.top), (13, tp (B8 b)), (14, tp (V.sl 3 0 (List.length (a ++ b)))), (15, tp (i64 2))] [(2, Blk.mk [] true 0 (some (5, 1))), (3, Blk.mk (u8s (a ++ b)) true 0 (some (5, 1)))]) (by kernel_rfl) trivial ?_
  refine e0 [2, 3, 5, 6, 7, 8, 9, 10, 11, 12, 13, 14, 15] [2, 3] (by kernel_rfl) ?_
  refine AWP.seq ?_
  refine AWP.condT (by kernel_rfl) ?_
  refine AWP.skip ?_
  refine AWP.seq ?_
  refine AWP.block ?_
  refine e0 [2, 3, 5, 6, 7, 8, 9, 10, 11, 12, 13, 14, 15] [2, 3] (by kernel_rfl) ?_
  refine AWP.keep' [2, 3, 5, 6, 7, 8, 9, 10, 11, 15] [2, 3] (sf := St.mk [(2, tp (V.sl 2 0 0)), (3, tp (V.sl 3 0 (List.length (a ++ b)))), (5, tp (B8 c)), (6, tp (V.vs [B8 a, B8 b, B8 c, B8 d, B8 e] 5)), (7, tp (i64 5)), (8, tp (i64 2)), (9, tp (vb true)), (10, tp (V.vp [B8 c, B8 d, B8 e])), (11, tp (B8 c)), (15, tp (i64 2))] [(2, Blk.mk [] true 0 (some (5, 1))), (3, Blk.mk (u8s (a ++ b)) true 0 (some (5, 1)))]) (by kernel_rfl) ?_
  refine AWP.region tcok hmix [(2, ⟨some (V.tup [V.agg true (u8s (a ++ b ++ c)), V.sl 0 0 (List.length (a ++ b ++ c))]), none⟩)] (os := [List.length c * (1 : Nat) ≤ List.length (u8s c), List.length (a ++ b) * (1 : Nat) = List.length (u8s (a ++ b)), List.length (a ++ b) + List.length c ≤ (9223372036854775807 : Nat), (List.length (a ++ b) + List.length c) * (1 : Nat) ≤ (140737488355328 : Nat), u8s (a ++ b) ++ List.take (List.length c * (1 : Nat)) (u8s c) = u8s (a ++ b ++ c), List.length (a ++ b) + List.length c = List.length (a ++ b ++ c)]) (sf := St.mk [(2, tp (V.sl 2 0 0)), (3, tp (V.sl 3 0 (List.length (a ++ b ++ c)))), (5, tp (B8 c)), (6, tp (V.vs [B8 a, B8 b, B8 c, B8 d, B8 e] 5)), (7, tp (i64 5)), (8, tp (i64 2)), (9, tp (vb true)), (10, tp (V.vp [B8 c, B8 d, B8 e])), (11, tp (B8 c)), (12, tp V.top), (13, tp (B8 c)), (14, tp (V.sl 3 0 (List.length (a ++ b ++ c)))), (15, tp (i64 2))] [(2, Blk.mk [] true 0 (some (5, 1))), (3, Blk.mk (u8s (a ++ b ++ c)) true 0 (some (5, 1)))]) (by kernel_rfl) ⟨(by (simp [len_u8s]; done)), (by (simp [len_u8s]; done)), (by (simp [len_u8s]; omega)), (by (simp [len_u8s]; omega)), (by first | rfl | (show u8s (a ++ b) ++ _ = _; simp only [u8s_drop, u8s_take, List.drop_zero, Nat.mul_one, Nat.one_mul, u8s_app, List.take_length, List.nil_append, List.append_nil]; done) | (simp [u8s]; done) | (simp [u8s]; omega)), (by (simp [len_u8s]; omega)), trivial⟩ ?_
  refine AWP.region tcok hmix [] (os := []) (sf := St.mk [(2, tp (V.sl 2 0 0)), (3, tp (V.sl 3 0 (List.length (a ++ b ++ c)))), (5, tp (B8 c)), (6, tp (V.vs [B8 a, B8 b, B8 c, B8 d, B8 e] 5)), (7, tp (i64 5)), (8, tp (i64 3)), (9, tp (vb true)), (10, tp (V.vp [B8 c, B8 d, B8 e])), (11, tp (B8 c)), (12, tp V.top), (13, tp (B8 c)), (14, tp (V.sl 3 0 (List.length (a ++ b ++ c)))), (15, tp (i64 3))] [(2, Blk.mk [] true 0 (some (5, 1))), (3, Blk.mk (u8s (a ++ b ++ c)) true 0 (some (5, 1)))]) (by kernel_rfl) trivial ?_
  refine e0 [2, 3, 5, 6, 7, 8, 9, 10, 11, 12, 13, 14, 15] [2, 3] (by kernel_rfl) ?_
  refine AWP.seq ?_
  refine AWP.condT (by kernel_rfl) ?_
  refine AWP.skip ?_
  refine AWP.seq ?_
  refine AWP.block ?_
  refine e0 [2, 3, 5, 6, 7, 8, 9, 10, 11, 12, 13, 14, 15] [2, 3] (by kernel_rfl) ?_
  refine AWP.keep' [2, 3, 5, 6, 7, 8, 9, 10, 11, 15] [2, 3] (sf := St.mk [(2, tp (V.sl 2 0 0)), (3, tp (V.sl 3 0 (List.length (a ++ b ++ c)))), (5, tp (B8 d)), (6, tp (V.vs [B8 a, B8 b, B8 c, B8 d, B8 e] 5)), (7, tp (i64 5)), (8, tp (i64 3)), (9, tp (vb true)), (10, tp (V.vp [B8 d, B8 e])), (11, tp (B8 d)), (15, tp (i64 3))] [(2, Blk.mk [] true 0 (some (5, 1))), (3, Blk.mk (u8s (a ++ b ++ c)) true 0 (some (5, 1)))]) (by kernel_rfl) ?_
  refine AWP.region tcok hmix [(2, ⟨some (V.tup [V.agg true (u8s (a ++ b ++ c ++ d)), V.sl 0 0 (List.length (a ++ b ++ c ++ d))]), none⟩)] (os := [List.length d * (1 : Nat) ≤ List.length (u8s d), List.length (a ++ b ++ c) * (1 : Nat) = List.length (u8s (a ++ b ++ c)), List.length (a ++ b ++ c) + List.length d ≤ (9223372036854775807 : Nat), (List.length (a ++ b ++ c) + List.length d) * (1 : Nat) ≤ (140737488355328 : Nat), u8s (a ++ b ++ c) ++ List.take (List.length d * (1 : Nat)) (u8s d) = u8s (a ++ b ++ c ++ d), List.length (a ++ b ++ c) + List.length d = List.length (a ++ b ++ c ++ d)]) (sf := St.mk [(2, tp (V.sl 2 0 0)), (3, tp (V.sl 3 0 (List.length (a ++ b ++ c ++ d)))), (5, tp (B8 d)), (6, tp (V.vs [B8 a, B8 b, B8 c, B8 d, B8 e] 5)), (7, tp (i64 5)), (8, tp (i64 3)), (9, tp (vb true)), (10, tp (V.vp [B8 d, B8 e])), (11, tp (B8 d)), (12, tp V.top), (13, tp (B8 d)), (14, tp (V.sl 3 0 (List.length (a ++ b ++ c ++ d)))), (15, tp (i64 3))] [(2, Blk.mk [] true 0 (some (5, 1))), (3, Blk.mk (u8s (a ++ b ++ c ++ d)) true 0 (some (5, 1)))]) (by kernel_rfl) ⟨(by (simp [len_u8s]; done)), (by (simp [len_u8s]; done)), (by (simp [len_u8s]; omega)), (by (simp [len_u8s]; omega)), (by first | rfl | (show u8s (a ++ b ++ c) ++ _ = _; simp only [u8s_drop, u8s_take, List.drop_zero, Nat.mul_one, Nat.one_mul, u8s_app, List.take_length, List.nil_append, List.append_nil]; done) | (simp [u8s]; done) | (simp [u8s]; omega)), (by (simp [len_u8s]; omega)), trivial⟩ ?_
  refine AWP.region tcok hmix [] (os := []) (sf := St.mk [(2, tp (V.sl 2 0 0)), (3, tp (V.sl 3 0 (List.length (a ++ b ++ c ++ d)))), (5, tp (B8 d)), (6, tp (V.vs [B8 a, B8 b, B8 c, B8 d, B8 e] 5)), (7, tp (i64 5)), (8, tp (i64 4)), (9, tp (vb true)), (10, tp (V.vp [B8 d, B8 e])), (11, tp (B8 d)), (12, tp V.top), (13, tp (B8 d)), (14, tp (V.sl 3 0 (List.length (a ++ b ++ c ++ d)))), (15, tp (i64 4))] [(2, Blk.mk [] true 0 (some (5, 1))), (3, Blk.mk (u8s (a ++ b ++ c ++ d)) true 0 (some (5, 1)))]) (by kernel_rfl) trivial ?_
  refine e0 [2, 3, 5, 6, 7, 8, 9, 10, 11, 12, 13, 14, 15] [2, 3] (by kernel_rfl) ?_
  refine AWP.seq ?_
  refine AWP.condT (by kernel_rfl) ?_
  refine AWP.skip ?_
  refine AWP.seq ?_
  refine AWP.block ?_
  refine e0 [2, 3, 5, 6, 7, 8, 9, 10, 11, 12, 13, 14, 15] [2, 3] (by kernel_rfl) ?_
  refine AWP.keep' [2, 3, 5, 6, 7, 8, 9, 10, 11, 15] [2, 3] (sf := St.mk [(2, tp (V.sl 2 0 0)), (3, tp (V.sl 3 0 (List.length (a ++ b ++ c ++ d)))), (5, tp (B8 e)), (6, tp (V.vs [B8 a, B8 b, B8 c, B8 d, B8 e] 5)), (7, tp (i64 5)), (8, tp (i64 4)), (9, tp (vb true)), (10, tp (V.vp [B8 e])), (11, tp (B8 e)), (15, tp (i64 4))] [(2, Blk.mk [] true 0 (some (5, 1))), (3, Blk.mk (u8s (a ++ b ++ c ++ d)) true 0 (some (5, 1)))]) (by kernel_rfl) ?_
  refine AWP.region tcok hmix [(2, ⟨some (V.tup [V.agg true (u8s (a ++ b ++ c ++ d ++ e)), V.sl 0 0 (List.length (a ++ b ++ c ++ d ++ e))]), none⟩)] (os := [List.length e * (1 : Nat) ≤ List.length (u8s e), List.length (a ++ b ++ c ++ d) * (1 : Nat) = List.length (u8s (a ++ b ++ c ++ d)), List.length (a ++ b ++ c ++ d) + List.length e ≤ (9223372036854775807 : Nat), (List.length (a ++ b ++ c ++ d) + List.length e) * (1 : Nat) ≤ (140737488355328 : Nat), u8s (a ++ b ++ c ++ d) ++ List.take (List.length e * (1 : Nat)) (u8s e) = u8s (a ++ b ++ c ++ d ++ e), List.length (a ++ b ++ c ++ d) + List.length e = List.length (a ++ b ++ c ++ d ++ e)]) (sf := St.mk [(2, tp (V.sl 2 0 0)), (3, tp (V.sl 3 0 (List.length (a ++ b ++ c ++ d ++ e)))), (5, tp (B8 e)), (6, tp (V.vs [B8 a, B8 b, B8 c, B8 d, B8 e] 5)), (7, tp (i64 5)), (8, tp (i64 4)), (9, tp (vb true)), (10, tp (V.vp [B8 e])), (11, tp (B8 e)), (12, tp V.top), (13, tp (B8 e)), (14, tp (V.sl 3 0 (List.length (a ++ b ++ c ++ d ++ e)))), (15, tp (i64 4))] [(2, Blk.mk [] true 0 (some (5, 1))), (3, Blk.mk (u8s (a ++ b ++ c ++ d ++ e)) true 0 (some (5, 1)))]) (by kernel_rfl) ⟨(by (simp [len_u8s]; done)), (by (simp [len_u8s]; done)), (by (simp [len_u8s]; omega)), (by (simp [len_u8s]; omega)), (by first | rfl | (show u8s (a ++ b ++ c ++ d) ++ _ = _; simp only [u8s_drop, u8s_take, List.drop_zero, Nat.mul_one, Nat.one_mul, u8s_app, List.take_length, List.nil_append, List.append_nil]; done) | (simp [u8s]; done) | (simp [u8s]; omega)), (by (simp [len_u8s]; omega)), trivial⟩ ?_
  refine AWP.region tcok hmix [] (os := []) (sf := St.mk [(2, tp (V.sl 2 0 0)), (3, tp (V.sl 3 0 (List.length (a ++ b ++ c ++ d ++ e)))), (5, tp (B8 e)), (6, tp (V.vs [B8 a, B8 b, B8 c, B8 d, B8 e] 5)), (7, tp (i64 5)), (8, tp (i64 5)), (9, tp (vb true)), (10, tp (V.vp [B8 e])), (11, tp (B8 e)), (12, tp V.top), (13, tp (B8 e)), (14, tp (V.sl 3 0 (List.length (a ++ b ++ c ++ d ++ e)))), (15, tp (i64 5))] [(2, Blk.mk [] true 0 (some (5, 1))), (3, Blk.mk (u8s (a ++ b ++ c ++ d ++ e)) true 0 (some (5, 1)))]) (by kernel_rfl) trivial ?_
  refine e0 [2, 3, 5, 6, 7, 8, 9, 10, 11, 12, 13, 14, 15] [2, 3] (by kernel_rfl) ?_
  refine AWP.seq ?_
  refine AWP.condF (by kernel_rfl) ?_
  refine AWP.exit ?_
  refine AWP.seq ?_
  refine AWP.keep' [3] [3] (sf := St.mk [(3, tp (V.sl 3 0 (List.length (a ++ b ++ c ++ d ++ e))))] [(3, Blk.mk (u8s (a ++ b ++ c ++ d ++ e)) true 0 (some (5, 1)))]) (by kernel_rfl) ?_
  refine g0 [2] [3] (by kernel_rfl) ?_
  refine AWP.ret ?_
  refine ⟨Or.inr rfl, Eq.trans (b := some ([(3, Blk.mk (u8s (a ++ b ++ c ++ d ++ e)) true 0 (some (5, 1)))], V.sl 3 0 (List.length (a ++ b ++ c ++ d ++ e)))) (by kernel_rfl) ?_⟩
  rfl
theorem cut_end {l : List Int} {m i : Nat} (h : l.length ≤ i) : l.take (min i m) = l.take m := by
  rcases Nat.le_total i m with h1 | h1
  · rw [Nat.min_eq_left h1, List.take_of_length_le h, List.take_of_length_le (by omega)]
  · rw [Nat.min_eq_right h1]
theorem cut_in {l : List Int} {m i : Nat} (h : i < l.length) (h2 : i < m) : l.take (min i m) ++ [l.getD i 0] = l.take (min (i + 1) m) := by
  rw [Nat.min_eq_left (by omega), Nat.min_eq_left (by omega), List.take_add_one]
  simp [List.getD_eq_getElem?_getD, List.getElem?_eq_getElem h]
theorem cut_out {l : List Int} {m i : Nat} (h : m ≤ i) : l.take (min i m) = l.take (min (i + 1) m) := by
  rw [Nat.min_eq_right (by omega), Nat.min_eq_right (by omega)]
theorem con_cut (l : List Int) (m : Int) (hm : 0 ≤ m) (hm2 : m ≤ 1000000) (hl : l.length ≤ 9223372036854775807) : Con Tryd.prog 15 [] [.vs (u8s l) l.length, i64 m] [(5, ⟨u8s (l.take m.toNat), true, 0, some (5, 1)⟩)] (.sl 5 0 (l.take m.toNat).length) := by
  refine Con.of (C := ⟨Tryd.prog, tc, Tryd.f15.ntmps⟩) [5] tcok Tryd.func15 rfl rfl (by kernel_rfl) (by kernel_rfl) ?_
  refine e0 [0, 1, 4] [4] (by kernel_rfl) ?_
  refine e0 [0, 1, 4, 5] [4, 5] (by kernel_rfl) ?_
  refine AWP.seq ?_
  refine e0 [1, 4, 5, 8, 9, 10] [4, 5] (by kernel_rfl) ?_
  refine AWP.block ?_
  refine AWP.loopI [1, 4, 5, 8, 9, 10] [4, 5] (fun N s => ∃ (i : Int) (o : List Int), s = St.mk [(1, T.plain (i64 m)), (4, T.plain (V.sl 4 0 0)), (5, T.plain (V.sl 5 0 o.length)), (8, T.plain (V.vs (u8s l) (List.length l))), (9, T.plain (i64 (List.length l))), (10, T.plain (i64 i))] [(4, Blk.mk [] true 0 (some (5, 1))), (5, Blk.mk (u8s o) true 0 (some (5, 1)))]
      ∧ o = l.take (min i.toNat m.toNat) ∧ 0 ≤ i ∧ (N : Int) = l.length - i) l.length (s0 := St.mk [(1, T.plain (i64 m)), (4, T.plain (V.sl 4 0 0)), (5, T.plain (V.sl 5 0 0)), (8, T.plain (V.vs (u8s l) (List.length l))), (9, T.plain (i64 (List.length l))), (10, T.plain (i64 0))] [(4, Blk.mk [] true 0 (some (5, 1))), (5, Blk.mk [] true 0 (some (5, 1)))]) (by kernel_rfl) ?_ ?_
  · exact ⟨0, [], rfl, by simp, by omega, by omega⟩
  rintro N s ⟨i, o, rfl, ho, hi, hN⟩
  have kx := u8s_at l i.toNat
  have hol : o.length ≤ 1000000 := by rw [ho, List.length_take]; omega
  refine e0 [1, 4, 5, 8, 9, 10, 11] [4, 5] (by kernel_rfl) ?_
  refine AWP.seq ?_
  refine AWP.cond (b := decide (i < (↑(List.length l) : Int))) (by kernel_rfl) (fun hq13 => ?_) (fun hq13 => ?_)
  · simp only [decide_eq_true_eq] at hq13
    refine AWP.skip ?_
    refine AWP.seq ?_
    refine AWP.block ?_
    refine e1 (os := [(0 : Int) ≤ i ∧ i < (↑(List.length l) : Int), V.vp (List.drop (Int.toNat i * 1) (u8s l)) = V.vp (u8 (List.getD l (Int.toNat i) 0) :: u8s (List.drop (Int.toNat i + 1) l))]) [(1, ⟨some (V.vp (u8 (List.getD l (Int.toNat i) 0) :: u8s (List.drop (Int.toNat i + 1) l))), none⟩)] [1, 4, 5, 6, 7, 8, 9, 10] [4, 5] (by kernel_rfl) ⟨(by omega), (congrArg V.vp (kx (by omega))), trivial⟩ ?_
    refine e0 [1, 4, 5, 7, 8, 9, 10, 17] [4, 5] (by kernel_rfl) ?_
    refine AWP.cond (b := decide (i < m)) (by kernel_rfl) (fun hq14 => ?_) (fun hq14 => ?_)
    · simp only [decide_eq_true_eq] at hq14
      refine AWP.region tcok hmix [(3, ⟨some (V.tup [V.agg true (u8s (o ++ [List.getD l (Int.toNat i) 0])), V.sl 0 0 (List.length (o ++ [List.getD l (Int.toNat i) 0]))]), none⟩)] (os := [(1 : Nat) ≤ (1 : Nat), List.length o * (1 : Nat) = List.length (u8s o), List.length o + (1 : Nat) ≤ (9223372036854775807 : Nat), (List.length o + (1 : Nat)) * (1 : Nat) ≤ (140737488355328 : Nat), u8s o ++ List.take ((1 : Nat) * (1 : Nat)) (List.drop (0 : Nat) [u8 (List.getD l (Int.toNat i) (0 : Int))]) = u8s (o ++ [List.getD l (Int.toNat i) (0 : Int)]), List.length o + (1 : Nat) = List.length (o ++ [List.getD l (Int.toNat i) (0 : Int)])]) (sf := St.mk [(1, tp (i64 m)), (4, tp (V.sl 4 0 0)), (5, tp (V.sl 5 0 (List.length (o ++ [List.getD l (Int.toNat i) 0])))), (7, tp (u8 (List.getD l (Int.toNat i) 0))), (8, tp (B8 l)), (9, tp (i64 (↑(List.length l) : Int))), (10, tp (i64 i)), (17, tp (vb (decide (i < m)))), (18, tp V.top), (19, tp (u8 (List.getD l (Int.toNat i) 0))), (20, tp (V.sl 20 0 1)), (21, tp (V.sl 5 0 (List.length (o ++ [List.getD l (Int.toNat i) 0]))))] [(4, Blk.mk [] true 0 (some (5, 1))), (5, Blk.mk (u8s (o ++ [List.getD l (Int.toNat i) 0])) true 0 (some (5, 1))), (20, Blk.mk [u8 (List.getD l (Int.toNat i) 0)] true 0 (some (5, 1)))]) (by kernel_rfl) ⟨(by omega), (by (simp [len_u8s]; done)), (by omega), (by omega), (by first | rfl | (show u8s (o) ++ _ = _; simp only [u8s_drop, u8s_take, List.drop_zero, Nat.mul_one, Nat.one_mul, u8s_app, List.take_length, List.nil_append, List.append_nil]; done) | (simp [u8s]; done) | (simp [u8s]; omega)), (by (simp [len_u8s]; done)), trivial⟩ ?_
      refine AWP.keep' [1, 4, 5, 8, 9, 10] [4, 5] (sf := St.mk [(1, tp (i64 m)), (4, tp (V.sl 4 0 0)), (5, tp (V.sl 5 0 (List.length (o ++ [List.getD l (Int.toNat i) 0])))), (8, tp (B8 l)), (9, tp (i64 (↑(List.length l) : Int))), (10, tp (i64 i))] [(4, Blk.mk [] true 0 (some (5, 1))), (5, Blk.mk (u8s (o ++ [List.getD l (Int.toNat i) 0])) true 0 (some (5, 1)))]) (by kernel_rfl) ?_
      refine AWP.region tcok hmix [(0, ⟨some (i64 (i + 1)), none⟩)] (os := [i64 (IntKind.wrap IntKind.i64 (i + 1)) = i64 (i + 1)]) (sf := St.mk [(1, tp (i64 m)), (4, tp (V.sl 4 0 0)), (5, tp (V.sl 5 0 (List.length (o ++ [List.getD l (Int.toNat i) 0])))), (8, tp (B8 l)), (9, tp (i64 (↑(List.length l) : Int))), (10, tp (i64 (i + 1))), (22, tp (i64 (i + 1)))] [(4, Blk.mk [] true 0 (some (5, 1))), (5, Blk.mk (u8s (o ++ [List.getD l (Int.toNat i) 0])) true 0 (some (5, 1)))]) (by kernel_rfl) ⟨(wr_i64 (by omega) (by omega)), trivial⟩ ?_
      refine ⟨St.mk [(1, tp (i64 m)), (4, tp (V.sl 4 0 0)), (5, tp (V.sl 5 0 (List.length (o ++ [List.getD l (Int.toNat i) 0])))), (8, tp (B8 l)), (9, tp (i64 (↑(List.length l) : Int))), (10, tp (i64 (i + 1)))] [(4, Blk.mk [] true 0 (some (5, 1))), (5, Blk.mk (u8s (o ++ [List.getD l (Int.toNat i) 0])) true 0 (some (5, 1)))], by kernel_rfl, ?_⟩
      first | (have e := ho.trans (cut_end (by omega)); rw [e]; done) | (exact ⟨(l.length - (i + 1)).toNat, (by omega), i + 1, _, rfl, (by rw [ho, show (i + 1).toNat = i.toNat + 1 by omega]; exact cut_in (by omega) (by omega)), (by omega), (by omega)⟩) | (exact ⟨(l.length - (i + 1)).toNat, (by omega), i + 1, _, rfl, (by rw [ho, show (i + 1).toNat = i.toNat + 1 by omega]; exact cut_out (by omega)), (by omega), (by omega)⟩)
    simp only [decide_eq_false_iff_not] at hq14
    refine AWP.skip ?_
    refine AWP.region tcok hmix [(0, ⟨some (i64 (i + 1)), none⟩)] (os := [i64 (IntKind.wrap IntKind.i64 (i + 1)) = i64 (i + 1)]) (sf := St.mk [(1, tp (i64 m)), (4, tp (V.sl 4 0 0)), (5, tp (V.sl 5 0 (List.length o))), (7, tp (u8 (List.getD l (Int.toNat i) 0))), (8, tp (B8 l)), (9, tp (i64 (↑(List.length l) : Int))), (10, tp (i64 (i + 1))), (17, tp (vb (decide (i < m)))), (22, tp (i64 (i + 1)))] [(4, Blk.mk [] true 0 (some (5, 1))), (5, Blk.mk (u8s o) true 0 (some (5, 1)))]) (by kernel_rfl) ⟨(wr_i64 (by omega) (by omega)), trivial⟩ ?_
    refine ⟨St.mk [(1, tp (i64 m)), (4, tp (V.sl 4 0 0)), (5, tp (V.sl 5 0 (List.length o))), (8, tp (B8 l)), (9, tp (i64 (↑(List.length l) : Int))), (10, tp (i64 (i + 1)))] [(4, Blk.mk [] true 0 (some (5, 1))), (5, Blk.mk (u8s o) true 0 (some (5, 1)))], by kernel_rfl, ?_⟩
    first | (have e := ho.trans (cut_end (by omega)); rw [e]; done) | (exact ⟨(l.length - (i + 1)).toNat, (by omega), i + 1, _, rfl, (by rw [ho, show (i + 1).toNat = i.toNat + 1 by omega]; exact cut_in (by omega) (by omega)), (by omega), (by omega)⟩) | (exact ⟨(l.length - (i + 1)).toNat, (by omega), i + 1, _, rfl, (by rw [ho, show (i + 1).toNat = i.toNat + 1 by omega]; exact cut_out (by omega)), (by omega), (by omega)⟩)
  simp only [decide_eq_false_iff_not] at hq13
  refine AWP.exit ?_
  refine AWP.seq ?_
  refine AWP.keep' [5] [5] (sf := St.mk [(5, tp (V.sl 5 0 (List.length o)))] [(5, Blk.mk (u8s o) true 0 (some (5, 1)))]) (by kernel_rfl) ?_
  refine g0 [4] [5] (by kernel_rfl) ?_
  refine AWP.ret ?_
  refine ⟨Or.inr rfl, Eq.trans (b := some ([(5, Blk.mk (u8s o) true 0 (some (5, 1)))], V.sl 5 0 (List.length o))) (by kernel_rfl) ?_⟩
  first | (have e := ho.trans (cut_end (by omega)); rw [e]; done) | (exact ⟨(l.length - (i + 1)).toNat, (by omega), i + 1, _, rfl, (by rw [ho, show (i + 1).toNat = i.toNat + 1 by omega]; exact cut_in (by omega) (by omega)), (by omega), (by omega)⟩) | (exact ⟨(l.length - (i + 1)).toNat, (by omega), i + 1, _, rfl, (by rw [ho, show (i + 1).toNat = i.toNat + 1 by omega]; exact cut_out (by omega)), (by omega), (by omega)⟩)
theorem same_ext {l k : List Int} (h : l.length = k.length) (hall : ∀ j, j < l.length → l.getD j 0 = k.getD j 0) : l = k := by
  apply List.ext_getElem h
  intro j h1 h2
  have := hall j h1
  simpa [List.getD_eq_getElem?_getD, List.getElem?_eq_getElem h1, List.getElem?_eq_getElem h2] using this
theorem con_same (l k : List Int) (hl : l.length ≤ 9223372036854775807) (hk : k.length ≤ 9223372036854775807) : Con Tryd.prog 17 [] [.vs (u8s l) l.length, .vs (u8s k) k.length] [] (vb (decide (l = k))) := by
  refine Con.of (C := ⟨Tryd.prog, tc, Tryd.f17.ntmps⟩) [] tcok Tryd.func17 rfl rfl (by kernel_rfl) (by kernel_rfl) ?_
  refine e0 [0, 1, 4] [] (by kernel_rfl) ?_
  refine AWP.seq ?_
  refine e0 [0, 1, 4, 10] [] (by kernel_rfl) ?_
  refine AWP.cond (b := (↑(List.length l) : Int) != (↑(List.length k) : Int)) (by kernel_rfl) (fun hq15 => ?_) (fun hq15 => ?_)
  · simp only [bne_iff_ne] at hq15
    refine e0 [0, 1, 4] [] (by kernel_rfl) ?_
    refine AWP.ret ?_
    refine ⟨Or.inr rfl, Eq.trans (b := some ([], vb false)) (by kernel_rfl) ?_⟩
    first | (have e : ¬ l = k := (fun h => by subst h; simp at hq0); simp [e]; done) | (have e : ¬ l = k := (fun h => by subst h; omega); simp [e]; done)
  simp only [bne_eq_false_iff_eq] at hq15
  refine AWP.skip ?_
  refine AWP.seq ?_
  refine e0 [0, 1, 4, 12, 13] [] (by kernel_rfl) ?_
  refine AWP.block ?_
  refine AWP.loopI [0, 1, 4, 12, 13] [] (fun N s => ∃ (i : Int), s = St.mk [(0, T.plain (V.vs (u8s l) (List.length l))), (1, T.plain (V.vs (u8s k) (List.length k))), (4, T.plain (vb false)), (12, T.plain (i64 (List.length l))), (13, T.plain (i64 i))] []
      ∧ (∀ j : Nat, j < i.toNat → l.getD j 0 = k.getD j 0) ∧ 0 ≤ i ∧ (N : Int) = l.length - i) l.length (s0 := St.mk [(0, T.plain (V.vs (u8s l) (List.length l))), (1, T.plain (V.vs (u8s k) (List.length k))), (4, T.plain (vb false)), (12, T.plain (i64 (List.length l))), (13, T.plain (i64 0))] []) (by kernel_rfl) ?_ ?_
  · exact ⟨0, rfl, fun j hj => by simp at hj, by omega, by omega⟩
  rintro N s ⟨i, rfl, hall, hi, hN⟩
  have kx := u8s_at l i.toNat
  have ky := u8s_at k i.toNat
  have hlk : l.length = k.length := by first | omega | (simp at *; omega)
  refine e0 [0, 1, 4, 12, 13, 14] [] (by kernel_rfl) ?_
  refine AWP.seq ?_
  refine AWP.cond (b := decide (i < (↑(List.length l) : Int))) (by kernel_rfl) (fun hq16 => ?_) (fun hq16 => ?_)
  · simp only [decide_eq_true_eq] at hq16
    refine AWP.skip ?_
    refine AWP.seq ?_
    refine AWP.block ?_
    refine e0 [0, 1, 4, 5, 12, 13] [] (by kernel_rfl) ?_
    refine e1 (os := [(0 : Int) ≤ i ∧ i < (↑(List.length l) : Int), V.vp (List.drop (Int.toNat i * 1) (u8s l)) = V.vp (u8 (List.getD l (Int.toNat i) 0) :: u8s (List.drop (Int.toNat i + 1) l)), (0 : Int) ≤ i ∧ i < (↑(List.length k) : Int), V.vp (List.drop (Int.toNat i * 1) (u8s k)) = V.vp (u8 (List.getD k (Int.toNat i) 0) :: u8s (List.drop (Int.toNat i + 1) k))]) [(2, ⟨some (V.vp (u8 (List.getD l (Int.toNat i) 0) :: u8s (List.drop (Int.toNat i + 1) l))), none⟩), (6, ⟨some (V.vp (u8 (List.getD k (Int.toNat i) 0) :: u8s (List.drop (Int.toNat i + 1) k))), none⟩)] [0, 1, 4, 12, 13, 24] [] (by kernel_rfl) ⟨(by omega), (congrArg V.vp (kx (by omega))), (by omega), (congrArg V.vp (ky (by omega))), trivial⟩ ?_
    refine AWP.cond (b := List.getD l (Int.toNat i) 0 != List.getD k (Int.toNat i) 0) (by kernel_rfl) (fun hq17 => ?_) (fun hq17 => ?_)
    · simp only [bne_iff_ne] at hq17
      refine e0 [0, 1, 4, 12, 13] [] (by kernel_rfl) ?_
      refine AWP.ret ?_
      refine ⟨Or.inr rfl, Eq.trans (b := some ([], vb false)) (by kernel_rfl) ?_⟩
      first | (have e : l = k := same_ext hlk (fun j hj => hall j (by omega)); simp [e]; done) | (have e : ¬ l = k := (fun h => by subst h; omega); simp [e]; done) | (exact ⟨(l.length - (i + 1)).toNat, (by omega), i + 1, rfl, (fun j hj => by by_cases e : j = i.toNat; (subst e; omega); exact hall j (by omega)), (by omega), (by omega)⟩)
    simp only [bne_eq_false_iff_eq] at hq17
    refine AWP.skip ?_
    refine AWP.region tcok hmix [(0, ⟨some (i64 (i + 1)), none⟩)] (os := [i64 (IntKind.wrap IntKind.i64 (i + 1)) = i64 (i + 1)]) (sf := St.mk [(0, tp (B8 l)), (1, tp (B8 k)), (4, tp (vb false)), (12, tp (i64 (↑(List.length l) : Int))), (13, tp (i64 (i + 1))), (24, tp (vb (List.getD l (Int.toNat i) 0 != List.getD k (Int.toNat i) 0))), (25, tp (i64 (i + 1)))] []) (by kernel_rfl) ⟨(wr_i64 (by omega) (by omega)), trivial⟩ ?_
    refine ⟨St.mk [(0, tp (B8 l)), (1, tp (B8 k)), (4, tp (vb false)), (12, tp (i64 (↑(List.length l) : Int))), (13, tp (i64 (i + 1)))] [], by kernel_rfl, ?_⟩
    first | (have e : l = k := same_ext hlk (fun j hj => hall j (by omega)); simp [e]; done) | (have e : ¬ l = k := (fun h => by subst h; omega); simp [e]; done) | (exact ⟨(l.length - (i + 1)).toNat, (by omega), i + 1, rfl, (fun j hj => by by_cases e : j = i.toNat; (subst e; omega); exact hall j (by omega)), (by omega), (by omega)⟩)
  simp only [decide_eq_false_iff_not] at hq16
  refine AWP.exit ?_
  refine e0 [4] [] (by kernel_rfl) ?_
  refine AWP.ret ?_
  refine ⟨Or.inr rfl, Eq.trans (b := some ([], vb true)) (by kernel_rfl) ?_⟩
  first | (have e : l = k := same_ext hlk (fun j hj => hall j (by omega)); simp [e]; done) | (have e : ¬ l = k := (fun h => by subst h; omega); simp [e]; done) | (exact ⟨(l.length - (i + 1)).toNat, (by omega), i + 1, rfl, (fun j hj => by by_cases e : j = i.toNat; (subst e; omega); exact hall j (by omega)), (by omega), (by omega)⟩)
end Go.Proofs.YtlfjnkobnkfioaaDoor
