/- Memory that survives: copied. -/
import Derived.Test.YtmeiemdnhjnpcaaRg
import Derived.Test.YtmeiemdnhjnpcaaGrdC
namespace Go.Proofs.Ytmeiemdnhjnpcaa
open Go.Ab
set_option linter.unusedSimpArgs false
set_option linter.unusedVariables false
set_option maxHeartbeats 4000000
theorem con_gcopies (a b c : List Int) (nx : V) (hla : a.length ≤ 1000000) (hlb : b.length ≤ 1000000) (hlc : c.length ≤ 1000000) : Con Try.prog 52 [(1000000000, ⟨[B8 a, B8 b, B8 c, nx], true, 4, none⟩)] [.ptr 1000000000 0] [(3, ⟨[B8 a, B8 b, B8 c], true, 0, some (29, 1)⟩), (1000000000, ⟨[B8 a, B8 b, B8 c, nx], true, 4, none⟩)] (.sl 3 0 3) := by
  refine Con.of (C := ⟨Try.prog, tc, Try.f52.ntmps⟩) [3, 1000000000] tcok Try.func52 rfl rfl (by kernel_rfl) (by kernel_rfl) ?_
  refine xe0 [0, 2] [2, 1000000000] (by kernel_rfl) ?_
  refine xe0 [0, 2, 3] [2, 3, 1000000000] (by kernel_rfl) ?_
  refine AWP.seq ?_
  refine xe0 [0, 2, 3, 7] [1000000000, 2, 3] (by kernel_rfl) ?_
  refine AWP.condF (by kernel_rfl) ?_
  refine AWP.skip ?_
  refine AWP.seq ?_
  refine xe0 [2, 3, 11, 12] [1000000000, 2, 3] (by kernel_rfl) ?_
  refine AWP.block ?_
  refine AWP.unroll 8 ?_
  refine xe0 [2, 3, 11, 12, 13] [2, 3, 1000000000] (by kernel_rfl) ?_
  refine AWP.seq ?_
  refine AWP.condT (by kernel_rfl) ?_
  refine AWP.skip ?_
  refine AWP.seq ?_
  refine AWP.block ?_
  refine xe0 [2, 3, 5, 11, 12, 13, 14] [2, 3, 1000000000] (by kernel_rfl) ?_
  refine AWP.region tcok hmix [(2, ⟨none, some ⟨V.sl 5 0 (List.length a), [(5, Blk.mk (u8s a) true 0 (some (5, 1)))], []⟩⟩)] (os := [Con Try.prog 68 [] [B8 a] [(5, Blk.mk (u8s a) true 0 (some (5, 1)))] (V.sl 5 0 (List.length a))]) (sf := St.mk [(2, tp (V.sl 2 0 0)), (3, tp (V.sl 3 0 1)), (5, tp (B8 a)), (11, tp (V.agg true [B8 a, B8 b, B8 c])), (12, tp (i64 0)), (13, tp (vb true)), (14, tp (B8 a)), (15, tp V.top), (16, tp (B8 a)), (17, tp (V.sl 180005 0 (List.length a))), (18, tp (V.sl 18 0 1)), (19, tp (V.sl 3 0 1))] [(2, Blk.mk [] true 0 (some (29, 1))), (3, Blk.mk [V.sl 180005 0 (List.length a)] false 0 (some (29, 1))), (18, Blk.mk [V.sl 180005 0 (List.length a)] false 0 (some (29, 1))), (180005, Blk.mk (u8s a) true 0 (some (5, 1))), (1000000000, Blk.mk [B8 a, B8 b, B8 c, nx] true 4 none)]) (by kernel_rfl) ⟨(con_clone (a) (List.length a) (by omega) (by omega)), trivial⟩ ?_
  refine AWP.region tcok hmix [] (os := []) (sf := St.mk [(2, tp (V.sl 2 0 0)), (3, tp (V.sl 3 0 1)), (5, tp (B8 a)), (11, tp (V.agg true [B8 a, B8 b, B8 c])), (12, tp (i64 1)), (13, tp (vb true)), (14, tp (B8 a)), (15, tp V.top), (16, tp (B8 a)), (17, tp (V.sl 180005 0 (List.length a))), (18, tp (V.sl 18 0 1)), (19, tp (V.sl 3 0 1)), (20, tp (i64 1))] [(2, Blk.mk [] true 0 (some (29, 1))), (3, Blk.mk [V.sl 180005 0 (List.length a)] false 0 (some (29, 1))), (18, Blk.mk [V.sl 180005 0 (List.length a)] false 0 (some (29, 1))), (180005, Blk.mk (u8s a) true 0 (some (5, 1))), (1000000000, Blk.mk [B8 a, B8 b, B8 c, nx] true 4 none)]) (by kernel_rfl) trivial ?_
  refine xe0 [2, 3, 5, 11, 12, 13, 14, 15, 16, 17, 18, 19, 20] [2, 3, 18, 180005, 1000000000] (by kernel_rfl) ?_
  refine AWP.seq ?_
  refine AWP.condT (by kernel_rfl) ?_
  refine AWP.skip ?_
  refine AWP.seq ?_
  refine AWP.block ?_
  refine xe0 [2, 3, 5, 11, 12, 13, 14, 15, 16, 17, 18, 19, 20] [2, 3, 18, 180005, 1000000000] (by kernel_rfl) ?_
  refine AWP.keep' [2, 3, 5, 11, 12, 13, 14, 20] [1000000000, 2, 3, 180005] (sf := St.mk [(2, tp (V.sl 2 0 0)), (3, tp (V.sl 3 0 1)), (5, tp (B8 b)), (11, tp (V.agg true [B8 a, B8 b, B8 c])), (12, tp (i64 1)), (13, tp (vb true)), (14, tp (B8 b)), (20, tp (i64 1))] [(2, Blk.mk [] true 0 (some (29, 1))), (3, Blk.mk [V.sl 180005 0 (List.length a)] false 0 (some (29, 1))), (180005, Blk.mk (u8s a) true 0 (some (5, 1))), (1000000000, Blk.mk [B8 a, B8 b, B8 c, nx] true 4 none)]) (by kernel_rfl) ?_
  refine AWP.frz 180005 (s' := St.mk [(2, tp (V.sl 2 0 0)), (3, tp (V.sl 3 0 1)), (5, tp (B8 b)), (11, tp (V.agg true [B8 a, B8 b, B8 c])), (12, tp (i64 1)), (13, tp (vb true)), (14, tp (B8 b)), (20, tp (i64 1))] [(2, Blk.mk [] true 0 (some (29, 1))), (3, Blk.mk [B8 a] true 0 (some (29, 1))), (1000000000, Blk.mk [B8 a, B8 b, B8 c, nx] true 4 none)]) (by kernel_rfl) ?_
  refine AWP.region tcok hmix [(2, ⟨none, some ⟨V.sl 5 0 (List.length b), [(5, Blk.mk (u8s b) true 0 (some (5, 1)))], []⟩⟩)] (os := [Con Try.prog 68 [] [B8 b] [(5, Blk.mk (u8s b) true 0 (some (5, 1)))] (V.sl 5 0 (List.length b))]) (sf := St.mk [(2, tp (V.sl 2 0 0)), (3, tp (V.sl 3 0 2)), (5, tp (B8 b)), (11, tp (V.agg true [B8 a, B8 b, B8 c])), (12, tp (i64 1)), (13, tp (vb true)), (14, tp (B8 b)), (15, tp V.top), (16, tp (B8 b)), (17, tp (V.sl 180005 0 (List.length b))), (18, tp (V.sl 18 0 1)), (19, tp (V.sl 3 0 2)), (20, tp (i64 1))] [(2, Blk.mk [] true 0 (some (29, 1))), (3, Blk.mk [B8 a, V.sl 180005 0 (List.length b)] false 0 (some (29, 1))), (18, Blk.mk [V.sl 180005 0 (List.length b)] false 0 (some (29, 1))), (180005, Blk.mk (u8s b) true 0 (some (5, 1))), (1000000000, Blk.mk [B8 a, B8 b, B8 c, nx] true 4 none)]) (by kernel_rfl) ⟨(con_clone (b) (List.length b) (by omega) (by omega)), trivial⟩ ?_
  refine AWP.region tcok hmix [] (os := []) (sf := St.mk [(2, tp (V.sl 2 0 0)), (3, tp (V.sl 3 0 2)), (5, tp (B8 b)), (11, tp (V.agg true [B8 a, B8 b, B8 c])), (12, tp (i64 2)), (13, tp (vb true)), (14, tp (B8 b)), (15, tp V.top), (16, tp (B8 b)), (17, tp (V.sl 180005 0 (List.length b))), (18, tp (V.sl 18 0 1)), (19, tp (V.sl 3 0 2)), (20, tp (i64 2))] [(2, Blk.mk [] true 0 (some (29, 1))), (3, Blk.mk [B8 a, V.sl 180005 0 (List.length b)] false 0 (some (29, 1))), (18, Blk.mk [V.sl 180005 0 (List.length b)] false 0 (some (29, 1))), (180005, Blk.mk (u8s b) true 0 (some (5, 1))), (1000000000, Blk.mk [B8 a, B8 b, B8 c, nx] true 4 none)]) (by kernel_rfl) trivial ?_
  refine xe0 [2, 3, 5, 11, 12, 13, 14, 15, 16, 17, 18, 19, 20] [2, 3, 18, 180005, 1000000000] (by kernel_rfl) ?_
  refine AWP.seq ?_
  refine AWP.condT (by kernel_rfl) ?_
  refine AWP.skip ?_
  refine AWP.seq ?_
  refine AWP.block ?_
  refine xe0 [2, 3, 5, 11, 12, 13, 14, 15, 16, 17, 18, 19, 20] [2, 3, 18, 180005, 1000000000] (by kernel_rfl) ?_
  refine AWP.keep' [2, 3, 5, 11, 12, 13, 14, 20] [1000000000, 2, 3, 180005] (sf := St.mk [(2, tp (V.sl 2 0 0)), (3, tp (V.sl 3 0 2)), (5, tp (B8 c)), (11, tp (V.agg true [B8 a, B8 b, B8 c])), (12, tp (i64 2)), (13, tp (vb true)), (14, tp (B8 c)), (20, tp (i64 2))] [(2, Blk.mk [] true 0 (some (29, 1))), (3, Blk.mk [B8 a, V.sl 180005 0 (List.length b)] false 0 (some (29, 1))), (180005, Blk.mk (u8s b) true 0 (some (5, 1))), (1000000000, Blk.mk [B8 a, B8 b, B8 c, nx] true 4 none)]) (by kernel_rfl) ?_
  refine AWP.frz 180005 (s' := St.mk [(2, tp (V.sl 2 0 0)), (3, tp (V.sl 3 0 2)), (5, tp (B8 c)), (11, tp (V.agg true [B8 a, B8 b, B8 c])), (12, tp (i64 2)), (13, tp (vb true)), (14, tp (B8 c)), (20, tp (i64 2))] [(2, Blk.mk [] true 0 (some (29, 1))), (3, Blk.mk [B8 a, B8 b] true 0 (some (29, 1))), (1000000000, Blk.mk [B8 a, B8 b, B8 c, nx] true 4 none)]) (by kernel_rfl) ?_
  refine AWP.region tcok hmix [(2, ⟨none, some ⟨V.sl 5 0 (List.length c), [(5, Blk.mk (u8s c) true 0 (some (5, 1)))], []⟩⟩)] (os := [Con Try.prog 68 [] [B8 c] [(5, Blk.mk (u8s c) true 0 (some (5, 1)))] (V.sl 5 0 (List.length c))]) (sf := St.mk [(2, tp (V.sl 2 0 0)), (3, tp (V.sl 3 0 3)), (5, tp (B8 c)), (11, tp (V.agg true [B8 a, B8 b, B8 c])), (12, tp (i64 2)), (13, tp (vb true)), (14, tp (B8 c)), (15, tp V.top), (16, tp (B8 c)), (17, tp (V.sl 180005 0 (List.length c))), (18, tp (V.sl 18 0 1)), (19, tp (V.sl 3 0 3)), (20, tp (i64 2))] [(2, Blk.mk [] true 0 (some (29, 1))), (3, Blk.mk [B8 a, B8 b, V.sl 180005 0 (List.length c)] false 0 (some (29, 1))), (18, Blk.mk [V.sl 180005 0 (List.length c)] false 0 (some (29, 1))), (180005, Blk.mk (u8s c) true 0 (some (5, 1))), (1000000000, Blk.mk [B8 a, B8 b, B8 c, nx] true 4 none)]) (by kernel_rfl) ⟨(con_clone (c) (List.length c) (by omega) (by omega)), trivial⟩ ?_
  refine AWP.region tcok hmix [] (os := []) (sf := St.mk [(2, tp (V.sl 2 0 0)), (3, tp (V.sl 3 0 3)), (5, tp (B8 c)), (11, tp (V.agg true [B8 a, B8 b, B8 c])), (12, tp (i64 3)), (13, tp (vb true)), (14, tp (B8 c)), (15, tp V.top), (16, tp (B8 c)), (17, tp (V.sl 180005 0 (List.length c))), (18, tp (V.sl 18 0 1)), (19, tp (V.sl 3 0 3)), (20, tp (i64 3))] [(2, Blk.mk [] true 0 (some (29, 1))), (3, Blk.mk [B8 a, B8 b, V.sl 180005 0 (List.length c)] false 0 (some (29, 1))), (18, Blk.mk [V.sl 180005 0 (List.length c)] false 0 (some (29, 1))), (180005, Blk.mk (u8s c) true 0 (some (5, 1))), (1000000000, Blk.mk [B8 a, B8 b, B8 c, nx] true 4 none)]) (by kernel_rfl) trivial ?_
  refine xe0 [2, 3, 5, 11, 12, 13, 14, 15, 16, 17, 18, 19, 20] [2, 3, 18, 180005, 1000000000] (by kernel_rfl) ?_
  refine AWP.seq ?_
  refine AWP.condF (by kernel_rfl) ?_
  refine AWP.exit ?_
  refine AWP.seq ?_
  refine AWP.keep' [3] [1000000000, 3, 180005] (sf := St.mk [(3, tp (V.sl 3 0 3))] [(3, Blk.mk [B8 a, B8 b, V.sl 180005 0 (List.length c)] false 0 (some (29, 1))), (180005, Blk.mk (u8s c) true 0 (some (5, 1))), (1000000000, Blk.mk [B8 a, B8 b, B8 c, nx] true 4 none)]) (by kernel_rfl) ?_
  refine xg0 [2] [1000000000, 3, 180005] (by kernel_rfl) ?_
  refine AWP.frz 180005 (s' := St.mk [(2, tp (V.sl 3 0 3))] [(3, Blk.mk [B8 a, B8 b, B8 c] true 0 (some (29, 1))), (1000000000, Blk.mk [B8 a, B8 b, B8 c, nx] true 4 none)]) (by kernel_rfl) ?_
  refine AWP.ret ?_
  refine ⟨Or.inr rfl, Eq.trans (b := some ([(3, Blk.mk [B8 a, B8 b, B8 c] true 0 (some (29, 1))), (1000000000, Blk.mk [B8 a, B8 b, B8 c, nx] true 4 none)], V.sl 3 0 3)) (by kernel_rfl) ?_⟩
  rfl
end Go.Proofs.Ytmeiemdnhjnpcaa
