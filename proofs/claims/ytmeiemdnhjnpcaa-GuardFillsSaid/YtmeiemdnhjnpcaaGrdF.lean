/- Memory that survives: with what it is begun. -/
import Derived.Test.YtmeiemdnhjnpcaaGrdD
namespace Go.Proofs.Ytmeiemdnhjnpcaa
open Go.Ab
set_option linter.unusedSimpArgs false
set_option linter.unusedVariables false
set_option maxHeartbeats 4000000
theorem con_gnewB : Con Try.prog 50 [] [] [(2, ⟨[B8 [], B8 [], B8 [], nilS], true, 4, none⟩)] (.ptr 2 0) := by
  refine Con.of (C := ⟨Try.prog, tc, Try.f50.ntmps⟩) [2] tcok Try.func50 rfl rfl (by kernel_rfl) (by kernel_rfl) ?_
  refine AWP.seq ?_
  refine AWP.regionT tcok hmix [] [0] [] (os := []) (s' := St.mk [(0, tp (V.val (Value.pointer none)))] []) (by kernel_rfl) trivial ?_
  refine AWP.seq ?_
  refine AWP.regionT tcok hmix [] [0] [2] (os := []) (s' := St.mk [(0, tp (V.ptr 2 0))] [(2, Blk.mk [nilS, nilS, nilS, nilS] true 4 none)]) (by kernel_rfl) trivial ?_
  refine AWP.wk 2 3 (s' := St.mk [(0, tp (V.ptr 2 0))] [(2, Blk.mk [B8 [], B8 [], B8 [], nilS] true 4 none)]) (by kernel_rfl) ?_
  refine AWP.ret ?_
  refine ⟨Or.inr rfl, Eq.trans (b := some ([(2, Blk.mk [B8 [], B8 [], B8 [], nilS] true 4 none)], V.ptr 2 0)) (by kernel_rfl) ?_⟩
  rfl
theorem con_gof0 : Con Try.prog 44 [] [.vs [] 0] [(60002, ⟨[B8 [], B8 [], B8 [], nilS], true, 4, none⟩)] (.ptr 60002 0) := by
  refine Con.of (C := ⟨Try.prog, tc, Try.f44.ntmps⟩) [60002, 1000000000] tcok Try.func44 rfl rfl (by kernel_rfl) (by kernel_rfl) ?_
  refine AWP.seq ?_
  refine AWP.regionT tcok hmix [] [0, 2] [] (os := []) (s' := St.mk [(0, tp (V.vs [] 0)), (2, tp (V.val (Value.pointer none)))] []) (by kernel_rfl) trivial ?_
  refine AWP.seq ?_
  refine AWP.regionT tcok hmix [(0, ⟨none, some ⟨V.ptr 2 0, [(2, Blk.mk [B8 [], B8 [], B8 [], nilS] true 4 none)], []⟩⟩)] [0, 2, 3] [60002] (os := [Con Try.prog 50 [] [] [(2, Blk.mk [V.vs [] 0, V.vs [] 0, V.vs [] 0, V.val (Value.slice none 0 0)] true 4 none)] (V.ptr 2 0)]) (s' := St.mk [(0, tp (V.vs [] 0)), (2, tp (V.val (Value.pointer none))), (3, tp (V.ptr 60002 0))] [(60002, Blk.mk [V.vs [] 0, V.vs [] 0, V.vs [] 0, V.val (Value.slice none 0 0)] true 4 none)]) (by kernel_rfl) ⟨(con_gnewB ), trivial⟩ ?_
  refine AWP.seq ?_
  refine AWP.seq ?_
  refine AWP.regionT tcok hmix [] [0, 2, 3, 8, 9] [60002] (os := []) (s' := St.mk [(0, tp (V.vs [] 0)), (2, tp (V.val (Value.pointer none))), (3, tp (V.ptr 60002 0)), (8, tp (i64 0)), (9, tp (i64 0))] [(60002, Blk.mk [V.vs [] 0, V.vs [] 0, V.vs [] 0, V.val (Value.slice none 0 0)] true 4 none)]) (by kernel_rfl) trivial ?_
  refine AWP.block ?_
  refine AWP.unroll 8 ?_
  refine AWP.seq ?_
  refine AWP.regionT tcok hmix [] [0, 2, 3, 8, 9, 10] [60002] (os := []) (s' := St.mk [(0, tp (V.vs [] 0)), (2, tp (V.val (Value.pointer none))), (3, tp (V.ptr 60002 0)), (8, tp (i64 0)), (9, tp (i64 0)), (10, tp (vb false))] [(60002, Blk.mk [V.vs [] 0, V.vs [] 0, V.vs [] 0, V.val (Value.slice none 0 0)] true 4 none)]) (by kernel_rfl) trivial ?_
  refine AWP.seq ?_
  refine AWP.cond (b := false) (by kernel_rfl) (fun h => by cases h) (fun _ => ?_)
  refine AWP.exit ?_
  refine AWP.seq ?_
  refine AWP.regionT tcok hmix [] [2] [60002] (os := []) (s' := St.mk [(2, tp (V.ptr 60002 0))] [(60002, Blk.mk [V.vs [] 0, V.vs [] 0, V.vs [] 0, V.val (Value.slice none 0 0)] true 4 none)]) (by kernel_rfl) trivial ?_
  refine AWP.ret ?_
  refine ⟨Or.inr rfl, Eq.trans (b := some ([(60002, Blk.mk [V.vs [] 0, V.vs [] 0, V.vs [] 0, V.val (Value.slice none 0 0)] true 4 none)], V.ptr 60002 0)) (by kernel_rfl) ?_⟩
  rfl
theorem con_gof1 (a : List Int) (ha : a.length ≤ 1000000) : Con Try.prog 44 [] [.vs [B8 a] 1] [(60002, ⟨[B8 a, B8 [], B8 [], nilS], true, 4, none⟩)] (.ptr 60002 0) := by
  refine Con.of (C := ⟨Try.prog, tc, Try.f44.ntmps⟩) [60002, 1000000000] tcok Try.func44 rfl rfl (by kernel_rfl) (by kernel_rfl) ?_
  refine AWP.seq ?_
  refine AWP.regionT tcok hmix [] [0, 2] [] (os := []) (s' := St.mk [(0, tp (V.vs [B8 a] 1)), (2, tp (V.val (Value.pointer none)))] []) (by kernel_rfl) trivial ?_
  refine AWP.seq ?_
  refine AWP.regionT tcok hmix [(0, ⟨none, some ⟨V.ptr 2 0, [(2, Blk.mk [B8 [], B8 [], B8 [], nilS] true 4 none)], []⟩⟩)] [0, 2, 3] [60002] (os := [Con Try.prog 50 [] [] [(2, Blk.mk [V.vs [] 0, V.vs [] 0, V.vs [] 0, V.val (Value.slice none 0 0)] true 4 none)] (V.ptr 2 0)]) (s' := St.mk [(0, tp (V.vs [B8 a] 1)), (2, tp (V.val (Value.pointer none))), (3, tp (V.ptr 60002 0))] [(60002, Blk.mk [V.vs [] 0, V.vs [] 0, V.vs [] 0, V.val (Value.slice none 0 0)] true 4 none)]) (by kernel_rfl) ⟨(con_gnewB ), trivial⟩ ?_
  refine AWP.seq ?_
  refine AWP.seq ?_
  refine AWP.regionT tcok hmix [] [0, 2, 3, 8, 9] [60002] (os := []) (s' := St.mk [(0, tp (V.vs [B8 a] 1)), (2, tp (V.val (Value.pointer none))), (3, tp (V.ptr 60002 0)), (8, tp (i64 1)), (9, tp (i64 0))] [(60002, Blk.mk [V.vs [] 0, V.vs [] 0, V.vs [] 0, V.val (Value.slice none 0 0)] true 4 none)]) (by kernel_rfl) trivial ?_
  refine AWP.block ?_
  refine AWP.unroll 8 ?_
  refine AWP.seq ?_
  refine AWP.regionT tcok hmix [] [0, 2, 3, 8, 9, 10] [60002] (os := []) (s' := St.mk [(0, tp (V.vs [B8 a] 1)), (2, tp (V.val (Value.pointer none))), (3, tp (V.ptr 60002 0)), (8, tp (i64 1)), (9, tp (i64 0)), (10, tp (vb true))] [(60002, Blk.mk [V.vs [] 0, V.vs [] 0, V.vs [] 0, V.val (Value.slice none 0 0)] true 4 none)]) (by kernel_rfl) trivial ?_
  refine AWP.seq ?_
  refine AWP.cond (b := true) (by kernel_rfl) (fun _ => ?_) (fun h => by cases h)
  refine AWP.skip ?_
  refine AWP.seq ?_
  refine AWP.block ?_
  refine AWP.seq ?_
  refine AWP.regionT tcok hmix [] [0, 2, 3, 4, 8, 9, 10, 11] [60002] (os := []) (s' := St.mk [(0, tp (V.vs [B8 a] 1)), (2, tp (V.val (Value.pointer none))), (3, tp (V.ptr 60002 0)), (4, tp (i64 0)), (8, tp (i64 1)), (9, tp (i64 0)), (10, tp (vb true)), (11, tp (i64 0))] [(60002, Blk.mk [V.vs [] 0, V.vs [] 0, V.vs [] 0, V.val (Value.slice none 0 0)] true 4 none)]) (by kernel_rfl) trivial ?_
  refine AWP.region tcok hmix [(6, ⟨none, some ⟨V.sl 5 0 (List.length a), [(5, Blk.mk (u8s a) true 0 (some (5, 1)))], []⟩⟩)] (os := [Con Try.prog 68 [] [B8 a] [(5, Blk.mk (u8s a) true 0 (some (5, 1)))] (V.sl 5 0 (List.length a))]) (sf := St.mk [(0, tp (V.vs [B8 a] 1)), (2, tp (V.val (Value.pointer none))), (3, tp (V.ptr 60002 0)), (4, tp (i64 0)), (8, tp (i64 1)), (9, tp (i64 0)), (10, tp (vb true)), (11, tp (i64 0)), (12, tp (V.ptr 60002 0)), (13, tp (i64 0)), (14, tp (V.vs [B8 a] 1)), (15, tp (i64 0)), (16, tp (V.vp [B8 a])), (17, tp (B8 a)), (18, tp (V.sl 190005 0 (List.length a))), (19, tp (V.ptr 60002 0)), (20, tp (V.ptr 60002 0)), (21, tp (V.ptr 60002 0))] [(60002, Blk.mk [V.sl 190005 0 (List.length a), V.vs [] 0, V.vs [] 0, V.val (Value.slice none 0 0)] false 4 none), (190005, Blk.mk (u8s a) true 0 (some (5, 1)))]) (by kernel_rfl) ⟨(con_clone (a) (List.length a) (by omega) (by omega)), trivial⟩ ?_
  refine AWP.region tcok hmix [] (os := []) (sf := St.mk [(0, tp (V.vs [B8 a] 1)), (2, tp (V.val (Value.pointer none))), (3, tp (V.ptr 60002 0)), (4, tp (i64 0)), (8, tp (i64 1)), (9, tp (i64 1)), (10, tp (vb true)), (11, tp (i64 0)), (12, tp (V.ptr 60002 0)), (13, tp (i64 0)), (14, tp (V.vs [B8 a] 1)), (15, tp (i64 0)), (16, tp (V.vp [B8 a])), (17, tp (B8 a)), (18, tp (V.sl 190005 0 (List.length a))), (19, tp (V.ptr 60002 0)), (20, tp (V.ptr 60002 0)), (21, tp (V.ptr 60002 0)), (22, tp (i64 1))] [(60002, Blk.mk [V.sl 190005 0 (List.length a), V.vs [] 0, V.vs [] 0, V.val (Value.slice none 0 0)] false 4 none), (190005, Blk.mk (u8s a) true 0 (some (5, 1)))]) (by kernel_rfl) trivial ?_
  refine AWP.seq ?_
  refine AWP.regionT tcok hmix [] [0, 2, 3, 4, 8, 9, 10, 11, 12, 13, 14, 15, 16, 17, 18, 19, 20, 21, 22] [60002, 190005] (os := []) (s' := St.mk [(0, tp (V.vs [B8 a] 1)), (2, tp (V.val (Value.pointer none))), (3, tp (V.ptr 60002 0)), (4, tp (i64 0)), (8, tp (i64 1)), (9, tp (i64 1)), (10, tp (vb false)), (11, tp (i64 0)), (12, tp (V.ptr 60002 0)), (13, tp (i64 0)), (14, tp (V.vs [B8 a] 1)), (15, tp (i64 0)), (16, tp (V.vp [B8 a])), (17, tp (B8 a)), (18, tp (V.sl 190005 0 (List.length a))), (19, tp (V.ptr 60002 0)), (20, tp (V.ptr 60002 0)), (21, tp (V.ptr 60002 0)), (22, tp (i64 1))] [(60002, Blk.mk [V.sl 190005 0 (List.length a), V.vs [] 0, V.vs [] 0, V.val (Value.slice none 0 0)] false 4 none), (190005, Blk.mk (u8s a) true 0 (some (5, 1)))]) (by kernel_rfl) trivial ?_
  refine AWP.seq ?_
  refine AWP.cond (b := false) (by kernel_rfl) (fun h => by cases h) (fun _ => ?_)
  refine AWP.exit ?_
  refine AWP.seq ?_
  refine AWP.regionT tcok hmix [] [2] [60002, 190005] (os := []) (s' := St.mk [(2, tp (V.ptr 60002 0))] [(60002, Blk.mk [V.sl 190005 0 (List.length a), V.vs [] 0, V.vs [] 0, V.val (Value.slice none 0 0)] false 4 none), (190005, Blk.mk (u8s a) true 0 (some (5, 1)))]) (by kernel_rfl) trivial ?_
  refine AWP.frz 190005 (s' := St.mk [(2, tp (V.ptr 60002 0))] [(60002, Blk.mk [B8 a, V.vs [] 0, V.vs [] 0, V.val (Value.slice none 0 0)] true 4 none)]) (by kernel_rfl) ?_
  refine AWP.ret ?_
  refine ⟨Or.inr rfl, Eq.trans (b := some ([(60002, Blk.mk [B8 a, V.vs [] 0, V.vs [] 0, V.val (Value.slice none 0 0)] true 4 none)], V.ptr 60002 0)) (by kernel_rfl) ?_⟩
  rfl
theorem con_gof2 (a b : List Int) (ha : a.length ≤ 1000000) (hb : b.length ≤ 1000000) : Con Try.prog 44 [] [.vs [B8 a, B8 b] 2] [(60002, ⟨[B8 a, B8 b, B8 [], nilS], true, 4, none⟩)] (.ptr 60002 0) := by
  refine Con.of (C := ⟨Try.prog, tc, Try.f44.ntmps⟩) [60002, 1000000000] tcok Try.func44 rfl rfl (by kernel_rfl) (by kernel_rfl) ?_
  refine AWP.seq ?_
  refine AWP.regionT tcok hmix [] [0, 2] [] (os := []) (s' := St.mk [(0, tp (V.vs [B8 a, B8 b] 2)), (2, tp (V.val (Value.pointer none)))] []) (by kernel_rfl) trivial ?_
  refine AWP.seq ?_
  refine AWP.regionT tcok hmix [(0, ⟨none, some ⟨V.ptr 2 0, [(2, Blk.mk [B8 [], B8 [], B8 [], nilS] true 4 none)], []⟩⟩)] [0, 2, 3] [60002] (os := [Con Try.prog 50 [] [] [(2, Blk.mk [V.vs [] 0, V.vs [] 0, V.vs [] 0, V.val (Value.slice none 0 0)] true 4 none)] (V.ptr 2 0)]) (s' := St.mk [(0, tp (V.vs [B8 a, B8 b] 2)), (2, tp (V.val (Value.pointer none))), (3, tp (V.ptr 60002 0))] [(60002, Blk.mk [V.vs [] 0, V.vs [] 0, V.vs [] 0, V.val (Value.slice none 0 0)] true 4 none)]) (by kernel_rfl) ⟨(con_gnewB ), trivial⟩ ?_
  refine AWP.seq ?_
  refine AWP.seq ?_
  refine AWP.regionT tcok hmix [] [0, 2, 3, 8, 9] [60002] (os := []) (s' := St.mk [(0, tp (V.vs [B8 a, B8 b] 2)), (2, tp (V.val (Value.pointer none))), (3, tp (V.ptr 60002 0)), (8, tp (i64 2)), (9, tp (i64 0))] [(60002, Blk.mk [V.vs [] 0, V.vs [] 0, V.vs [] 0, V.val (Value.slice none 0 0)] true 4 none)]) (by kernel_rfl) trivial ?_
  refine AWP.block ?_
  refine AWP.unroll 8 ?_
  refine AWP.seq ?_
  refine AWP.regionT tcok hmix [] [0, 2, 3, 8, 9, 10] [60002] (os := []) (s' := St.mk [(0, tp (V.vs [B8 a, B8 b] 2)), (2, tp (V.val (Value.pointer none))), (3, tp (V.ptr 60002 0)), (8, tp (i64 2)), (9, tp (i64 0)), (10, tp (vb true))] [(60002, Blk.mk [V.vs [] 0, V.vs [] 0, V.vs [] 0, V.val (Value.slice none 0 0)] true 4 none)]) (by kernel_rfl) trivial ?_
  refine AWP.seq ?_
  refine AWP.cond (b := true) (by kernel_rfl) (fun _ => ?_) (fun h => by cases h)
  refine AWP.skip ?_
  refine AWP.seq ?_
  refine AWP.block ?_
  refine AWP.seq ?_
  refine AWP.regionT tcok hmix [] [0, 2, 3, 4, 8, 9, 10, 11] [60002] (os := []) (s' := St.mk [(0, tp (V.vs [B8 a, B8 b] 2)), (2, tp (V.val (Value.pointer none))), (3, tp (V.ptr 60002 0)), (4, tp (i64 0)), (8, tp (i64 2)), (9, tp (i64 0)), (10, tp (vb true)), (11, tp (i64 0))] [(60002, Blk.mk [V.vs [] 0, V.vs [] 0, V.vs [] 0, V.val (Value.slice none 0 0)] true 4 none)]) (by kernel_rfl) trivial ?_
  refine AWP.region tcok hmix [(6, ⟨none, some ⟨V.sl 5 0 (List.length a), [(5, Blk.mk (u8s a) true 0 (some (5, 1)))], []⟩⟩)] (os := [Con Try.prog 68 [] [B8 a] [(5, Blk.mk (u8s a) true 0 (some (5, 1)))] (V.sl 5 0 (List.length a))]) (sf := St.mk [(0, tp (V.vs [B8 a, B8 b] 2)), (2, tp (V.val (Value.pointer none))), (3, tp (V.ptr 60002 0)), (4, tp (i64 0)), (8, tp (i64 2)), (9, tp (i64 0)), (10, tp (vb true)), (11, tp (i64 0)), (12, tp (V.ptr 60002 0)), (13, tp (i64 0)), (14, tp (V.vs [B8 a, B8 b] 2)), (15, tp (i64 0)), (16, tp (V.vp [B8 a, B8 b])), (17, tp (B8 a)), (18, tp (V.sl 190005 0 (List.length a))), (19, tp (V.ptr 60002 0)), (20, tp (V.ptr 60002 0)), (21, tp (V.ptr 60002 0))] [(60002, Blk.mk [V.sl 190005 0 (List.length a), V.vs [] 0, V.vs [] 0, V.val (Value.slice none 0 0)] false 4 none), (190005, Blk.mk (u8s a) true 0 (some (5, 1)))]) (by kernel_rfl) ⟨(con_clone (a) (List.length a) (by omega) (by omega)), trivial⟩ ?_
  refine AWP.region tcok hmix [] (os := []) (sf := St.mk [(0, tp (V.vs [B8 a, B8 b] 2)), (2, tp (V.val (Value.pointer none))), (3, tp (V.ptr 60002 0)), (4, tp (i64 0)), (8, tp (i64 2)), (9, tp (i64 1)), (10, tp (vb true)), (11, tp (i64 0)), (12, tp (V.ptr 60002 0)), (13, tp (i64 0)), (14, tp (V.vs [B8 a, B8 b] 2)), (15, tp (i64 0)), (16, tp (V.vp [B8 a, B8 b])), (17, tp (B8 a)), (18, tp (V.sl 190005 0 (List.length a))), (19, tp (V.ptr 60002 0)), (20, tp (V.ptr 60002 0)), (21, tp (V.ptr 60002 0)), (22, tp (i64 1))] [(60002, Blk.mk [V.sl 190005 0 (List.length a), V.vs [] 0, V.vs [] 0, V.val (Value.slice none 0 0)] false 4 none), (190005, Blk.mk (u8s a) true 0 (some (5, 1)))]) (by kernel_rfl) trivial ?_
  refine AWP.seq ?_
  refine AWP.regionT tcok hmix [] [0, 2, 3, 4, 8, 9, 10, 11, 12, 13, 14, 15, 16, 17, 18, 19, 20, 21, 22] [60002, 190005] (os := []) (s' := St.mk [(0, tp (V.vs [B8 a, B8 b] 2)), (2, tp (V.val (Value.pointer none))), (3, tp (V.ptr 60002 0)), (4, tp (i64 0)), (8, tp (i64 2)), (9, tp (i64 1)), (10, tp (vb true)), (11, tp (i64 0)), (12, tp (V.ptr 60002 0)), (13, tp (i64 0)), (14, tp (V.vs [B8 a, B8 b] 2)), (15, tp (i64 0)), (16, tp (V.vp [B8 a, B8 b])), (17, tp (B8 a)), (18, tp (V.sl 190005 0 (List.length a))), (19, tp (V.ptr 60002 0)), (20, tp (V.ptr 60002 0)), (21, tp (V.ptr 60002 0)), (22, tp (i64 1))] [(60002, Blk.mk [V.sl 190005 0 (List.length a), V.vs [] 0, V.vs [] 0, V.val (Value.slice none 0 0)] false 4 none), (190005, Blk.mk (u8s a) true 0 (some (5, 1)))]) (by kernel_rfl) trivial ?_
  refine AWP.seq ?_
  refine AWP.cond (b := true) (by kernel_rfl) (fun _ => ?_) (fun h => by cases h)
  refine AWP.skip ?_
  refine AWP.seq ?_
  refine AWP.block ?_
  refine AWP.seq ?_
  refine AWP.regionT tcok hmix [] [0, 2, 3, 4, 8, 9, 10, 11, 12, 13, 14, 15, 16, 17, 18, 19, 20, 21, 22] [60002, 190005] (os := []) (s' := St.mk [(0, tp (V.vs [B8 a, B8 b] 2)), (2, tp (V.val (Value.pointer none))), (3, tp (V.ptr 60002 0)), (4, tp (i64 1)), (8, tp (i64 2)), (9, tp (i64 1)), (10, tp (vb true)), (11, tp (i64 1)), (12, tp (V.ptr 60002 0)), (13, tp (i64 0)), (14, tp (V.vs [B8 a, B8 b] 2)), (15, tp (i64 0)), (16, tp (V.vp [B8 a, B8 b])), (17, tp (B8 a)), (18, tp (V.sl 190005 0 (List.length a))), (19, tp (V.ptr 60002 0)), (20, tp (V.ptr 60002 0)), (21, tp (V.ptr 60002 0)), (22, tp (i64 1))] [(60002, Blk.mk [V.sl 190005 0 (List.length a), V.vs [] 0, V.vs [] 0, V.val (Value.slice none 0 0)] false 4 none), (190005, Blk.mk (u8s a) true 0 (some (5, 1)))]) (by kernel_rfl) trivial ?_
  refine AWP.keep' [0, 2, 3, 4, 8, 9, 10, 11, 22] [60002, 190005] (sf := St.mk [(0, tp (V.vs [B8 a, B8 b] 2)), (2, tp (V.val (Value.pointer none))), (3, tp (V.ptr 60002 0)), (4, tp (i64 1)), (8, tp (i64 2)), (9, tp (i64 1)), (10, tp (vb true)), (11, tp (i64 1)), (22, tp (i64 1))] [(60002, Blk.mk [V.sl 190005 0 (List.length a), V.vs [] 0, V.vs [] 0, V.val (Value.slice none 0 0)] false 4 none), (190005, Blk.mk (u8s a) true 0 (some (5, 1)))]) (by kernel_rfl) ?_
  refine AWP.frz 190005 (s' := St.mk [(0, tp (V.vs [B8 a, B8 b] 2)), (2, tp (V.val (Value.pointer none))), (3, tp (V.ptr 60002 0)), (4, tp (i64 1)), (8, tp (i64 2)), (9, tp (i64 1)), (10, tp (vb true)), (11, tp (i64 1)), (22, tp (i64 1))] [(60002, Blk.mk [B8 a, V.vs [] 0, V.vs [] 0, V.val (Value.slice none 0 0)] true 4 none)]) (by kernel_rfl) ?_
  refine AWP.region tcok hmix [(6, ⟨none, some ⟨V.sl 5 0 (List.length b), [(5, Blk.mk (u8s b) true 0 (some (5, 1)))], []⟩⟩)] (os := [Con Try.prog 68 [] [B8 b] [(5, Blk.mk (u8s b) true 0 (some (5, 1)))] (V.sl 5 0 (List.length b))]) (sf := St.mk [(0, tp (V.vs [B8 a, B8 b] 2)), (2, tp (V.val (Value.pointer none))), (3, tp (V.ptr 60002 0)), (4, tp (i64 1)), (8, tp (i64 2)), (9, tp (i64 1)), (10, tp (vb true)), (11, tp (i64 1)), (12, tp (V.ptr 60002 0)), (13, tp (i64 1)), (14, tp (V.vs [B8 a, B8 b] 2)), (15, tp (i64 1)), (16, tp (V.vp [B8 b])), (17, tp (B8 b)), (18, tp (V.sl 190005 0 (List.length b))), (19, tp (V.ptr 60002 0)), (20, tp (V.ptr 60002 0)), (21, tp (V.ptr 60002 1)), (22, tp (i64 1))] [(60002, Blk.mk [B8 a, V.sl 190005 0 (List.length b), V.vs [] 0, V.val (Value.slice none 0 0)] false 4 none), (190005, Blk.mk (u8s b) true 0 (some (5, 1)))]) (by kernel_rfl) ⟨(con_clone (b) (List.length b) (by omega) (by omega)), trivial⟩ ?_
  refine AWP.region tcok hmix [] (os := []) (sf := St.mk [(0, tp (V.vs [B8 a, B8 b] 2)), (2, tp (V.val (Value.pointer none))), (3, tp (V.ptr 60002 0)), (4, tp (i64 1)), (8, tp (i64 2)), (9, tp (i64 2)), (10, tp (vb true)), (11, tp (i64 1)), (12, tp (V.ptr 60002 0)), (13, tp (i64 1)), (14, tp (V.vs [B8 a, B8 b] 2)), (15, tp (i64 1)), (16, tp (V.vp [B8 b])), (17, tp (B8 b)), (18, tp (V.sl 190005 0 (List.length b))), (19, tp (V.ptr 60002 0)), (20, tp (V.ptr 60002 0)), (21, tp (V.ptr 60002 1)), (22, tp (i64 2))] [(60002, Blk.mk [B8 a, V.sl 190005 0 (List.length b), V.vs [] 0, V.val (Value.slice none 0 0)] false 4 none), (190005, Blk.mk (u8s b) true 0 (some (5, 1)))]) (by kernel_rfl) trivial ?_
  refine AWP.seq ?_
  refine AWP.regionT tcok hmix [] [0, 2, 3, 4, 8, 9, 10, 11, 12, 13, 14, 15, 16, 17, 18, 19, 20, 21, 22] [60002, 190005] (os := []) (s' := St.mk [(0, tp (V.vs [B8 a, B8 b] 2)), (2, tp (V.val (Value.pointer none))), (3, tp (V.ptr 60002 0)), (4, tp (i64 1)), (8, tp (i64 2)), (9, tp (i64 2)), (10, tp (vb false)), (11, tp (i64 1)), (12, tp (V.ptr 60002 0)), (13, tp (i64 1)), (14, tp (V.vs [B8 a, B8 b] 2)), (15, tp (i64 1)), (16, tp (V.vp [B8 b])), (17, tp (B8 b)), (18, tp (V.sl 190005 0 (List.length b))), (19, tp (V.ptr 60002 0)), (20, tp (V.ptr 60002 0)), (21, tp (V.ptr 60002 1)), (22, tp (i64 2))] [(60002, Blk.mk [B8 a, V.sl 190005 0 (List.length b), V.vs [] 0, V.val (Value.slice none 0 0)] false 4 none), (190005, Blk.mk (u8s b) true 0 (some (5, 1)))]) (by kernel_rfl) trivial ?_
  refine AWP.seq ?_
  refine AWP.cond (b := false) (by kernel_rfl) (fun h => by cases h) (fun _ => ?_)
  refine AWP.exit ?_
  refine AWP.seq ?_
  refine AWP.regionT tcok hmix [] [2] [60002, 190005] (os := []) (s' := St.mk [(2, tp (V.ptr 60002 0))] [(60002, Blk.mk [B8 a, V.sl 190005 0 (List.length b), V.vs [] 0, V.val (Value.slice none 0 0)] false 4 none), (190005, Blk.mk (u8s b) true 0 (some (5, 1)))]) (by kernel_rfl) trivial ?_
  refine AWP.frz 190005 (s' := St.mk [(2, tp (V.ptr 60002 0))] [(60002, Blk.mk [B8 a, B8 b, V.vs [] 0, V.val (Value.slice none 0 0)] true 4 none)]) (by kernel_rfl) ?_
  refine AWP.ret ?_
  refine ⟨Or.inr rfl, Eq.trans (b := some ([(60002, Blk.mk [B8 a, B8 b, V.vs [] 0, V.val (Value.slice none 0 0)] true 4 none)], V.ptr 60002 0)) (by kernel_rfl) ?_⟩
  rfl
theorem con_gof3 (a b c : List Int) (ha : a.length ≤ 1000000) (hb : b.length ≤ 1000000) (hc : c.length ≤ 1000000) : Con Try.prog 44 [] [.vs [B8 a, B8 b, B8 c] 3] [(60002, ⟨[B8 a, B8 b, B8 c, nilS], true, 4, none⟩)] (.ptr 60002 0) := by
  refine Con.of (C := ⟨Try.prog, tc, Try.f44.ntmps⟩) [60002, 1000000000] tcok Try.func44 rfl rfl (by kernel_rfl) (by kernel_rfl) ?_
  refine AWP.seq ?_
  refine AWP.regionT tcok hmix [] [0, 2] [] (os := []) (s' := St.mk [(0, tp (V.vs [B8 a, B8 b, B8 c] 3)), (2, tp (V.val (Value.pointer none)))] []) (by kernel_rfl) trivial ?_
  refine AWP.seq ?_
  refine AWP.regionT tcok hmix [(0, ⟨none, some ⟨V.ptr 2 0, [(2, Blk.mk [B8 [], B8 [], B8 [], nilS] true 4 none)], []⟩⟩)] [0, 2, 3] [60002] (os := [Con Try.prog 50 [] [] [(2, Blk.mk [V.vs [] 0, V.vs [] 0, V.vs [] 0, V.val (Value.slice none 0 0)] true 4 none)] (V.ptr 2 0)]) (s' := St.mk [(0, tp (V.vs [B8 a, B8 b, B8 c] 3)), (2, tp (V.val (Value.pointer none))), (3, tp (V.ptr 60002 0))] [(60002, Blk.mk [V.vs [] 0, V.vs [] 0, V.vs [] 0, V.val (Value.slice none 0 0)] true 4 none)]) (by kernel_rfl) ⟨(con_gnewB ), trivial⟩ ?_
  refine AWP.seq ?_
  refine AWP.seq ?_
  refine AWP.regionT tcok hmix [] [0, 2, 3, 8, 9] [60002] (os := []) (s' := St.mk [(0, tp (V.vs [B8 a, B8 b, B8 c] 3)), (2, tp (V.val (Value.pointer none))), (3, tp (V.ptr 60002 0)), (8, tp (i64 3)), (9, tp (i64 0))] [(60002, Blk.mk [V.vs [] 0, V.vs [] 0, V.vs [] 0, V.val (Value.slice none 0 0)] true 4 none)]) (by kernel_rfl) trivial ?_
  refine AWP.block ?_
  refine AWP.unroll 8 ?_
  refine AWP.seq ?_
  refine AWP.regionT tcok hmix [] [0, 2, 3, 8, 9, 10] [60002] (os := []) (s' := St.mk [(0, tp (V.vs [B8 a, B8 b, B8 c] 3)), (2, tp (V.val (Value.pointer none))), (3, tp (V.ptr 60002 0)), (8, tp (i64 3)), (9, tp (i64 0)), (10, tp (vb true))] [(60002, Blk.mk [V.vs [] 0, V.vs [] 0, V.vs [] 0, V.val (Value.slice none 0 0)] true 4 none)]) (by kernel_rfl) trivial ?_
  refine AWP.seq ?_
  refine AWP.cond (b := true) (by kernel_rfl) (fun _ => ?_) (fun h => by cases h)
  refine AWP.skip ?_
  refine AWP.seq ?_
  refine AWP.block ?_
  refine AWP.seq ?_
  refine AWP.regionT tcok hmix [] [0, 2, 3, 4, 8, 9, 10, 11] [60002] (os := []) (s' := St.mk [(0, tp (V.vs [B8 a, B8 b, B8 c] 3)), (2, tp (V.val (Value.pointer none))), (3, tp (V.ptr 60002 0)), (4, tp (i64 0)), (8, tp (i64 3)), (9, tp (i64 0)), (10, tp (vb true)), (11, tp (i64 0))] [(60002, Blk.mk [V.vs [] 0, V.vs [] 0, V.vs [] 0, V.val (Value.slice none 0 0)] true 4 none)]) (by kernel_rfl) trivial ?_
  refine AWP.region tcok hmix [(6, ⟨none, some ⟨V.sl 5 0 (List.length a), [(5, Blk.mk (u8s a) true 0 (some (5, 1)))], []⟩⟩)] (os := [Con Try.prog 68 [] [B8 a] [(5, Blk.mk (u8s a) true 0 (some (5, 1)))] (V.sl 5 0 (List.length a))]) (sf := St.mk [(0, tp (V.vs [B8 a, B8 b, B8 c] 3)), (2, tp (V.val (Value.pointer none))), (3, tp (V.ptr 60002 0)), (4, tp (i64 0)), (8, tp (i64 3)), (9, tp (i64 0)), (10, tp (vb true)), (11, tp (i64 0)), (12, tp (V.ptr 60002 0)), (13, tp (i64 0)), (14, tp (V.vs [B8 a, B8 b, B8 c] 3)), (15, tp (i64 0)), (16, tp (V.vp [B8 a, B8 b, B8 c])), (17, tp (B8 a)), (18, tp (V.sl 190005 0 (List.length a))), (19, tp (V.ptr 60002 0)), (20, tp (V.ptr 60002 0)), (21, tp (V.ptr 60002 0))] [(60002, Blk.mk [V.sl 190005 0 (List.length a), V.vs [] 0, V.vs [] 0, V.val (Value.slice none 0 0)] false 4 none), (190005, Blk.mk (u8s a) true 0 (some (5, 1)))]) (by kernel_rfl) ⟨(con_clone (a) (List.length a) (by omega) (by omega)), trivial⟩ ?_
  refine AWP.region tcok hmix [] (os := []) (sf := St.mk [(0, tp (V.vs [B8 a, B8 b, B8 c] 3)), (2, tp (V.val (Value.pointer none))), (3, tp (V.ptr 60002 0)), (4, tp (i64 0)), (8, tp (i64 3)), (9, tp (i64 1)), (10, tp (vb true)), (11, tp (i64 0)), (12, tp (V.ptr 60002 0)), (13, tp (i64 0)), (14, tp (V.vs [B8 a, B8 b, B8 c] 3)), (15, tp (i64 0)), (16, tp (V.vp [B8 a, B8 b, B8 c])), (17, tp (B8 a)), (18, tp (V.sl 190005 0 (List.length a))), (19, tp (V.ptr 60002 0)), (20, tp (V.ptr 60002 0)), (21, tp (V.ptr 60002 0)), (22, tp (i64 1))] [(60002, Blk.mk [V.sl 190005 0 (List.length a), V.vs [] 0, V.vs [] 0, V.val (Value.slice none 0 0)] false 4 none), (190005, Blk.mk (u8s a) true 0 (some (5, 1)))]) (by kernel_rfl) trivial ?_
  refine AWP.seq ?_
  refine AWP.regionT tcok hmix [] [0, 2, 3, 4, 8, 9, 10, 11, 12, 13, 14, 15, 16, 17, 18, 19, 20, 21, 22] [60002, 190005] (os := []) (s' := St.mk [(0, tp (V.vs [B8 a, B8 b, B8 c] 3)), (2, tp (V.val (Value.pointer none))), (3, tp (V.ptr 60002 0)), (4, tp (i64 0)), (8, tp (i64 3)), (9, tp (i64 1)), (10, tp (vb true)), (11, tp (i64 0)), (12, tp (V.ptr 60002 0)), (13, tp (i64 0)), (14, tp (V.vs [B8 a, B8 b, B8 c] 3)), (15, tp (i64 0)), (16, tp (V.vp [B8 a, B8 b, B8 c])), (17, tp (B8 a)), (18, tp (V.sl 190005 0 (List.length a))), (19, tp (V.ptr 60002 0)), (20, tp (V.ptr 60002 0)), (21, tp (V.ptr 60002 0)), (22, tp (i64 1))] [(60002, Blk.mk [V.sl 190005 0 (List.length a), V.vs [] 0, V.vs [] 0, V.val (Value.slice none 0 0)] false 4 none), (190005, Blk.mk (u8s a) true 0 (some (5, 1)))]) (by kernel_rfl) trivial ?_
  refine AWP.seq ?_
  refine AWP.cond (b := true) (by kernel_rfl) (fun _ => ?_) (fun h => by cases h)
  refine AWP.skip ?_
  refine AWP.seq ?_
  refine AWP.block ?_
  refine AWP.seq ?_
  refine AWP.regionT tcok hmix [] [0, 2, 3, 4, 8, 9, 10, 11, 12, 13, 14, 15, 16, 17, 18, 19, 20, 21, 22] [60002, 190005] (os := []) (s' := St.mk [(0, tp (V.vs [B8 a, B8 b, B8 c] 3)), (2, tp (V.val (Value.pointer none))), (3, tp (V.ptr 60002 0)), (4, tp (i64 1)), (8, tp (i64 3)), (9, tp (i64 1)), (10, tp (vb true)), (11, tp (i64 1)), (12, tp (V.ptr 60002 0)), (13, tp (i64 0)), (14, tp (V.vs [B8 a, B8 b, B8 c] 3)), (15, tp (i64 0)), (16, tp (V.vp [B8 a, B8 b, B8 c])), (17, tp (B8 a)), (18, tp (V.sl 190005 0 (List.length a))), (19, tp (V.ptr 60002 0)), (20, tp (V.ptr 60002 0)), (21, tp (V.ptr 60002 0)), (22, tp (i64 1))] [(60002, Blk.mk [V.sl 190005 0 (List.length a), V.vs [] 0, V.vs [] 0, V.val (Value.slice none 0 0)] false 4 none), (190005, Blk.mk (u8s a) true 0 (some (5, 1)))]) (by kernel_rfl) trivial ?_
  refine AWP.keep' [0, 2, 3, 4, 8, 9, 10, 11, 22] [60002, 190005] (sf := St.mk [(0, tp (V.vs [B8 a, B8 b, B8 c] 3)), (2, tp (V.val (Value.pointer none))), (3, tp (V.ptr 60002 0)), (4, tp (i64 1)), (8, tp (i64 3)), (9, tp (i64 1)), (10, tp (vb true)), (11, tp (i64 1)), (22, tp (i64 1))] [(60002, Blk.mk [V.sl 190005 0 (List.length a), V.vs [] 0, V.vs [] 0, V.val (Value.slice none 0 0)] false 4 none), (190005, Blk.mk (u8s a) true 0 (some (5, 1)))]) (by kernel_rfl) ?_
  refine AWP.frz 190005 (s' := St.mk [(0, tp (V.vs [B8 a, B8 b, B8 c] 3)), (2, tp (V.val (Value.pointer none))), (3, tp (V.ptr 60002 0)), (4, tp (i64 1)), (8, tp (i64 3)), (9, tp (i64 1)), (10, tp (vb true)), (11, tp (i64 1)), (22, tp (i64 1))] [(60002, Blk.mk [B8 a, V.vs [] 0, V.vs [] 0, V.val (Value.slice none 0 0)] true 4 none)]) (by kernel_rfl) ?_
  refine AWP.region tcok hmix [(6, ⟨none, some ⟨V.sl 5 0 (List.length b), [(5, Blk.mk (u8s b) true 0 (some (5, 1)))], []⟩⟩)] (os := [Con Try.prog 68 [] [B8 b] [(5, Blk.mk (u8s b) true 0 (some (5, 1)))] (V.sl 5 0 (List.length b))]) (sf := St.mk [(0, tp (V.vs [B8 a, B8 b, B8 c] 3)), (2, tp (V.val (Value.pointer none))), (3, tp (V.ptr 60002 0)), (4, tp (i64 1)), (8, tp (i64 3)), (9, tp (i64 1)), (10, tp (vb true)), (11, tp (i64 1)), (12, tp (V.ptr 60002 0)), (13, tp (i64 1)), (14, tp (V.vs [B8 a, B8 b, B8 c] 3)), (15, tp (i64 1)), (16, tp (V.vp [B8 b, B8 c])), (17, tp (B8 b)), (18, tp (V.sl 190005 0 (List.length b))), (19, tp (V.ptr 60002 0)), (20, tp (V.ptr 60002 0)), (21, tp (V.ptr 60002 1)), (22, tp (i64 1))] [(60002, Blk.mk [B8 a, V.sl 190005 0 (List.length b), V.vs [] 0, V.val (Value.slice none 0 0)] false 4 none), (190005, Blk.mk (u8s b) true 0 (some (5, 1)))]) (by kernel_rfl) ⟨(con_clone (b) (List.length b) (by omega) (by omega)), trivial⟩ ?_
  refine AWP.region tcok hmix [] (os := []) (sf := St.mk [(0, tp (V.vs [B8 a, B8 b, B8 c] 3)), (2, tp (V.val (Value.pointer none))), (3, tp (V.ptr 60002 0)), (4, tp (i64 1)), (8, tp (i64 3)), (9, tp (i64 2)), (10, tp (vb true)), (11, tp (i64 1)), (12, tp (V.ptr 60002 0)), (13, tp (i64 1)), (14, tp (V.vs [B8 a, B8 b, B8 c] 3)), (15, tp (i64 1)), (16, tp (V.vp [B8 b, B8 c])), (17, tp (B8 b)), (18, tp (V.sl 190005 0 (List.length b))), (19, tp (V.ptr 60002 0)), (20, tp (V.ptr 60002 0)), (21, tp (V.ptr 60002 1)), (22, tp (i64 2))] [(60002, Blk.mk [B8 a, V.sl 190005 0 (List.length b), V.vs [] 0, V.val (Value.slice none 0 0)] false 4 none), (190005, Blk.mk (u8s b) true 0 (some (5, 1)))]) (by kernel_rfl) trivial ?_
  refine AWP.seq ?_
  refine AWP.regionT tcok hmix [] [0, 2, 3, 4, 8, 9, 10, 11, 12, 13, 14, 15, 16, 17, 18, 19, 20, 21, 22] [60002, 190005] (os := []) (s' := St.mk [(0, tp (V.vs [B8 a, B8 b, B8 c] 3)), (2, tp (V.val (Value.pointer none))), (3, tp (V.ptr 60002 0)), (4, tp (i64 1)), (8, tp (i64 3)), (9, tp (i64 2)), (10, tp (vb true)), (11, tp (i64 1)), (12, tp (V.ptr 60002 0)), (13, tp (i64 1)), (14, tp (V.vs [B8 a, B8 b, B8 c] 3)), (15, tp (i64 1)), (16, tp (V.vp [B8 b, B8 c])), (17, tp (B8 b)), (18, tp (V.sl 190005 0 (List.length b))), (19, tp (V.ptr 60002 0)), (20, tp (V.ptr 60002 0)), (21, tp (V.ptr 60002 1)), (22, tp (i64 2))] [(60002, Blk.mk [B8 a, V.sl 190005 0 (List.length b), V.vs [] 0, V.val (Value.slice none 0 0)] false 4 none), (190005, Blk.mk (u8s b) true 0 (some (5, 1)))]) (by kernel_rfl) trivial ?_
  refine AWP.seq ?_
  refine AWP.cond (b := true) (by kernel_rfl) (fun _ => ?_) (fun h => by cases h)
  refine AWP.skip ?_
  refine AWP.seq ?_
  refine AWP.block ?_
  refine AWP.seq ?_
  refine AWP.regionT tcok hmix [] [0, 2, 3, 4, 8, 9, 10, 11, 12, 13, 14, 15, 16, 17, 18, 19, 20, 21, 22] [60002, 190005] (os := []) (s' := St.mk [(0, tp (V.vs [B8 a, B8 b, B8 c] 3)), (2, tp (V.val (Value.pointer none))), (3, tp (V.ptr 60002 0)), (4, tp (i64 2)), (8, tp (i64 3)), (9, tp (i64 2)), (10, tp (vb true)), (11, tp (i64 2)), (12, tp (V.ptr 60002 0)), (13, tp (i64 1)), (14, tp (V.vs [B8 a, B8 b, B8 c] 3)), (15, tp (i64 1)), (16, tp (V.vp [B8 b, B8 c])), (17, tp (B8 b)), (18, tp (V.sl 190005 0 (List.length b))), (19, tp (V.ptr 60002 0)), (20, tp (V.ptr 60002 0)), (21, tp (V.ptr 60002 1)), (22, tp (i64 2))] [(60002, Blk.mk [B8 a, V.sl 190005 0 (List.length b), V.vs [] 0, V.val (Value.slice none 0 0)] false 4 none), (190005, Blk.mk (u8s b) true 0 (some (5, 1)))]) (by kernel_rfl) trivial ?_
  refine AWP.keep' [0, 2, 3, 4, 8, 9, 10, 11, 22] [60002, 190005] (sf := St.mk [(0, tp (V.vs [B8 a, B8 b, B8 c] 3)), (2, tp (V.val (Value.pointer none))), (3, tp (V.ptr 60002 0)), (4, tp (i64 2)), (8, tp (i64 3)), (9, tp (i64 2)), (10, tp (vb true)), (11, tp (i64 2)), (22, tp (i64 2))] [(60002, Blk.mk [B8 a, V.sl 190005 0 (List.length b), V.vs [] 0, V.val (Value.slice none 0 0)] false 4 none), (190005, Blk.mk (u8s b) true 0 (some (5, 1)))]) (by kernel_rfl) ?_
  refine AWP.frz 190005 (s' := St.mk [(0, tp (V.vs [B8 a, B8 b, B8 c] 3)), (2, tp (V.val (Value.pointer none))), (3, tp (V.ptr 60002 0)), (4, tp (i64 2)), (8, tp (i64 3)), (9, tp (i64 2)), (10, tp (vb true)), (11, tp (i64 2)), (22, tp (i64 2))] [(60002, Blk.mk [B8 a, B8 b, V.vs [] 0, V.val (Value.slice none 0 0)] true 4 none)]) (by kernel_rfl) ?_
  refine AWP.region tcok hmix [(6, ⟨none, some ⟨V.sl 5 0 (List.length c), [(5, Blk.mk (u8s c) true 0 (some (5, 1)))], []⟩⟩)] (os := [Con Try.prog 68 [] [B8 c] [(5, Blk.mk (u8s c) true 0 (some (5, 1)))] (V.sl 5 0 (List.length c))]) (sf := St.mk [(0, tp (V.vs [B8 a, B8 b, B8 c] 3)), (2, tp (V.val (Value.pointer none))), (3, tp (V.ptr 60002 0)), (4, tp (i64 2)), (8, tp (i64 3)), (9, tp (i64 2)), (10, tp (vb true)), (11, tp (i64 2)), (12, tp (V.ptr 60002 0)), (13, tp (i64 2)), (14, tp (V.vs [B8 a, B8 b, B8 c] 3)), (15, tp (i64 2)), (16, tp (V.vp [B8 c])), (17, tp (B8 c)), (18, tp (V.sl 190005 0 (List.length c))), (19, tp (V.ptr 60002 0)), (20, tp (V.ptr 60002 0)), (21, tp (V.ptr 60002 2)), (22, tp (i64 2))] [(60002, Blk.mk [B8 a, B8 b, V.sl 190005 0 (List.length c), V.val (Value.slice none 0 0)] false 4 none), (190005, Blk.mk (u8s c) true 0 (some (5, 1)))]) (by kernel_rfl) ⟨(con_clone (c) (List.length c) (by omega) (by omega)), trivial⟩ ?_
  refine AWP.region tcok hmix [] (os := []) (sf := St.mk [(0, tp (V.vs [B8 a, B8 b, B8 c] 3)), (2, tp (V.val (Value.pointer none))), (3, tp (V.ptr 60002 0)), (4, tp (i64 2)), (8, tp (i64 3)), (9, tp (i64 3)), (10, tp (vb true)), (11, tp (i64 2)), (12, tp (V.ptr 60002 0)), (13, tp (i64 2)), (14, tp (V.vs [B8 a, B8 b, B8 c] 3)), (15, tp (i64 2)), (16, tp (V.vp [B8 c])), (17, tp (B8 c)), (18, tp (V.sl 190005 0 (List.length c))), (19, tp (V.ptr 60002 0)), (20, tp (V.ptr 60002 0)), (21, tp (V.ptr 60002 2)), (22, tp (i64 3))] [(60002, Blk.mk [B8 a, B8 b, V.sl 190005 0 (List.length c), V.val (Value.slice none 0 0)] false 4 none), (190005, Blk.mk (u8s c) true 0 (some (5, 1)))]) (by kernel_rfl) trivial ?_
  refine AWP.seq ?_
  refine AWP.regionT tcok hmix [] [0, 2, 3, 4, 8, 9, 10, 11, 12, 13, 14, 15, 16, 17, 18, 19, 20, 21, 22] [60002, 190005] (os := []) (s' := St.mk [(0, tp (V.vs [B8 a, B8 b, B8 c] 3)), (2, tp (V.val (Value.pointer none))), (3, tp (V.ptr 60002 0)), (4, tp (i64 2)), (8, tp (i64 3)), (9, tp (i64 3)), (10, tp (vb false)), (11, tp (i64 2)), (12, tp (V.ptr 60002 0)), (13, tp (i64 2)), (14, tp (V.vs [B8 a, B8 b, B8 c] 3)), (15, tp (i64 2)), (16, tp (V.vp [B8 c])), (17, tp (B8 c)), (18, tp (V.sl 190005 0 (List.length c))), (19, tp (V.ptr 60002 0)), (20, tp (V.ptr 60002 0)), (21, tp (V.ptr 60002 2)), (22, tp (i64 3))] [(60002, Blk.mk [B8 a, B8 b, V.sl 190005 0 (List.length c), V.val (Value.slice none 0 0)] false 4 none), (190005, Blk.mk (u8s c) true 0 (some (5, 1)))]) (by kernel_rfl) trivial ?_
  refine AWP.seq ?_
  refine AWP.cond (b := false) (by kernel_rfl) (fun h => by cases h) (fun _ => ?_)
  refine AWP.exit ?_
  refine AWP.seq ?_
  refine AWP.regionT tcok hmix [] [2] [60002, 190005] (os := []) (s' := St.mk [(2, tp (V.ptr 60002 0))] [(60002, Blk.mk [B8 a, B8 b, V.sl 190005 0 (List.length c), V.val (Value.slice none 0 0)] false 4 none), (190005, Blk.mk (u8s c) true 0 (some (5, 1)))]) (by kernel_rfl) trivial ?_
  refine AWP.frz 190005 (s' := St.mk [(2, tp (V.ptr 60002 0))] [(60002, Blk.mk [B8 a, B8 b, B8 c, V.val (Value.slice none 0 0)] true 4 none)]) (by kernel_rfl) ?_
  refine AWP.ret ?_
  refine ⟨Or.inr rfl, Eq.trans (b := some ([(60002, Blk.mk [B8 a, B8 b, B8 c, V.val (Value.slice none 0 0)] true 4 none)], V.ptr 60002 0)) (by kernel_rfl) ?_⟩
  rfl
theorem con_gof (ls : List (List Int)) (k : Nat) (hk : ls.length = k) (hk3 : k ≤ 3) (hl : ∀ x ∈ ls, BL x ∧ x.length ≤ 60) : Con Try.prog 44 [] [.vs (LL ls) k] [(60002, ⟨[B8 (ls.getD 0 []), B8 (ls.getD 1 []), B8 (ls.getD 2 []), nilS], true, 4, none⟩)] (.ptr 60002 0) := by
  subst hk
  match ls, hk3, hl with
  | [], _, _ => exact con_gof0
  | [a], _, h => exact con_gof1 a (by have := (h a (by simp)).2; omega)
  | [a, b], _, h => exact con_gof2 a b (by have := (h a (by simp)).2; omega) (by have := (h b (by simp)).2; omega)
  | [a, b, c], _, h => exact con_gof3 a b c (by have := (h a (by simp)).2; omega) (by have := (h b (by simp)).2; omega) (by have := (h c (by simp)).2; omega)
def tops (ls : List (List Int)) : Int := ls.foldl (fun t x => imax t (cNo x)) 0
theorem tops3 (ls : List (List Int)) (h : ls.length ≤ 3) (hl : ∀ x ∈ ls, BL x ∧ x.length ≤ 60) : top3 (ls.getD 0 []) (ls.getD 1 []) (ls.getD 2 []) = tops ls := by
  have e : cNo [] = 0 := rfl
  match ls, h, hl with
  | [], _, _ => rfl
  | [a], _, h =>
    have := cNo_bd (h a (by simp)).1
    show imax (imax (imax 0 (cNo a)) (cNo [])) (cNo []) = imax 0 (cNo a)
    rw [e]
    unfold imax
    (repeat' split) <;> omega
  | [a, b], _, h =>
    have := cNo_bd (h a (by simp)).1
    have := cNo_bd (h b (by simp)).1
    show imax (imax (imax 0 (cNo a)) (cNo b)) (cNo []) = imax (imax 0 (cNo a)) (cNo b)
    rw [e]
    unfold imax
    (repeat' split) <;> omega
  | [a, b, c], _, _ => rfl
theorem LL_snoc (ls : List (List Int)) (x : List Int) : LL (ls ++ [x]) = LL ls ++ [B8 x] := by simp [LL]
theorem tops_snoc (ls : List (List Int)) (x : List Int) : tops (ls ++ [x]) = imax (tops ls) (cNo x) := by simp [tops]
theorem con_gbegin_f (a b c : List Int) (ha : BL a) (hb : BL b) (hc : BL c) (hla : a.length ≤ 1000000) (hlb : b.length ≤ 1000000) (hlc : c.length ≤ 1000000) (p : List Int) (n : Nat) (hp : BL p) (hn : p.length = n) (hl : n ≤ 200) (ht : top3 a b c = 4294967295) : Con Try.prog 45 [(1000000000, ⟨[B8 a, B8 b, B8 c, nilS], true, 4, none⟩)] [.ptr 1000000000 0, .vs (u8s p) n] [(1000000000, ⟨[B8 a, B8 b, B8 c, nilS], true, 4, none⟩)] (i64 6) := by
  have cm := con_made_f a b c ha hb hc hla hlb hlc p n hp hn nilS hl ht
  refine Con.of (C := ⟨Try.prog, tc, Try.f45.ntmps⟩) [1000000000] tcok Try.func45 rfl rfl (by kernel_rfl) (by kernel_rfl) ?_
  refine AWP.seq ?_
  refine AWP.regionT tcok hmix [] [0, 1, 4] [1000000000] (os := []) (s' := St.mk [(0, tp (V.ptr 1000000000 0)), (1, tp (V.vs (u8s p) n)), (4, tp (i64 0))] [(1000000000, Blk.mk [B8 a, B8 b, B8 c, V.val (Value.slice none 0 0)] true 4 none)]) (by kernel_rfl) trivial ?_
  refine AWP.seq ?_
  refine AWP.seq ?_
  refine AWP.regionT tcok hmix [] [0, 1, 4, 8] [1000000000] (os := []) (s' := St.mk [(0, tp (V.ptr 1000000000 0)), (1, tp (V.vs (u8s p) n)), (4, tp (i64 0)), (8, tp (vb false))] [(1000000000, Blk.mk [B8 a, B8 b, B8 c, V.val (Value.slice none 0 0)] true 4 none)]) (by kernel_rfl) trivial ?_
  refine AWP.cond (b := false) (by kernel_rfl) (fun h => by cases h) (fun _ => ?_)
  refine AWP.skip ?_
  refine AWP.seq ?_
  refine AWP.regionT tcok hmix [(2, ⟨none, some ⟨V.tup [V.sl 4 0 0, i64 6], [(4, Blk.mk [] true 0 (some (5, 1)))], [(1000000000, true)]⟩⟩)] [0, 4, 5, 6] [1000000000, 130004] (os := [VO (V.tup [V.sl (4 : Nat) (0 : Nat) (0 : Nat), i64 (6 : Int)]), VOH [((4 : Nat), Blk.mk [] true (0 : Nat) (some ((5 : Nat), (1 : Nat))))], Con Try.prog 73 [] [V.vp [B8 a, B8 b, B8 c, V.val (Value.slice none 0 0)], V.vs (u8s p) n] [(4, Blk.mk [] true 0 (some (5, 1)))] (V.tup [V.sl 4 0 0, i64 6])]) (s' := St.mk [(0, tp (V.ptr 1000000000 0)), (4, tp (i64 0)), (5, tp (V.sl 130004 0 0)), (6, tp (i64 6))] [(130004, Blk.mk [] true 0 (some (5, 1))), (1000000000, Blk.mk [B8 a, B8 b, B8 c, V.val (Value.slice none 0 0)] true 4 none)]) (by kernel_rfl) ⟨(VO.tup (VOL.cons (VO.sl _ _ _) (VOL.cons (VO.val _) VOL.nil))), ⟨VOL.nil, trivial⟩, (cm ), trivial⟩ ?_
  refine AWP.seq ?_
  refine AWP.block ?_
  refine AWP.seq ?_
  refine AWP.regionT tcok hmix [] [0, 4, 5, 6, 15] [1000000000, 130004] (os := []) (s' := St.mk [(0, tp (V.ptr 1000000000 0)), (4, tp (i64 0)), (5, tp (V.sl 130004 0 0)), (6, tp (i64 6)), (15, tp (vb false))] [(130004, Blk.mk [] true 0 (some (5, 1))), (1000000000, Blk.mk [B8 a, B8 b, B8 c, V.val (Value.slice none 0 0)] true 4 none)]) (by kernel_rfl) trivial ?_
  refine AWP.cond (b := false) (by kernel_rfl) (fun h => by cases h) (fun _ => ?_)
  refine AWP.seq ?_
  refine AWP.regionT tcok hmix [(1, ⟨none, some ⟨vb false, [], [(1000000000, true)]⟩⟩)] [0, 4, 5, 6, 19] [1000000000, 130004] (os := [VO (vb false), VOH [], Con Try.prog 49 [] [V.vp [B8 a, B8 b, B8 c, V.val (Value.slice none 0 0)]] [] (vb false)]) (s' := St.mk [(0, tp (V.ptr 1000000000 0)), (4, tp (i64 0)), (5, tp (V.sl 130004 0 0)), (6, tp (i64 6)), (19, tp (vb false))] [(130004, Blk.mk [] true 0 (some (5, 1))), (1000000000, Blk.mk [B8 a, B8 b, B8 c, V.val (Value.slice none 0 0)] true 4 none)]) (by kernel_rfl) ⟨(VO.val _), trivial, (con_gpend_n (B8 a) (B8 b) (B8 c)), trivial⟩ ?_
  refine AWP.cond (b := false) (by kernel_rfl) (fun h => by cases h) (fun _ => ?_)
  refine AWP.seq ?_
  refine AWP.regionT tcok hmix [] [0, 4, 5, 6, 22] [1000000000, 130004] (os := []) (s' := St.mk [(0, tp (V.ptr 1000000000 0)), (4, tp (i64 0)), (5, tp (V.sl 130004 0 0)), (6, tp (i64 6)), (22, tp (vb true))] [(130004, Blk.mk [] true 0 (some (5, 1))), (1000000000, Blk.mk [B8 a, B8 b, B8 c, V.val (Value.slice none 0 0)] true 4 none)]) (by kernel_rfl) trivial ?_
  refine AWP.cond (b := true) (by kernel_rfl) (fun _ => ?_) (fun h => by cases h)
  refine AWP.seq ?_
  refine AWP.regionT tcok hmix [] [0, 4, 5] [1000000000, 130004] (os := []) (s' := St.mk [(0, tp (V.ptr 1000000000 0)), (4, tp (i64 6)), (5, tp (V.sl 130004 0 0))] [(130004, Blk.mk [] true 0 (some (5, 1))), (1000000000, Blk.mk [B8 a, B8 b, B8 c, V.val (Value.slice none 0 0)] true 4 none)]) (by kernel_rfl) trivial ?_
  refine AWP.ret ?_
  refine ⟨Or.inr rfl, Eq.trans (b := some ([(1000000000, Blk.mk [B8 a, B8 b, B8 c, V.val (Value.slice none 0 0)] true 4 none)], i64 6)) (by kernel_rfl) ?_⟩
  rfl
theorem con_gfill_fn (a b c : List Int) (ha : BL a) (hb : BL b) (hc : BL c) (hla : a.length ≤ 1000000) (hlb : b.length ≤ 1000000) (hlc : c.length ≤ 1000000) (p : List Int) (n : Nat) (hp : BL p) (hn : p.length = n) (hl : n ≤ 200) (ht : top3 a b c = 4294967295) : Con Try.prog 46 [(1000000000, ⟨[B8 a, B8 b, B8 c, nilS], true, 4, none⟩)] [.ptr 1000000000 0, .vs (u8s p) n] [(1000000000, ⟨[B8 a, B8 b, B8 c, nilS], true, 4, none⟩)] (i64 6) := by
  have cm := con_made_f a b c ha hb hc hla hlb hlc p n hp hn nilS hl ht
  refine Con.of (C := ⟨Try.prog, tc, Try.f46.ntmps⟩) [1000000000] tcok Try.func46 rfl rfl (by kernel_rfl) (by kernel_rfl) ?_
  refine AWP.seq ?_
  refine AWP.regionT tcok hmix [] [0, 1, 4] [1000000000] (os := []) (s' := St.mk [(0, tp (V.ptr 1000000000 0)), (1, tp (V.vs (u8s p) n)), (4, tp (i64 0))] [(1000000000, Blk.mk [B8 a, B8 b, B8 c, V.val (Value.slice none 0 0)] true 4 none)]) (by kernel_rfl) trivial ?_
  refine AWP.seq ?_
  refine AWP.seq ?_
  refine AWP.regionT tcok hmix [] [0, 1, 4, 9] [1000000000] (os := []) (s' := St.mk [(0, tp (V.ptr 1000000000 0)), (1, tp (V.vs (u8s p) n)), (4, tp (i64 0)), (9, tp (vb false))] [(1000000000, Blk.mk [B8 a, B8 b, B8 c, V.val (Value.slice none 0 0)] true 4 none)]) (by kernel_rfl) trivial ?_
  refine AWP.cond (b := false) (by kernel_rfl) (fun h => by cases h) (fun _ => ?_)
  refine AWP.skip ?_
  refine AWP.seq ?_
  refine AWP.regionT tcok hmix [(2, ⟨none, some ⟨V.tup [V.sl 4 0 0, i64 6], [(4, Blk.mk [] true 0 (some (5, 1)))], [(1000000000, true)]⟩⟩)] [0, 4, 5, 6] [1000000000, 140004] (os := [VO (V.tup [V.sl (4 : Nat) (0 : Nat) (0 : Nat), i64 (6 : Int)]), VOH [((4 : Nat), Blk.mk [] true (0 : Nat) (some ((5 : Nat), (1 : Nat))))], Con Try.prog 73 [] [V.vp [B8 a, B8 b, B8 c, V.val (Value.slice none 0 0)], V.vs (u8s p) n] [(4, Blk.mk [] true 0 (some (5, 1)))] (V.tup [V.sl 4 0 0, i64 6])]) (s' := St.mk [(0, tp (V.ptr 1000000000 0)), (4, tp (i64 0)), (5, tp (V.sl 140004 0 0)), (6, tp (i64 6))] [(140004, Blk.mk [] true 0 (some (5, 1))), (1000000000, Blk.mk [B8 a, B8 b, B8 c, V.val (Value.slice none 0 0)] true 4 none)]) (by kernel_rfl) ⟨(VO.tup (VOL.cons (VO.sl _ _ _) (VOL.cons (VO.val _) VOL.nil))), ⟨VOL.nil, trivial⟩, (cm ), trivial⟩ ?_
  refine AWP.seq ?_
  refine AWP.seq ?_
  refine AWP.regionT tcok hmix [] [0, 4, 5, 6, 17] [1000000000, 140004] (os := []) (s' := St.mk [(0, tp (V.ptr 1000000000 0)), (4, tp (i64 0)), (5, tp (V.sl 140004 0 0)), (6, tp (i64 6)), (17, tp (vb true))] [(140004, Blk.mk [] true 0 (some (5, 1))), (1000000000, Blk.mk [B8 a, B8 b, B8 c, V.val (Value.slice none 0 0)] true 4 none)]) (by kernel_rfl) trivial ?_
  refine AWP.cond (b := true) (by kernel_rfl) (fun _ => ?_) (fun h => by cases h)
  refine AWP.seq ?_
  refine AWP.regionT tcok hmix [] [0, 4, 5] [1000000000, 140004] (os := []) (s' := St.mk [(0, tp (V.ptr 1000000000 0)), (4, tp (i64 6)), (5, tp (V.sl 140004 0 0))] [(140004, Blk.mk [] true 0 (some (5, 1))), (1000000000, Blk.mk [B8 a, B8 b, B8 c, V.val (Value.slice none 0 0)] true 4 none)]) (by kernel_rfl) trivial ?_
  refine AWP.ret ?_
  refine ⟨Or.inr rfl, Eq.trans (b := some ([(1000000000, Blk.mk [B8 a, B8 b, B8 c, V.val (Value.slice none 0 0)] true 4 none)], i64 6)) (by kernel_rfl) ?_⟩
  rfl
theorem con_gfill_fp (a b c : List Int) (ha : BL a) (hb : BL b) (hc : BL c) (hla : a.length ≤ 1000000) (hlb : b.length ≤ 1000000) (hlc : c.length ≤ 1000000) (p : List Int) (n : Nat) (hp : BL p) (hn : p.length = n) (nx : List Int) (hl : n ≤ 200) (ht : top3 a b c = 4294967295) : Con Try.prog 46 [(1000000000, ⟨[B8 a, B8 b, B8 c, B8 nx], true, 4, none⟩)] [.ptr 1000000000 0, .vs (u8s p) n] [(1000000000, ⟨[B8 a, B8 b, B8 c, B8 nx], true, 4, none⟩)] (i64 6) := by
  have cm := con_made_f a b c ha hb hc hla hlb hlc p n hp hn (B8 nx) hl ht
  refine Con.of (C := ⟨Try.prog, tc, Try.f46.ntmps⟩) [1000000000] tcok Try.func46 rfl rfl (by kernel_rfl) (by kernel_rfl) ?_
  refine AWP.seq ?_
  refine AWP.regionT tcok hmix [] [0, 1, 4] [1000000000] (os := []) (s' := St.mk [(0, tp (V.ptr 1000000000 0)), (1, tp (V.vs (u8s p) n)), (4, tp (i64 0))] [(1000000000, Blk.mk [B8 a, B8 b, B8 c, B8 nx] true 4 none)]) (by kernel_rfl) trivial ?_
  refine AWP.seq ?_
  refine AWP.seq ?_
  refine AWP.regionT tcok hmix [] [0, 1, 4, 9] [1000000000] (os := []) (s' := St.mk [(0, tp (V.ptr 1000000000 0)), (1, tp (V.vs (u8s p) n)), (4, tp (i64 0)), (9, tp (vb false))] [(1000000000, Blk.mk [B8 a, B8 b, B8 c, B8 nx] true 4 none)]) (by kernel_rfl) trivial ?_
  refine AWP.cond (b := false) (by kernel_rfl) (fun h => by cases h) (fun _ => ?_)
  refine AWP.skip ?_
  refine AWP.seq ?_
  refine AWP.regionT tcok hmix [(2, ⟨none, some ⟨V.tup [V.sl 4 0 0, i64 6], [(4, Blk.mk [] true 0 (some (5, 1)))], [(1000000000, true)]⟩⟩)] [0, 4, 5, 6] [1000000000, 140004] (os := [VO (V.tup [V.sl (4 : Nat) (0 : Nat) (0 : Nat), i64 (6 : Int)]), VOH [((4 : Nat), Blk.mk [] true (0 : Nat) (some ((5 : Nat), (1 : Nat))))], Con Try.prog 73 [] [V.vp [B8 a, B8 b, B8 c, B8 nx], V.vs (u8s p) n] [(4, Blk.mk [] true 0 (some (5, 1)))] (V.tup [V.sl 4 0 0, i64 6])]) (s' := St.mk [(0, tp (V.ptr 1000000000 0)), (4, tp (i64 0)), (5, tp (V.sl 140004 0 0)), (6, tp (i64 6))] [(140004, Blk.mk [] true 0 (some (5, 1))), (1000000000, Blk.mk [B8 a, B8 b, B8 c, B8 nx] true 4 none)]) (by kernel_rfl) ⟨(VO.tup (VOL.cons (VO.sl _ _ _) (VOL.cons (VO.val _) VOL.nil))), ⟨VOL.nil, trivial⟩, (cm ), trivial⟩ ?_
  refine AWP.seq ?_
  refine AWP.seq ?_
  refine AWP.regionT tcok hmix [] [0, 4, 5, 6, 17] [1000000000, 140004] (os := []) (s' := St.mk [(0, tp (V.ptr 1000000000 0)), (4, tp (i64 0)), (5, tp (V.sl 140004 0 0)), (6, tp (i64 6)), (17, tp (vb true))] [(140004, Blk.mk [] true 0 (some (5, 1))), (1000000000, Blk.mk [B8 a, B8 b, B8 c, B8 nx] true 4 none)]) (by kernel_rfl) trivial ?_
  refine AWP.cond (b := true) (by kernel_rfl) (fun _ => ?_) (fun h => by cases h)
  refine AWP.seq ?_
  refine AWP.regionT tcok hmix [] [0, 4, 5] [1000000000, 140004] (os := []) (s' := St.mk [(0, tp (V.ptr 1000000000 0)), (4, tp (i64 6)), (5, tp (V.sl 140004 0 0))] [(140004, Blk.mk [] true 0 (some (5, 1))), (1000000000, Blk.mk [B8 a, B8 b, B8 c, B8 nx] true 4 none)]) (by kernel_rfl) trivial ?_
  refine AWP.ret ?_
  refine ⟨Or.inr rfl, Eq.trans (b := some ([(1000000000, Blk.mk [B8 a, B8 b, B8 c, B8 nx] true 4 none)], i64 6)) (by kernel_rfl) ?_⟩
  rfl
theorem lists_of {w : V} (hw : TyV tc 9 40 w) : ∃ (xs : List V) (n : Nat), w = .vs xs n ∧ n ≤ 9223372036854775807 ∧ ∀ i : Nat, i < n → ∃ (l : List Int) (r : List V), xs.drop (i * 1) = .vs (u8s l) l.length :: r ∧ BL l ∧ l.length ≤ 9223372036854775807 := by
  obtain ⟨xs, n, e1, hn, h1⟩ := hw
  cases e1
  refine ⟨xs, n, rfl, hn, fun i hi => ?_⟩
  obtain ⟨r, rest, hr, h2⟩ := rows_drop (k := 1) (fun r hr => by obtain ⟨cs, m, rfl, _, _⟩ := hr; rfl) h1 i hi
  obtain ⟨cs, m, rfl, hm, h3⟩ := hr
  obtain ⟨l, rfl, rfl, hl⟩ := bytes_rows (fun r hr => by obtain ⟨z, rfl, z1, z2⟩ := hr; exact ⟨z, rfl, z1, Int.lt_add_one_of_le z2⟩) h3
  exact ⟨l, rest, h2, hl, hm⟩
end Go.Proofs.Ytmeiemdnhjnpcaa
