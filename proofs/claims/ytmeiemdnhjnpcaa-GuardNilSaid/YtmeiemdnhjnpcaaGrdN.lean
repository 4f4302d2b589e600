/- Chapter 7: GuardNil. -/
import Derived.Test.YtmeiemdnhjnpcaaGrdC
namespace Go.Proofs.Ytmeiemdnhjnpcaa
open Go.Ab
set_option linter.unusedSimpArgs false
set_option linter.unusedVariables false
abbrev nilP : V := .val (.pointer none)
theorem con_nread : Con Try.prog 47 [] [nilP] [(3, ⟨[], true, 0, some (5, 1)⟩)] (.tup [u32 0, .sl 3 0 0, i64 3]) := by
  refine Con.of (C := ⟨Try.prog, tc, Try.f47.ntmps⟩) [3] tcok Try.func47 rfl rfl (by kernel_rfl) (by kernel_rfl) ?_
  refine AWP.seq ?_
  refine AWP.regionT tcok hmix [] [0, 2, 3, 4] [3] (os := []) (s' := St.mk [(0, T.plain (V.val (Value.pointer none))), (2, T.plain (u32 0)), (3, T.plain (V.sl 3 0 0)), (4, T.plain (i64 0))] [(3, Blk.mk [] true 0 (some (5, 1)))]) (by kernel_rfl) trivial ?_
  refine AWP.seq ?_
  refine AWP.seq ?_
  refine AWP.regionT tcok hmix [] [0, 2, 3, 4, 6] [3] (os := []) (s' := St.mk [(0, T.plain (V.val (Value.pointer none))), (2, T.plain (u32 0)), (3, T.plain (V.sl 3 0 0)), (4, T.plain (i64 0)), (6, T.plain (vb true))] [(3, Blk.mk [] true 0 (some (5, 1)))]) (by kernel_rfl) trivial ?_
  refine AWP.cond (b := true) (by kernel_rfl) (fun _ => ?_) (fun h => by cases h)
  refine AWP.seq ?_
  refine AWP.keep' [0] [] (sf := St.mk [(0, T.plain (V.val (Value.pointer none)))] []) (by kernel_rfl) ?_
  refine AWP.regionT tcok hmix [] [0, 2, 3, 4] [3] (os := []) (s' := St.mk [(0, T.plain (V.val (Value.pointer none))), (2, T.plain (u32 0)), (3, T.plain (V.sl 3 0 0)), (4, T.plain (i64 3))] [(3, Blk.mk [] true 0 (some (5, 1)))]) (by kernel_rfl) trivial ?_
  refine AWP.ret ?_
  refine ⟨Or.inr rfl, Eq.trans (b := some ([(3, Blk.mk [] true 0 (some (5, 1)))], V.tup [u32 0, V.sl 3 0 0, i64 3])) (by kernel_rfl) ?_⟩
  rfl
theorem con_nscrub : Con Try.prog 48 [] [nilP] [] (.tup [i64 0, i64 3]) := by
  refine Con.of (C := ⟨Try.prog, tc, Try.f48.ntmps⟩) [] tcok Try.func48 rfl rfl (by kernel_rfl) (by kernel_rfl) ?_
  refine AWP.seq ?_
  refine AWP.regionT tcok hmix [] [0, 2, 3] [] (os := []) (s' := St.mk [(0, T.plain (V.val (Value.pointer none))), (2, T.plain (i64 0)), (3, T.plain (i64 0))] []) (by kernel_rfl) trivial ?_
  refine AWP.seq ?_
  refine AWP.seq ?_
  refine AWP.regionT tcok hmix [] [0, 2, 3, 13] [] (os := []) (s' := St.mk [(0, T.plain (V.val (Value.pointer none))), (2, T.plain (i64 0)), (3, T.plain (i64 0)), (13, T.plain (vb true))] []) (by kernel_rfl) trivial ?_
  refine AWP.cond (b := true) (by kernel_rfl) (fun _ => ?_) (fun h => by cases h)
  refine AWP.seq ?_
  refine AWP.regionT tcok hmix [] [0, 2, 3] [] (os := []) (s' := St.mk [(0, T.plain (V.val (Value.pointer none))), (2, T.plain (i64 0)), (3, T.plain (i64 3))] []) (by kernel_rfl) trivial ?_
  refine AWP.ret ?_
  refine ⟨Or.inr rfl, Eq.trans (b := some ([], V.tup [i64 0, i64 3])) (by kernel_rfl) ?_⟩
  rfl
theorem con_nreset : Con Try.prog 54 [] [nilP] [] (.tup []) := by
  refine Con.of (C := ⟨Try.prog, tc, Try.f54.ntmps⟩) [] tcok Try.func54 rfl rfl (by kernel_rfl) (by kernel_rfl) ?_
  refine AWP.seq ?_
  refine AWP.regionT tcok hmix [] [0, 3] [] (os := []) (s' := St.mk [(0, T.plain (V.val (Value.pointer none))), (3, T.plain (vb false))] []) (by kernel_rfl) trivial ?_
  refine AWP.cond (b := false) (by kernel_rfl) (fun h => by cases h) (fun _ => ?_)
  refine AWP.skip ?_
  refine ⟨Or.inl rfl, Eq.trans (b := some ([], V.tup [])) (by kernel_rfl) ?_⟩
  rfl
theorem con_nbegin (p : List Int) (n : Nat) : Con Try.prog 45 [] [nilP, .vs (u8s p) n] [] (i64 3) := by
  refine Con.of (C := ⟨Try.prog, tc, Try.f45.ntmps⟩) [] tcok Try.func45 rfl rfl (by kernel_rfl) (by kernel_rfl) ?_
  refine AWP.seq ?_
  refine AWP.regionT tcok hmix [] [0, 1, 4] [] (os := []) (s' := St.mk [(0, T.plain (V.val (Value.pointer none))), (1, T.plain (V.vs (u8s p) n)), (4, T.plain (i64 0))] []) (by kernel_rfl) trivial ?_
  refine AWP.seq ?_
  refine AWP.seq ?_
  refine AWP.regionT tcok hmix [] [0, 1, 4, 8] [] (os := []) (s' := St.mk [(0, T.plain (V.val (Value.pointer none))), (1, T.plain (V.vs (u8s p) n)), (4, T.plain (i64 0)), (8, T.plain (vb true))] []) (by kernel_rfl) trivial ?_
  refine AWP.cond (b := true) (by kernel_rfl) (fun _ => ?_) (fun h => by cases h)
  refine AWP.seq ?_
  refine AWP.regionT tcok hmix [] [0, 1, 4] [] (os := []) (s' := St.mk [(0, T.plain (V.val (Value.pointer none))), (1, T.plain (V.vs (u8s p) n)), (4, T.plain (i64 3))] []) (by kernel_rfl) trivial ?_
  refine AWP.ret ?_
  refine ⟨Or.inr rfl, Eq.trans (b := some ([], i64 3)) (by kernel_rfl) ?_⟩
  rfl
theorem con_nfinish : Con Try.prog 55 [] [nilP] [] (i64 3) := by
  refine Con.of (C := ⟨Try.prog, tc, Try.f55.ntmps⟩) [] tcok Try.func55 rfl rfl (by kernel_rfl) (by kernel_rfl) ?_
  refine AWP.seq ?_
  refine AWP.regionT tcok hmix [] [0, 2] [] (os := []) (s' := St.mk [(0, T.plain (V.val (Value.pointer none))), (2, T.plain (i64 0))] []) (by kernel_rfl) trivial ?_
  refine AWP.seq ?_
  refine AWP.block ?_
  refine AWP.seq ?_
  refine AWP.regionT tcok hmix [] [0, 2, 4] [] (os := []) (s' := St.mk [(0, T.plain (V.val (Value.pointer none))), (2, T.plain (i64 0)), (4, T.plain (vb true))] []) (by kernel_rfl) trivial ?_
  refine AWP.cond (b := true) (by kernel_rfl) (fun _ => ?_) (fun h => by cases h)
  refine AWP.seq ?_
  refine AWP.regionT tcok hmix [] [0, 2] [] (os := []) (s' := St.mk [(0, T.plain (V.val (Value.pointer none))), (2, T.plain (i64 3))] []) (by kernel_rfl) trivial ?_
  refine AWP.ret ?_
  refine ⟨Or.inr rfl, Eq.trans (b := some ([], i64 3)) (by kernel_rfl) ?_⟩
  rfl
theorem con_nflip (i at_ mask : Int) : Con Try.prog 51 [] [nilP, i64 i, i64 at_, u8 mask] [] (i64 3) := by
  refine Con.of (C := ⟨Try.prog, tc, Try.f51.ntmps⟩) [] tcok Try.func51 rfl rfl (by kernel_rfl) (by kernel_rfl) ?_
  refine AWP.seq ?_
  refine AWP.regionT tcok hmix [] [0, 1, 2, 3, 8] [] (os := []) (s' := St.mk [(0, T.plain (V.val (Value.pointer none))), (1, T.plain (i64 i)), (2, T.plain (i64 at_)), (3, T.plain (u8 mask)), (8, T.plain (i64 0))] []) (by kernel_rfl) trivial ?_
  refine AWP.seq ?_
  refine AWP.block ?_
  refine AWP.seq ?_
  refine AWP.regionT tcok hmix [] [0, 1, 2, 3, 8, 9] [] (os := []) (s' := St.mk [(0, T.plain (V.val (Value.pointer none))), (1, T.plain (i64 i)), (2, T.plain (i64 at_)), (3, T.plain (u8 mask)), (8, T.plain (i64 0)), (9, T.plain (vb true))] []) (by kernel_rfl) trivial ?_
  refine AWP.cond (b := true) (by kernel_rfl) (fun _ => ?_) (fun h => by cases h)
  refine AWP.seq ?_
  refine AWP.regionT tcok hmix [] [0, 1, 2, 3, 8] [] (os := []) (s' := St.mk [(0, T.plain (V.val (Value.pointer none))), (1, T.plain (i64 i)), (2, T.plain (i64 at_)), (3, T.plain (u8 mask)), (8, T.plain (i64 3))] []) (by kernel_rfl) trivial ?_
  refine AWP.ret ?_
  refine ⟨Or.inr rfl, Eq.trans (b := some ([], i64 3)) (by kernel_rfl) ?_⟩
  rfl
theorem con_nfill (p : List Int) (n : Nat) : Con Try.prog 46 [] [nilP, .vs (u8s p) n] [] (i64 3) := by
  refine Con.of (C := ⟨Try.prog, tc, Try.f46.ntmps⟩) [] tcok Try.func46 rfl rfl (by kernel_rfl) (by kernel_rfl) ?_
  refine AWP.seq ?_
  refine AWP.regionT tcok hmix [] [0, 1, 4] [] (os := []) (s' := St.mk [(0, T.plain (V.val (Value.pointer none))), (1, T.plain (V.vs (u8s p) n)), (4, T.plain (i64 0))] []) (by kernel_rfl) trivial ?_
  refine AWP.seq ?_
  refine AWP.seq ?_
  refine AWP.regionT tcok hmix [] [0, 1, 4, 9] [] (os := []) (s' := St.mk [(0, T.plain (V.val (Value.pointer none))), (1, T.plain (V.vs (u8s p) n)), (4, T.plain (i64 0)), (9, T.plain (vb true))] []) (by kernel_rfl) trivial ?_
  refine AWP.cond (b := true) (by kernel_rfl) (fun _ => ?_) (fun h => by cases h)
  refine AWP.seq ?_
  refine AWP.regionT tcok hmix [] [0, 1, 4] [] (os := []) (s' := St.mk [(0, T.plain (V.val (Value.pointer none))), (1, T.plain (V.vs (u8s p) n)), (4, T.plain (i64 3))] []) (by kernel_rfl) trivial ?_
  refine AWP.ret ?_
  refine ⟨Or.inr rfl, Eq.trans (b := some ([], i64 3)) (by kernel_rfl) ?_⟩
  rfl
theorem con_npend : Con Try.prog 49 [] [nilP] [] (vb false) := by
  refine Con.of (C := ⟨Try.prog, tc, Try.f49.ntmps⟩) [] tcok Try.func49 rfl rfl (by kernel_rfl) (by kernel_rfl) ?_
  refine AWP.seq ?_
  refine AWP.regionT tcok hmix [] [0, 2] [] (os := []) (s' := St.mk [(0, T.plain (V.val (Value.pointer none))), (2, T.plain (vb false))] []) (by kernel_rfl) trivial ?_
  refine AWP.seq ?_
  refine AWP.regionT tcok hmix [(5, ⟨some (V.tup []), none⟩), (6, ⟨some (V.tup []), none⟩), (7, ⟨some (V.tup [vb false]), none⟩)] [2] [] (os := [false = true → False ∧ True, false = true → False, false = true → False, false = true → False]) (s' := St.mk [(2, T.plain (vb false))] []) (by kernel_rfl) ⟨(by intro hc0; first | (cases hc0; done) | (try simp only [Bool.or_false, Bool.false_or, Bool.true_and, Bool.and_true, decide_eq_true_eq, decide_eq_false_iff_not, Bool.and_eq_true, Bool.or_eq_true, Bool.or_eq_false_iff, Bool.not_eq_true', Bool.and_eq_false_iff, beq_iff_eq, bne_iff_ne, bne_eq_false_iff_eq, beq_eq_false_iff_ne, Bool.not_eq_false'] at hc0; exact ⟨(by first | omega | (simp [len_u8s]; omega) | (simp [len_u8s]; done)), trivial⟩)), (by (intro hc0; first | (cases hc0; done) | (exfalso; simp_all; done) | (try simp only [Bool.or_false, Bool.false_or, Bool.true_and, Bool.and_true, decide_eq_true_eq, decide_eq_false_iff_not, Bool.and_eq_true, Bool.or_eq_true, Bool.or_eq_false_iff, Bool.not_eq_true', Bool.and_eq_false_iff, beq_iff_eq, bne_iff_ne, bne_eq_false_iff_eq, beq_eq_false_iff_ne, Bool.not_eq_false'] at hc0; omega))), (by (intro hc0; first | (cases hc0; done) | (exfalso; simp_all; done) | (try simp only [Bool.or_false, Bool.false_or, Bool.true_and, Bool.and_true, decide_eq_true_eq, decide_eq_false_iff_not, Bool.and_eq_true, Bool.or_eq_true, Bool.or_eq_false_iff, Bool.not_eq_true', Bool.and_eq_false_iff, beq_iff_eq, bne_iff_ne, bne_eq_false_iff_eq, beq_eq_false_iff_ne, Bool.not_eq_false'] at hc0; omega))), (by (intro hc0; first | (cases hc0; done) | (exfalso; simp_all; done) | (try simp only [Bool.or_false, Bool.false_or, Bool.true_and, Bool.and_true, decide_eq_true_eq, decide_eq_false_iff_not, Bool.and_eq_true, Bool.or_eq_true, Bool.or_eq_false_iff, Bool.not_eq_true', Bool.and_eq_false_iff, beq_iff_eq, bne_iff_ne, bne_eq_false_iff_eq, beq_eq_false_iff_ne, Bool.not_eq_false'] at hc0; omega))), trivial⟩ ?_
  refine AWP.ret ?_
  refine ⟨Or.inr rfl, Eq.trans (b := some ([], vb false)) (by kernel_rfl) ?_⟩
  rfl
theorem con_ngood : Con Try.prog 56 [] [nilP] [] (u16 0) := by
  refine Con.of (C := ⟨Try.prog, tc, Try.f56.ntmps⟩) [] tcok Try.func56 rfl rfl (by kernel_rfl) (by kernel_rfl) ?_
  refine AWP.seq ?_
  refine AWP.regionT tcok hmix [] [0, 2] [] (os := []) (s' := St.mk [(0, T.plain (V.val (Value.pointer none))), (2, T.plain (u16 0))] []) (by kernel_rfl) trivial ?_
  refine AWP.seq ?_
  refine AWP.seq ?_
  refine AWP.regionT tcok hmix [] [0, 2, 4] [] (os := []) (s' := St.mk [(0, T.plain (V.val (Value.pointer none))), (2, T.plain (u16 0)), (4, T.plain (vb true))] []) (by kernel_rfl) trivial ?_
  refine AWP.cond (b := true) (by kernel_rfl) (fun _ => ?_) (fun h => by cases h)
  refine AWP.seq ?_
  refine AWP.regionT tcok hmix [] [0, 2] [] (os := []) (s' := St.mk [(0, T.plain (V.val (Value.pointer none))), (2, T.plain (u16 0))] []) (by kernel_rfl) trivial ?_
  refine AWP.ret ?_
  refine ⟨Or.inr rfl, Eq.trans (b := some ([], u16 0)) (by kernel_rfl) ?_⟩
  rfl
theorem con_ncopies : Con Try.prog 52 [] [nilP] [(2, ⟨[], true, 0, some (29, 1)⟩)] (.sl 2 0 0) := by
  refine Con.of (C := ⟨Try.prog, tc, Try.f52.ntmps⟩) [2] tcok Try.func52 rfl rfl (by kernel_rfl) (by kernel_rfl) ?_
  refine AWP.seq ?_
  refine AWP.regionT tcok hmix [] [0, 2] [2] (os := []) (s' := St.mk [(0, T.plain (V.val (Value.pointer none))), (2, T.plain (V.sl 2 0 0))] [(2, Blk.mk [] true 0 (some (29, 1)))]) (by kernel_rfl) trivial ?_
  refine AWP.seq ?_
  refine AWP.regionT tcok hmix [] [0, 2, 3] [2, 3] (os := []) (s' := St.mk [(0, T.plain (V.val (Value.pointer none))), (2, T.plain (V.sl 2 0 0)), (3, T.plain (V.sl 3 0 0))] [(2, Blk.mk [] true 0 (some (29, 1))), (3, Blk.mk [] true 0 (some (29, 1)))]) (by kernel_rfl) trivial ?_
  refine AWP.seq ?_
  refine AWP.seq ?_
  refine AWP.regionT tcok hmix [] [0, 2, 3, 7] [2, 3] (os := []) (s' := St.mk [(0, T.plain (V.val (Value.pointer none))), (2, T.plain (V.sl 2 0 0)), (3, T.plain (V.sl 3 0 0)), (7, T.plain (vb true))] [(2, Blk.mk [] true 0 (some (29, 1))), (3, Blk.mk [] true 0 (some (29, 1)))]) (by kernel_rfl) trivial ?_
  refine AWP.cond (b := true) (by kernel_rfl) (fun _ => ?_) (fun h => by cases h)
  refine AWP.seq ?_
  refine AWP.keep' [0, 3] [3] (sf := St.mk [(0, T.plain (V.val (Value.pointer none))), (3, T.plain (V.sl 3 0 0))] [(3, Blk.mk [] true 0 (some (29, 1)))]) (by kernel_rfl) ?_
  refine AWP.regionT tcok hmix [] [0, 2, 3] [2, 3] (os := []) (s' := St.mk [(0, T.plain (V.val (Value.pointer none))), (2, T.plain (V.sl 2 0 0)), (3, T.plain (V.sl 3 0 0))] [(2, Blk.mk [] true 0 (some (29, 1))), (3, Blk.mk [] true 0 (some (29, 1)))]) (by kernel_rfl) trivial ?_
  refine AWP.ret ?_
  refine ⟨Or.inr rfl, Eq.trans (b := some ([(2, Blk.mk [] true 0 (some (29, 1)))], V.sl 2 0 0)) (by kernel_rfl) ?_⟩
  rfl
theorem law7_nil (l : List Int) (i at_ mask : Int) (hl : BL l) (hll : l.length ≤ 9223372036854775807) : Con Try.prog 15 [] [.vs (u8s l) l.length, i64 i, i64 at_, u8 mask] [] (vb true) := by
  have haw := con_awake7
  refine Con.of (C := ⟨Try.prog, tc, Try.f15.ntmps⟩) [] tcok Try.func15 rfl rfl (by kernel_rfl) (by kernel_rfl) ?_
  refine AWP.seq ?_
  refine AWP.regionT tcok hmix [] [0, 1, 2, 3, 8] [] (os := []) (s' := St.mk [(0, T.plain (V.vs (u8s l) (List.length l))), (1, T.plain (i64 i)), (2, T.plain (i64 at_)), (3, T.plain (u8 mask)), (8, T.plain (vb false))] []) (by kernel_rfl) trivial ?_
  refine AWP.seq ?_
  refine AWP.seq ?_
  refine AWP.regionT tcok hmix [(0, ⟨none, some ⟨vb true, [], []⟩⟩)] [0, 1, 2, 3, 8, 16] [] (os := [Con Try.prog 43 [] [] [] (vb true)]) (s' := St.mk [(0, T.plain (V.vs (u8s l) (List.length l))), (1, T.plain (i64 i)), (2, T.plain (i64 at_)), (3, T.plain (u8 mask)), (8, T.plain (vb false)), (16, T.plain (vb false))] []) (by kernel_rfl) ⟨(haw ), trivial⟩ ?_
  refine AWP.cond (b := false) (by kernel_rfl) (fun h => by cases h) (fun _ => ?_)
  refine AWP.skip ?_
  refine AWP.seq ?_
  refine AWP.regionT tcok hmix [(1, ⟨none, some ⟨V.sl 5 0 (List.length (List.take (Int.toNat 20) l)), [(5, Blk.mk (u8s (List.take (Int.toNat 20) l)) true 0 (some (5, 1)))], []⟩⟩)] [0, 1, 2, 3, 8] [190005] (os := [Con Try.prog 18 [] [V.vs (u8s l) (List.length l), i64 20] [(5, Blk.mk (u8s (List.take (Int.toNat 20) l)) true 0 (some (5, 1)))] (V.sl 5 0 (List.length (List.take (Int.toNat 20) l)))]) (s' := St.mk [(0, T.plain (V.sl 190005 0 (List.length (List.take (Int.toNat 20) l)))), (1, T.plain (i64 i)), (2, T.plain (i64 at_)), (3, T.plain (u8 mask)), (8, T.plain (vb false))] [(190005, Blk.mk (u8s (List.take (Int.toNat 20) l)) true 0 (some (5, 1)))]) (by kernel_rfl) ⟨(Go.Proofs.Ytmeiemdnhjnpcaa.con_cutn (l) (List.length l) (by (first | assumption | omega | (simp [len_u8s]; done) | (simp [len_u8s]; omega))) (20) (by (first | assumption | omega | (simp [len_u8s]; done) | (simp [len_u8s]; omega))) (by (first | assumption | omega | (simp [len_u8s]; done) | (simp [len_u8s]; omega))) (by (first | assumption | omega | (simp [len_u8s]; done) | (simp [len_u8s]; omega)))), trivial⟩ ?_
  refine AWP.seq ?_
  refine AWP.regionT tcok hmix [] [0, 1, 2, 3, 8, 9] [190005] (os := []) (s' := St.mk [(0, T.plain (V.sl 190005 0 (List.length (List.take (Int.toNat 20) l)))), (1, T.plain (i64 i)), (2, T.plain (i64 at_)), (3, T.plain (u8 mask)), (8, T.plain (vb false)), (9, T.plain (V.val (Value.pointer none)))] [(190005, Blk.mk (u8s (List.take (Int.toNat 20) l)) true 0 (some (5, 1)))]) (by kernel_rfl) trivial ?_
  refine AWP.seq ?_
  refine AWP.regionT tcok hmix [(1, ⟨none, some ⟨V.tup [u32 0, V.sl 3 0 0, i64 3], [(3, Blk.mk [] true 0 (some (5, 1)))], []⟩⟩)] [0, 1, 2, 3, 8, 9, 12] [190005] (os := [Con Try.prog 47 [] [V.val (Value.pointer none)] [(3, Blk.mk [] true 0 (some (5, 1)))] (V.tup [u32 0, V.sl 3 0 0, i64 3])]) (s' := St.mk [(0, T.plain (V.sl 190005 0 (List.length (List.take (Int.toNat 20) l)))), (1, T.plain (i64 i)), (2, T.plain (i64 at_)), (3, T.plain (u8 mask)), (8, T.plain (vb false)), (9, T.plain (V.val (Value.pointer none))), (12, T.plain (i64 3))] [(190005, Blk.mk (u8s (List.take (Int.toNat 20) l)) true 0 (some (5, 1)))]) (by kernel_rfl) ⟨(Go.Proofs.Ytmeiemdnhjnpcaa.con_nread ), trivial⟩ ?_
  refine AWP.seq ?_
  refine AWP.regionT tcok hmix [(1, ⟨some (V.tup []), some ⟨V.tup [i64 0, i64 3], [], []⟩⟩)] [0, 1, 2, 3, 8, 9, 12, 14] [190005] (os := [Con Try.prog 48 [] [V.val (Value.pointer none)] [] (V.tup [i64 0, i64 3])]) (s' := St.mk [(0, T.plain (V.sl 190005 0 (List.length (List.take (Int.toNat 20) l)))), (1, T.plain (i64 i)), (2, T.plain (i64 at_)), (3, T.plain (u8 mask)), (8, T.plain (vb false)), (9, T.plain (V.val (Value.pointer none))), (12, T.plain (i64 3)), (14, T.plain (i64 3))] [(190005, Blk.mk (u8s (List.take (Int.toNat 20) l)) true 0 (some (5, 1)))]) (by kernel_rfl) ⟨(Go.Proofs.Ytmeiemdnhjnpcaa.con_nscrub ), trivial⟩ ?_
  refine AWP.seq ?_
  refine AWP.regionT tcok hmix [(1, ⟨some (V.tup []), some ⟨V.tup [], [], []⟩⟩)] [0, 1, 2, 3, 8, 9, 12, 14] [190005] (os := [Con Try.prog 54 [] [V.val (Value.pointer none)] [] (V.tup [])]) (s' := St.mk [(0, T.plain (V.sl 190005 0 (List.length (List.take (Int.toNat 20) l)))), (1, T.plain (i64 i)), (2, T.plain (i64 at_)), (3, T.plain (u8 mask)), (8, T.plain (vb false)), (9, T.plain (V.val (Value.pointer none))), (12, T.plain (i64 3)), (14, T.plain (i64 3))] [(190005, Blk.mk (u8s (List.take (Int.toNat 20) l)) true 0 (some (5, 1)))]) (by kernel_rfl) ⟨(Go.Proofs.Ytmeiemdnhjnpcaa.con_nreset ), trivial⟩ ?_
  refine AWP.seq ?_
  refine AWP.frz 190005 (s' := St.mk [(0, T.plain (V.vs (u8s (List.take (Int.toNat 20) l)) (List.length (List.take (Int.toNat 20) l)))), (1, T.plain (i64 i)), (2, T.plain (i64 at_)), (3, T.plain (u8 mask)), (8, T.plain (vb false)), (9, T.plain (V.val (Value.pointer none))), (12, T.plain (i64 3)), (14, T.plain (i64 3))] []) (by kernel_rfl) ?_
  refine AWP.regionT tcok hmix [(9, ⟨some (V.tup []), some ⟨i64 3, [], []⟩⟩), (14, ⟨some (V.tup []), some ⟨i64 3, [], []⟩⟩), (22, ⟨some (V.tup []), some ⟨i64 3, [], []⟩⟩), (28, ⟨some (V.tup []), some ⟨i64 3, [], []⟩⟩), (33, ⟨none, some ⟨vb false, [], []⟩⟩), (38, ⟨none, some ⟨u16 0, [], []⟩⟩), (43, ⟨none, some ⟨V.sl 2 0 0, [(2, Blk.mk [] true 0 (some (29, 1)))], []⟩⟩)] [8] [] (os := [Con Try.prog 45 [] [V.val (Value.pointer none), V.vs (u8s (List.take (Int.toNat 20) l)) (List.length (List.take (Int.toNat 20) l))] [] (i64 3), Con Try.prog 55 [] [V.val (Value.pointer none)] [] (i64 3), Con Try.prog 51 [] [V.val (Value.pointer none), i64 i, i64 at_, u8 mask] [] (i64 3), Con Try.prog 46 [] [V.val (Value.pointer none), V.vs (u8s (List.take (Int.toNat 20) l)) (List.length (List.take (Int.toNat 20) l))] [] (i64 3), true = true → Con Try.prog (49 : Nat) [] [V.val (Value.pointer none)] [] (vb false) ∧ True, true = true → Con Try.prog (56 : Nat) [] [V.val (Value.pointer none)] [] (u16 (0 : Int)) ∧ True, true = true → Con Try.prog (52 : Nat) [] [V.val (Value.pointer none)] [((2 : Nat), Blk.mk [] true (0 : Nat) (some ((29 : Nat), (1 : Nat))))] (V.sl (2 : Nat) (0 : Nat) (0 : Nat)) ∧ True]) (s' := St.mk [(8, T.plain (vb true))] []) (by kernel_rfl) ⟨(Go.Proofs.Ytmeiemdnhjnpcaa.con_nbegin (List.take (Int.toNat 20) l) (List.length (List.take (Int.toNat 20) l))), (Go.Proofs.Ytmeiemdnhjnpcaa.con_nfinish ), (Go.Proofs.Ytmeiemdnhjnpcaa.con_nflip (i) (at_) (mask)), (Go.Proofs.Ytmeiemdnhjnpcaa.con_nfill (List.take (Int.toNat 20) l) (List.length (List.take (Int.toNat 20) l))), (fun _ => ⟨(Go.Proofs.Ytmeiemdnhjnpcaa.con_npend ), trivial⟩), (fun _ => ⟨(Go.Proofs.Ytmeiemdnhjnpcaa.con_ngood ), trivial⟩), (fun _ => ⟨(Go.Proofs.Ytmeiemdnhjnpcaa.con_ncopies ), trivial⟩), trivial⟩ ?_
  refine AWP.ret ?_
  refine ⟨Or.inr rfl, Eq.trans (b := some ([], vb true)) (by kernel_rfl) ?_⟩
  first | rfl | (simp; done)
theorem law_GuardNil (p i at_ mask : V) (hp : TyV tc 9 29 p) (hi : TyV tc 9 3 i) (ha : TyV tc 9 3 at_) (hm : TyV tc 9 5 mask) : Con Try.prog 15 [] [p, i, at_, mask] [] (vb true) := by
  obtain ⟨l, rfl, hl, hll⟩ := bytes_of hp
  obtain ⟨i, e1, _, _⟩ := hi
  obtain ⟨a, e2, _, _⟩ := ha
  obtain ⟨m, e3, _, _⟩ := hm
  cases e1
  cases e2
  cases e3
  exact law7_nil l i a m hl hll
end Go.Proofs.Ytmeiemdnhjnpcaa
