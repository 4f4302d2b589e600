/- Chapter 7: the document's example. -/
import Derived.Test.YtmeiemdnhjnpcaaRg
import Derived.Test.YtmeiemdnhjnpcaaGrdB
namespace Go.Proofs.Ytmeiemdnhjnpcaa
open Go.Ab
set_option linter.unusedSimpArgs false
set_option linter.unusedVariables false
set_option maxHeartbeats 4000000
theorem con_awake7 : Con Try.prog 43 [] [] [] (vb true) := by
  have ba : BL [97] := by simp only [BL, List.forall_mem_cons, List.not_mem_nil, false_implies, implies_true, and_true]; omega
  have bb : BL [98] := by simp only [BL, List.forall_mem_cons, List.not_mem_nil, false_implies, implies_true, and_true]; omega
  have a0 : cE (mk 1 [97]) = 0 := mk_cE (by decide)
  have b0 : cE (mk 2 [98]) = 0 := mk_cE (by decide)
  have an : cNo (mk 1 [97]) = 1 := mk_cNo (by omega) (by decide)
  have bn : cNo (mk 2 [98]) = 2 := mk_cNo (by omega) (by decide)
  have ap : cPo (mk 1 [97]) = [97] := mk_cPo (by decide)
  have bp : cPo (mk 2 [98]) = [98] := mk_cPo (by decide)
  have al : (mk 1 [97]).length = 9 := mk_len
  have bl0 : (mk 2 [98]).length = 9 := mk_len
  have aB : BL (mk 1 [97]) := mk_bl (by omega) ba (by decide)
  have bB : BL (mk 2 [98]) := mk_bl (by omega) bb (by decide)
  have xe : cE ((mk 2 [98]).set (0 + (7 : Int).toNat * 1) (ixor .u8 ((mk 2 [98]).getD (0 + (7 : Int).toNat * 1) 0) 1)) ≠ 0 := by decide +kernel
  obtain ⟨A, hA⟩ : ∃ A, mk 1 [97] = A := ⟨_, rfl⟩
  obtain ⟨B, hB⟩ : ∃ B, mk 2 [98] = B := ⟨_, rfl⟩
  rw [hA] at a0 an ap al aB
  rw [hB] at b0 bn bp bl0 bB xe
  obtain ⟨X, wl⟩ : ∃ X, B.set (0 + (7 : Int).toNat * 1) (ixor .u8 (B.getD (0 + (7 : Int).toNat * 1) 0) 1) = X := ⟨_, rfl⟩
  rw [wl] at xe
  have xl : X.length = 9 := by rw [← wl, List.length_set]; exact bl0
  have xB : BL X := by rw [← wl]; exact BL.set bB (ixor_u8_bd _ _)
  have ht : top3 A A A = 1 := by simp [top3, imax, an]
  have hv1 : vst [B, A, A] = (3, B) := by simp [vst, vnx, newer, a0, b0, an, bn]
  have hv2 : vst [X, A, A] = (2, A) := by simp [vst, vnx, newer, a0, an, xe]
  have f0 := con_gfill_0 [97] 1 ba rfl (by omega) A hA
  have b1 := con_gbegin_y A A A aB aB aB (by omega) (by omega) (by omega) [98] 1 bb rfl B (by rw [ht]; exact hB) (by omega) (by rw [ht]; omega)
  have r1 := con_gread_y B A A bB aB aB (by omega) (by omega) (by omega) nilS B 3 hv1 (by omega)
  have r2 := con_gread_y X A A xB aB aB (by omega) (by omega) (by omega) nilS A 2 hv2 (by omega)
  have fl := con_gflip0n B A A X 7 1 (by omega) (by omega) wl
  rw [bp, bn] at r1
  rw [ap, an] at r2
  refine Con.of (C := ⟨Try.prog, tc, Try.f43.ntmps⟩) [] tcok Try.func43 rfl rfl (by kernel_rfl) (by kernel_rfl) ?_
  refine xe0 [0] [] (by kernel_rfl) ?_
  refine xe1 [(0, ⟨none, some ⟨V.ptr 2 0, [(2, Blk.mk [nilS, nilS, nilS, nilS] true 4 none)], []⟩⟩)] [0, 1] [90002] (by kernel_rfl) (AllP.c (con_gnew ) AllP.n) ?_
  refine AWP.seq ?_
  refine xe1 (os := [Con Try.prog 46 [(1000000000, Blk.mk [V.val (Value.slice none 0 0), V.val (Value.slice none 0 0), V.val (Value.slice none 0 0), V.val (Value.slice none 0 0)] true 4 none)] [V.ptr 1000000000 0, V.vs [u8 97] 1] [(1000000000, Blk.mk [B8 A, B8 A, B8 A, V.val (Value.slice none 0 0)] true 4 none)] (i64 0), Con Try.prog 45 [(1000000000, Blk.mk [B8 A, B8 A, B8 A, V.val (Value.slice none 0 0)] true 4 none)] [V.ptr 1000000000 0, V.vs [u8 98] 1] [(1000000000, Blk.mk [B8 B, B8 A, B8 A, B8 B] true 4 none)] (i64 0)]) [(6, ⟨some (V.tup [V.sl 1000000000 90002 0]), some ⟨i64 0, [(1000000000, Blk.mk [B8 A, B8 A, B8 A, nilS] true 4 none)], []⟩⟩), (13, ⟨some (V.tup [V.sl 1000000000 90002 0]), some ⟨i64 0, [(1000000000, Blk.mk [B8 B, B8 A, B8 A, B8 B] true 4 none)], []⟩⟩)] [0, 1, 24] [90002] (by kernel_rfl) ⟨(f0 ), (b1 ), trivial⟩ ?_
  refine AWP.condF (by kernel_rfl) ?_
  refine AWP.skip ?_
  refine xe1 [(1, ⟨some (V.tup [V.sl 1000000000 90002 0]), some ⟨V.tup [], [(1000000000, Blk.mk [B8 B, B8 A, B8 A, nilS] true 4 none)], []⟩⟩)] [0, 1] [90002] (by kernel_rfl) (AllP.c (con_greset (B8 B) (B8 A) (B8 A) (B8 B)) AllP.n) ?_
  refine xe1 (os := [VO (V.tup [u32 (2 : Int), V.sl (1210005 : Nat) (0 : Nat) (1 : Nat), i64 (0 : Int)]), VOH [((1210005 : Nat), Blk.mk [u8 (98 : Int)] true (0 : Nat) (some ((5 : Nat), (1 : Nat))))], Con Try.prog 47 [] [V.vp [B8 B, B8 A, B8 A, V.val (Value.slice none 0 0)]] [(1210005, Blk.mk [u8 98] true 0 (some (5, 1)))] (V.tup [u32 2, V.sl 1210005 0 1, i64 0])]) [(1, ⟨none, some ⟨V.tup [u32 2, V.sl 1210005 0 (List.length [98]), i64 0], [(1210005, Blk.mk (u8s [98]) true 0 (some (5, 1)))], [(90002, true)]⟩⟩)] [0, 1, 3, 4] [90002, 1510005] (by kernel_rfl) ⟨(VO.tup (VOL.cons (VO.val _) (VOL.cons (VO.sl _ _ _) (VOL.cons (VO.val _) VOL.nil)))), ⟨(VOL.cons (VO.val _) VOL.nil), trivial⟩, (r1 ), trivial⟩ ?_
  refine xe1 (os := [Con Try.prog 51 [(1000000000, Blk.mk [B8 B, B8 A, B8 A, V.val (Value.slice none 0 0)] true 4 none)] [V.ptr 1000000000 0, i64 0, i64 7, u8 1] [(1000000000, Blk.mk [B8 X, B8 A, B8 A, V.val (Value.slice none 0 0)] true 4 none)] (i64 0)]) [(1, ⟨some (V.tup [V.sl 1000000000 90002 0]), some ⟨i64 0, [(1000000000, Blk.mk [B8 X, B8 A, B8 A, nilS] true 4 none)], []⟩⟩)] [0, 1, 3, 4] [90002, 1510005] (by kernel_rfl) ⟨(fl ), trivial⟩ ?_
  refine xe1 (os := [VO (V.tup [u32 (1 : Int), V.sl (1210005 : Nat) (0 : Nat) (1 : Nat), i64 (0 : Int)]), VOH [((1210005 : Nat), Blk.mk [u8 (97 : Int)] true (0 : Nat) (some ((5 : Nat), (1 : Nat))))], Con Try.prog 47 [] [V.vp [B8 X, B8 A, B8 A, V.val (Value.slice none 0 0)]] [(1210005, Blk.mk [u8 97] true 0 (some (5, 1)))] (V.tup [u32 1, V.sl 1210005 0 1, i64 0])]) [(1, ⟨none, some ⟨V.tup [u32 1, V.sl 1210005 0 (List.length [97]), i64 0], [(1210005, Blk.mk (u8s [97]) true 0 (some (5, 1)))], [(90002, true)]⟩⟩)] [0, 3, 4, 6, 7] [1510005, 1590005] (by kernel_rfl) ⟨(VO.tup (VOL.cons (VO.val _) (VOL.cons (VO.sl _ _ _) (VOL.cons (VO.val _) VOL.nil)))), ⟨(VOL.cons (VO.val _) VOL.nil), trivial⟩, (r2 ), trivial⟩ ?_
  refine AWP.seq ?_
  refine AWP.frz 1510005 (s' := St.mk [(0, tp (vb false)), (3, tp (V.vs [u8 98] 1)), (4, tp (i64 0)), (6, tp (V.sl 1590005 0 1)), (7, tp (i64 0))] [(1590005, Blk.mk [u8 97] true 0 (some (5, 1)))]) (by kernel_rfl) ?_
  refine AWP.frz 1590005 (s' := St.mk [(0, tp (vb false)), (3, tp (V.vs [u8 98] 1)), (4, tp (i64 0)), (6, tp (V.vs [u8 97] 1)), (7, tp (i64 0))] []) (by kernel_rfl) ?_
  refine xg1 (os := [true = true → (1 : Nat) ≤ (1 : Nat) ∧ allU8 [u8 (98 : Int)] = true ∧ True, true = true → (1 : Nat) ≤ (1 : Nat) ∧ allU8 [u8 (97 : Int)] = true ∧ True]) [] [0] [] (by kernel_rfl) ⟨(by intro hc0; first | (cases hc0; done) | (try simp only [Bool.or_false, Bool.false_or, Bool.true_and, Bool.and_true, decide_eq_true_eq, decide_eq_false_iff_not, Bool.and_eq_true, Bool.or_eq_true, Bool.or_eq_false_iff, Bool.not_eq_true', Bool.and_eq_false_iff, beq_iff_eq, bne_iff_ne, bne_eq_false_iff_eq, beq_eq_false_iff_ne, Bool.not_eq_false'] at hc0; exact ⟨(by omega), (by first | exact allU8_u8s _ | rfl | (rw [u8s_take]; exact allU8_u8s _)), trivial⟩)), (by intro hc0; first | (cases hc0; done) | (try simp only [Bool.or_false, Bool.false_or, Bool.true_and, Bool.and_true, decide_eq_true_eq, decide_eq_false_iff_not, Bool.and_eq_true, Bool.or_eq_true, Bool.or_eq_false_iff, Bool.not_eq_true', Bool.and_eq_false_iff, beq_iff_eq, bne_iff_ne, bne_eq_false_iff_eq, beq_eq_false_iff_ne, Bool.not_eq_false'] at hc0; exact ⟨(by omega), (by first | exact allU8_u8s _ | rfl | (rw [u8s_take]; exact allU8_u8s _)), trivial⟩)), trivial⟩ ?_
  refine AWP.ret ?_
  refine ⟨Or.inr rfl, Eq.trans (b := some ([], vb true)) (by kernel_rfl) ?_⟩
  rfl
end Go.Proofs.Ytmeiemdnhjnpcaa
