/- Chapter 6: the document's example. -/
import Derived.Test.YtmeiemdnhjnpcaaRg
import Derived.Test.YtmeiemdnhjnpcaaCelV
namespace Go.Proofs.Ytmeiemdnhjnpcaa
open Go.Ab
set_option linter.unusedSimpArgs false
set_option linter.unusedVariables false
theorem mk_cNo {seq : Int} {p : List Int} (hs : 0 ≤ seq ∧ seq < 4294967296) (h : p.length ≤ 200) : cNo (mk seq p) = seq := by
  unfold cNo
  rw [if_pos (mk_cOk h), mk_cN hs]
theorem mk_cPo {seq : Int} {p : List Int} (h : p.length ≤ 200) : cPo (mk seq p) = p := by
  unfold cPo
  rw [if_pos (mk_cOk h), mk_cP]
theorem con_awake6 : Con Try.prog 31 [] [] [] (vb true) := by
  have ba : BL [111, 108, 100] := by simp only [BL, List.forall_mem_cons, List.not_mem_nil, false_implies, implies_true, and_true]; omega
  have bb : BL [110, 101, 119] := by simp only [BL, List.forall_mem_cons, List.not_mem_nil, false_implies, implies_true, and_true]; omega
  have c1 := con_cmake_y 5 (by omega) [111, 108, 100] 3 rfl ba (by omega)
  have c2 := con_cmake_y 6 (by omega) [110, 101, 119] 3 rfl bb (by omega)
  have a0 : cE (mk 5 [111, 108, 100]) = 0 := mk_cE (by decide)
  have b0 : cE (mk 6 [110, 101, 119]) = 0 := mk_cE (by decide)
  have an : cNo (mk 5 [111, 108, 100]) = 5 := mk_cNo (by omega) (by decide)
  have bn : cNo (mk 6 [110, 101, 119]) = 6 := mk_cNo (by omega) (by decide)
  have bp : cPo (mk 6 [110, 101, 119]) = [110, 101, 119] := mk_cPo (by decide)
  have al : (mk 5 [111, 108, 100]).length = 11 := mk_len
  have bl0 : (mk 6 [110, 101, 119]).length = 11 := mk_len
  have aB : BL (mk 5 [111, 108, 100]) := mk_bl (by omega) ba (by decide)
  have bB : BL (mk 6 [110, 101, 119]) := mk_bl (by omega) bb (by decide)
  generalize mk 5 [111, 108, 100] = A at c1 a0 an al aB
  generalize mk 6 [110, 101, 119] = B at c2 b0 bn bp bl0 bB
  have hv : vst [A, A, B] = (3, B) := by simp [vst, vnx, newer, a0, b0, an, bn]
  have hw : vst [B] = (1, B) := by simp [vst, vnx, newer, b0, bn]
  have cv := con_vote_y [A, A, B] 3 rfl (by simp only [List.forall_mem_cons, List.not_mem_nil, false_implies, implies_true, and_true]; exact ⟨⟨aB, by omega⟩, ⟨aB, by omega⟩, bB, by omega⟩) (by omega) (by rw [hv]; exact Nat.le_succ 2)
  have cw := con_vote_n [B] 1 rfl (by simp only [List.forall_mem_cons, List.not_mem_nil, false_implies, implies_true, and_true]; exact ⟨bB, by omega⟩) (by omega) (by rw [hw]; exact Nat.lt_succ_self 1)
  simp only [LL, List.map_cons, List.map_nil, al, bl0, hv, hw, bn, bp] at cv cw
  refine Con.of (C := ⟨Try.prog, tc, Try.f31.ntmps⟩) [] tcok Try.func31 rfl rfl (by kernel_rfl) (by kernel_rfl) ?_
  refine xe0 [0] [] (by kernel_rfl) ?_
  refine xe1 (os := [Con Try.prog 32 [] [u32 5, V.vs [u8 111, u8 108, u8 100] 3] [(470005, Blk.mk (u8s A) true 0 (some (5, 1)))] (V.tup [V.sl 470005 0 11, i64 0])]) [(2, ⟨none, some ⟨V.tup [V.sl 470005 0 (3 + 8), i64 0], [(470005, Blk.mk (u8s A) true 0 (some (5, 1)))], []⟩⟩)] [0, 1] [620005] (by kernel_rfl) ⟨(c1 ), trivial⟩ ?_
  refine xe1 (os := [Con Try.prog 32 [] [u32 6, V.vs [u8 110, u8 101, u8 119] 3] [(470005, Blk.mk (u8s B) true 0 (some (5, 1)))] (V.tup [V.sl 470005 0 11, i64 0])]) [(2, ⟨none, some ⟨V.tup [V.sl 470005 0 (3 + 8), i64 0], [(470005, Blk.mk (u8s B) true 0 (some (5, 1)))], []⟩⟩)] [0, 1, 3] [620005, 680005] (by kernel_rfl) ⟨(c2 ), trivial⟩ ?_
  refine xe1 (os := [VO (V.tup [u32 (6 : Int), V.sl (1090005 : Nat) (0 : Nat) (3 : Nat), i64 (0 : Int)]), VOH [((1090005 : Nat), Blk.mk [u8 (110 : Int), u8 (101 : Int), u8 (119 : Int)] true (0 : Nat) (some ((5 : Nat), (1 : Nat))))], Con Try.prog 37 [] [V.vs [V.vs (u8s A) 11, V.vs (u8s A) 11, V.vs (u8s B) 11] 3] [(1090005, Blk.mk [u8 110, u8 101, u8 119] true 0 (some (5, 1)))] (V.tup [u32 6, V.sl 1090005 0 3, i64 0]), (0 : Nat) = (0 : Nat), (0 : Nat) = (0 : Nat), (0 : Nat) = (0 : Nat), (0 : Nat) = (0 : Nat)]) [(4, ⟨none, some ⟨V.tup [u32 6, V.sl 1090005 0 (List.length [110, 101, 119]), i64 0], [(1090005, Blk.mk (u8s [110, 101, 119]) true 0 (some (5, 1)))], [(680005, true), (620005, true), (27, true)]⟩⟩)] [0, 3, 5, 6, 7] [680005, 1380005] (by kernel_rfl) ⟨(VO.tup (VOL.cons (VO.val _) (VOL.cons (VO.sl _ _ _) (VOL.cons (VO.val _) VOL.nil)))), ⟨(VOL.cons (VO.val _) (VOL.cons (VO.val _) (VOL.cons (VO.val _) VOL.nil))), trivial⟩, (cv ), (by omega), (by omega), (by omega), (by omega), trivial⟩ ?_
  refine xe1 (os := [VO (V.tup [u32 (0 : Int), V.sl (3 : Nat) (0 : Nat) (0 : Nat), i64 (3 : Int)]), VOH [((3 : Nat), Blk.mk [] true (0 : Nat) (some ((5 : Nat), (1 : Nat))))], Con Try.prog 37 [] [V.vs [V.vs (u8s B) 11] 1] [(3, Blk.mk [] true 0 (some (5, 1)))] (V.tup [u32 0, V.sl 3 0 0, i64 3]), (0 : Nat) = (0 : Nat), (0 : Nat) = (0 : Nat)]) [(2, ⟨none, some ⟨V.tup [u32 0, V.sl 3 0 0, i64 3], [(3, Blk.mk [] true 0 (some (5, 1)))], [(680005, true), (34, true)]⟩⟩)] [0, 5, 6, 7, 10] [1380005] (by kernel_rfl) ⟨(VO.tup (VOL.cons (VO.val _) (VOL.cons (VO.sl _ _ _) (VOL.cons (VO.val _) VOL.nil)))), ⟨VOL.nil, trivial⟩, (cw ), (by omega), (by omega), trivial⟩ ?_
  refine AWP.seq ?_
  refine AWP.frz 1380005 (s' := St.mk [(0, tp (vb false)), (5, tp (u32 6)), (6, tp (V.vs [u8 110, u8 101, u8 119] 3)), (7, tp (i64 0)), (10, tp (i64 3))] []) (by kernel_rfl) ?_
  refine xg1 (os := [true = true → (3 : Nat) ≤ (3 : Nat) ∧ allU8 [u8 (110 : Int), u8 (101 : Int), u8 (119 : Int)] = true ∧ True]) [] [0] [] (by kernel_rfl) ⟨(by intro hc0; first | (cases hc0; done) | (try simp only [Bool.or_false, Bool.false_or, Bool.true_and, Bool.and_true, decide_eq_true_eq, decide_eq_false_iff_not, Bool.and_eq_true, Bool.or_eq_true, Bool.or_eq_false_iff, Bool.not_eq_true', Bool.and_eq_false_iff, beq_iff_eq, bne_iff_ne, bne_eq_false_iff_eq, beq_eq_false_iff_ne, Bool.not_eq_false'] at hc0; exact ⟨(by omega), (by first | exact allU8_u8s _ | rfl | (rw [u8s_take]; exact allU8_u8s _)), trivial⟩)), trivial⟩ ?_
  refine AWP.ret ?_
  refine ⟨Or.inr rfl, Eq.trans (b := some ([], vb true)) (by kernel_rfl) ?_⟩
  rfl
theorem bytes_of {raw : V} (hr : TyV tc 9 29 raw) : ∃ l : List Int, raw = .vs (u8s l) l.length ∧ BL l ∧ l.length ≤ 9223372036854775807 := by
  obtain ⟨cs, n, e1, hn, hr1⟩ := hr
  obtain ⟨l, rfl, rfl, hl⟩ := bytes_rows (fun r hr => by obtain ⟨z, rfl, z1, z2⟩ := hr; exact ⟨z, rfl, z1, Int.lt_add_one_of_le z2⟩) hr1
  cases e1
  exact ⟨l, rfl, hl, hn⟩
end Go.Proofs.Ytmeiemdnhjnpcaa
