/- A plan: the document's example. -/
import Derived.Test.YtlfjnkobnkfioaaRg
import Derived.Test.YtlfjnkobnkfioaaPlnN
namespace Go.Proofs.Ytlfjnkobnkfioaa
open Go.Ab
set_option maxRecDepth 100000
set_option maxHeartbeats 8000000
set_option linter.unusedSimpArgs false
set_option linter.unusedVariables false
theorem con_awake27 : Con Try.prog 22 [] [] [] (vb true) := by
  obtain ⟨L1, hL1⟩ : ∃ L1, insI ⟨5, 1, [1], 1⟩ [] = L1 := ⟨_, rfl⟩
  obtain ⟨L2, hL2⟩ : ∃ L2, insI ⟨3, 2, [2], 1⟩ L1 = L2 := ⟨_, rfl⟩
  obtain ⟨K1, hK1⟩ : ∃ K1, ([] : List Int) ++ [1] = K1 := ⟨_, rfl⟩
  obtain ⟨K2, hK2⟩ : ∃ K2, K1 ++ [2] = K2 := ⟨_, rfl⟩
  have c1 := con_pins [] 0 rfl (by omega) List.Pairwise.nil [] false 5 1 [1] 1 rfl (by omega) (by simp) L1 hL1 K1 hK1
  have l1 : L1 = [⟨5, 1, [1], 1⟩] := hL1.symm
  have k1 : K1 = [1] := hK1.symm
  have c2 := con_pins L1 1 (by rw [l1]; rfl) (by omega) (by rw [l1]; exact List.pairwise_singleton _ _) K1 false 3 2 [2] 1 rfl (by omega) (by rw [k1]; simp) L2 hL2 K2 hK2
  have l2 : L2 = [⟨3, 2, [2], 1⟩, ⟨5, 1, [1], 1⟩] := by rw [← hL2, l1]; rfl
  obtain ⟨L3, hL3⟩ : ∃ L3, L2.drop 1 = L3 := ⟨_, rfl⟩
  obtain ⟨K3, hK3⟩ : ∃ K3, eraI K2 (L2.take 1) = K3 := ⟨_, rfl⟩
  have c3 := con_pon L2 2 K2 false
  have c4 := con_due L2 2 (by rw [l2]; rfl) (by omega) K2 4 1 (by rw [l2]; rfl) 1 (by omega) L3 hL3 K3 hK3
  have e4 : tcC (L2.take 1) = [.vs (u8s [2]) 1] := by rw [l2]; rfl
  rw [e4] at c4
  have c5 := con_plen L3 1 K3 false
  refine Con.of (C := ⟨Try.prog, tc, Try.f22.ntmps⟩) [] tcok Try.func22 rfl rfl (by kernel_rfl) (by kernel_rfl) ?_
  refine AWP.seq ?_
  refine AWP.regionT tcok hmix [] [0] [] (os := []) (s' := St.mk [(0, tp (vb false))] []) (by kernel_rfl) trivial ?_
  refine xe1 [(0, ⟨none, some ⟨V.ptr 3 0, [(1, Blk.mk [] true 0 (some (0, 0))), (2, Blk.mk [] true 0 (some (79, 3))), (3, Blk.mk [V.sl 2 0 0, V.mp 1, vb false] false 3 none)], []⟩⟩)] [0, 1] [40003, 40002, 40001] (by kernel_rfl) (AllP.c (con_pnew ) AllP.n) ?_
  refine AWP.seq ?_
  refine xe1 (os := [Con Try.prog 24 [(1000000000, Blk.mk [] true 0 (some (79, 3))), (2000000010, Blk.mk [V.sl 1000000000 0 0, V.mp 2000000011, vb false] false 3 none), (2000000011, Blk.mk [] true 0 (some (0, 0)))] [V.ptr 2000000010 0, u32 5, u16 1, V.vs [u8 1] 1] [(1000000000, Blk.mk (rowsI L1) true 0 (some (79, 3))), (2000000010, Blk.mk [V.sl 1000000000 0 1, V.mp 2000000011, vb false] false 3 none), (2000000011, Blk.mk (idsC K1) true 0 (some (0, 0)))] (i64 0), Con Try.prog 24 [(1000000000, Blk.mk (rowsI L1) true 0 (some (79, 3))), (2000000010, Blk.mk [V.sl 1000000000 0 1, V.mp 2000000011, vb false] false 3 none), (2000000011, Blk.mk (idsC K1) true 0 (some (0, 0)))] [V.ptr 2000000010 0, u32 3, u16 2, V.vs [u8 2] 1] [(1000000000, Blk.mk (rowsI L2) true 0 (some (79, 3))), (2000000010, Blk.mk [V.sl 1000000000 0 2, V.mp 2000000011, vb false] false 3 none), (2000000011, Blk.mk (idsC K2) true 0 (some (0, 0)))] (i64 0), Con Try.prog 38 [(2000000000, Blk.mk (rowsI L2) true 0 (some (79, 3))), (2000000010, Blk.mk [V.sl 2000000000 0 2, V.mp 2000000011, vb false] false 3 none), (2000000011, Blk.mk (idsC K2) true 0 (some (0, 0)))] [V.ptr 2000000010 0] [(2000000000, Blk.mk (rowsI L2) true 0 (some (79, 3))), (2000000010, Blk.mk [V.sl 2000000000 0 2, V.mp 2000000011, vb false] false 3 none), (2000000011, Blk.mk (idsC K2) true 0 (some (0, 0)))] (vb true)]) [(1, ⟨some V.bo, none⟩), (2, ⟨some (V.tup [V.sl 1000000000 40002 0, V.sl 2000000010 40003 0, V.sl 2000000011 40001 0]), some ⟨i64 0, [(1000000000, Blk.mk (rowsI L1) true 0 (some (79, 3))), (2000000010, Blk.mk [V.sl 1000000000 0 (0 + 1), V.mp 2000000011, vb false] false 3 none), (2000000011, Blk.mk (idsC K1) true 0 (some (0, 0)))], []⟩⟩), (6, ⟨some V.bo, none⟩), (7, ⟨some (V.tup [V.sl 1000000000 40002 0, V.sl 2000000010 40003 0, V.sl 2000000011 40001 0]), some ⟨i64 0, [(1000000000, Blk.mk (rowsI L2) true 0 (some (79, 3))), (2000000010, Blk.mk [V.sl 1000000000 0 (1 + 1), V.mp 2000000011, vb false] false 3 none), (2000000011, Blk.mk (idsC K2) true 0 (some (0, 0)))], []⟩⟩), (12, ⟨some (V.tup [V.sl 2000000000 40002 0, V.sl 2000000010 40003 0, V.sl 2000000011 40001 0]), some ⟨vb !false, [(2000000000, Blk.mk (rowsI L2) true 0 (some (79, 3))), (2000000010, Blk.mk [V.sl 2000000000 0 2, V.mp 2000000011, vb false] false 3 none), (2000000011, Blk.mk (idsC K2) true 0 (some (0, 0)))], []⟩⟩)] [0, 1, 18] [40003, 40002, 40001] (by kernel_rfl) ⟨(c1 ), (c2 ), (c3 ), trivial⟩ ?_
  refine AWP.condF (by kernel_rfl) ?_
  refine AWP.skip ?_
  refine xe1 (os := [Con Try.prog 25 [(1000000000, Blk.mk (rowsI L2) true 0 (some (79, 3))), (2000000010, Blk.mk [V.sl 1000000000 0 2, V.mp 2000000011, vb false] false 3 none), (2000000011, Blk.mk (idsC K2) true 0 (some (0, 0)))] [V.ptr 2000000010 0, u32 4] [(1000000000, Blk.mk (rowsI L3) true 0 (some (79, 3))), (2000000010, Blk.mk [V.sl 1000000000 0 1, V.mp 2000000011, vb false] false 3 none), (2000000011, Blk.mk (idsC K3) true 0 (some (0, 0)))] (V.vs [V.vs [u8 2] 1] 1)]) [(1, ⟨some (V.tup [V.sl 1000000000 40002 0, V.sl 2000000010 40003 0, V.sl 2000000011 40001 0]), some ⟨V.vs [V.vs (u8s [2]) 1] 1, [(1000000000, Blk.mk (rowsI L3) true 0 (some (79, 3))), (2000000010, Blk.mk [V.sl 1000000000 0 1, V.mp 2000000011, vb false] false 3 none), (2000000011, Blk.mk (idsC K3) true 0 (some (0, 0)))], []⟩⟩)] [0, 1, 2] [40003, 40002, 40001] (by kernel_rfl) ⟨(c4 ), trivial⟩ ?_
  refine xe1 (os := [Con Try.prog 26 [(2000000000, Blk.mk (rowsI L3) true 0 (some (79, 3))), (2000000010, Blk.mk [V.sl 2000000000 0 1, V.mp 2000000011, vb false] false 3 none), (2000000011, Blk.mk (idsC K3) true 0 (some (0, 0)))] [V.ptr 2000000010 0] [(2000000000, Blk.mk (rowsI L3) true 0 (some (79, 3))), (2000000010, Blk.mk [V.sl 2000000000 0 1, V.mp 2000000011, vb false] false 3 none), (2000000011, Blk.mk (idsC K3) true 0 (some (0, 0)))] (i64 1)]) [(13, ⟨some (V.tup [V.sl 2000000000 40002 0, V.sl 2000000010 40003 0, V.sl 2000000011 40001 0]), some ⟨i64 (↑1 : Int), [(2000000000, Blk.mk (rowsI L3) true 0 (some (79, 3))), (2000000010, Blk.mk [V.sl 2000000000 0 1, V.mp 2000000011, vb false] false 3 none), (2000000011, Blk.mk (idsC K3) true 0 (some (0, 0)))], []⟩⟩)] [0] [] (by kernel_rfl) ⟨(c5 ), trivial⟩ ?_
  refine AWP.ret ?_
  refine ⟨Or.inr rfl, Eq.trans (b := some ([], vb true)) (by kernel_rfl) ?_⟩
  first | rfl | (exfalso; omega)
end Go.Proofs.Ytlfjnkobnkfioaa
