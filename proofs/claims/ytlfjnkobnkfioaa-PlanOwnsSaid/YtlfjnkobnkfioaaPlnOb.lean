/- Bytes that the caller goes on writing. -/
import Derived.Test.YtlfjnkobnkfioaaRg
import Derived.Test.YtlfjnkobnkfioaaPlnOa
namespace Go.Proofs.Ytlfjnkobnkfioaa
open Go.Ab
set_option maxRecDepth 100000
set_option maxHeartbeats 8000000
set_option linter.unusedSimpArgs false
set_option linter.unusedVariables false
theorem con_insS (t id : Int) (c : List Int) (k : Nat) : Con Try.prog 46 [(1000000000, ⟨[], true, 0, some (79, 3)⟩), (2000000000, ⟨[u32 t, u16 id, .sl 2000000021 0 k], false, 0, some (79, 3)⟩), (2000000021, ⟨u8s c, true, 0, some (5, 1)⟩)] [.sl 1000000000 0 0, i64 0, .sl 2000000000 0 1]
      [(1000000000, ⟨[u32 t, u16 id, .sl 2000000021 0 k], false, 0, some (79, 3)⟩), (2000000000, ⟨[u32 t, u16 id, .sl 2000000021 0 k], false, 0, some (79, 3)⟩), (2000000021, ⟨u8s c, true, 0, some (5, 1)⟩)] (.sl 1000000000 0 1) := by
  refine Con.of (C := ⟨Try.prog, tc, Try.f46.ntmps⟩) [1000000000, 2000000000, 2000000021] tcok Try.func46 rfl rfl (by kernel_rfl) (by kernel_rfl) ?_
  refine AWP.seq ?_
  refine AWP.regionT tcok hmix [] [0, 1, 2, 6] [6, 1000000000, 2000000000, 2000000021] (os := []) (s' := St.mk [(0, tp (V.sl 1000000000 0 0)), (1, tp (i64 0)), (2, tp (V.sl 2000000000 0 1)), (6, tp (V.sl 6 0 0))] [(6, Blk.mk [] true 0 (some (79, 3))), (1000000000, Blk.mk [] true 0 (some (79, 3))), (2000000000, Blk.mk [u32 t, u16 id, V.sl 2000000021 0 k] false 0 (some (79, 3))), (2000000021, Blk.mk (u8s c) true 0 (some (5, 1)))]) (by kernel_rfl) trivial ?_
  refine xe0 [0, 1, 2, 6] [1000000000, 2000000000, 2000000021, 6] (by kernel_rfl) ?_
  refine xe0 [0, 1, 2, 6, 7] [1000000000, 2000000000, 2000000021, 6] (by kernel_rfl) ?_
  refine AWP.seq ?_
  refine xe0 [0, 1, 2, 6, 7, 16] [1000000000, 2000000000, 2000000021, 6] (by kernel_rfl) ?_
  refine AWP.condF (by kernel_rfl) ?_
  refine AWP.skip ?_
  refine xe0 [0, 1, 2, 6, 7, 8] [1000000000, 2000000000, 2000000021, 6] (by kernel_rfl) ?_
  refine AWP.seq ?_
  refine xe0 [0, 1, 2, 6, 7, 8, 22] [1000000000, 2000000000, 2000000021, 6] (by kernel_rfl) ?_
  refine AWP.condT (by kernel_rfl) ?_
  refine AWP.seq ?_
  refine AWP.keep' [0, 1, 2, 7, 8] [1000000000, 2000000000, 2000000021] (sf := St.mk [(0, tp (V.sl 1000000000 0 0)), (1, tp (i64 0)), (2, tp (V.sl 2000000000 0 1)), (7, tp (i64 1)), (8, tp (i64 0))] [(1000000000, Blk.mk [] true 0 (some (79, 3))), (2000000000, Blk.mk [u32 t, u16 id, V.sl 2000000021 0 k] false 0 (some (79, 3))), (2000000021, Blk.mk (u8s c) true 0 (some (5, 1)))]) (by kernel_rfl) ?_
  refine xg0 [0, 1, 2, 6, 7, 8] [1000000000, 2000000000, 2000000021] (by kernel_rfl) ?_
  refine AWP.ret ?_
  refine ⟨Or.inr rfl, Eq.trans (b := some ([(1000000000, Blk.mk [u32 t, u16 id, V.sl 2000000021 0 k] false 0 (some (79, 3))), (2000000000, Blk.mk [u32 t, u16 id, V.sl 2000000021 0 k] false 0 (some (79, 3))), (2000000021, Blk.mk (u8s c) true 0 (some (5, 1)))], V.sl 1000000000 0 1)) (by kernel_rfl) ?_⟩
  first | rfl | (exfalso; omega)
theorem con_pinsS (t id : Int) (c : List Int) (k : Nat) (hk : c.length = k) (hk2 : k ≤ 208) :
    Con Try.prog 24 [(1000000000, ⟨[], true, 0, some (79, 3)⟩), (2000000010, ⟨[.sl 1000000000 0 0, .mp 2000000011, vb false], false, 3, none⟩), (2000000011, ⟨[], true, 0, some (0, 0)⟩), (2000000020, ⟨u8s c, true, 0, some (5, 1)⟩)] [.ptr 2000000010 0, u32 t, u16 id, .sl 2000000020 0 k]
      [(1000000000, ⟨rowsI [⟨t, id, c, k⟩], true, 0, some (79, 3)⟩), (2000000010, ⟨[.sl 1000000000 0 1, .mp 2000000011, vb false], false, 3, none⟩), (2000000011, ⟨idsC [id], true, 0, some (0, 0)⟩), (2000000020, ⟨u8s c, true, 0, some (5, 1)⟩)] (i64 0) := by
  have wm1 := mget_ids id [] false (decide_eq_false (fun h => by cases h))
  have wm2 := mput_ids id [] (fun h => by cases h)
  obtain ⟨b, c1⟩ := con_bs [] 0 rfl (by omega) t List.Pairwise.nil
  have c2 := con_cln2 c k hk (by omega)
  have c3 := con_insS t id c k
  refine Con.of (C := ⟨Try.prog, tc, Try.f24.ntmps⟩) [1000000000, 2000000010, 2000000011, 2000000020] tcok Try.func24 rfl rfl (by kernel_rfl) (by kernel_rfl) ?_
  refine AWP.seq ?_
  refine AWP.regionT tcok hmix [] [0, 1, 2, 3, 8] [1000000000, 2000000010, 2000000011, 2000000020] (os := []) (s' := St.mk [(0, tp (V.ptr 2000000010 0)), (1, tp (u32 t)), (2, tp (u16 id)), (3, tp (V.sl 2000000020 0 k)), (8, tp (i64 0))] [(1000000000, Blk.mk [] true 0 (some (79, 3))), (2000000010, Blk.mk [V.sl 1000000000 0 0, V.mp 2000000011, vb false] false 3 none), (2000000011, Blk.mk [] true 0 (some (0, 0))), (2000000020, Blk.mk (u8s c) true 0 (some (5, 1)))]) (by kernel_rfl) trivial ?_
  refine AWP.seq ?_
  refine AWP.block ?_
  refine xe0 [0, 1, 2, 3, 8, 11] [1000000000, 2000000010, 2000000011, 2000000020] (by kernel_rfl) ?_
  refine AWP.condF (by kernel_rfl) ?_
  refine xe0 [0, 1, 2, 3, 8, 14] [1000000000, 2000000010, 2000000011, 2000000020] (by kernel_rfl) ?_
  refine AWP.cond (b := decide ((↑k : Int) > 208)) (by kernel_rfl) (fun hq3 => ?_) (fun hq3 => ?_)
  · simp only [decide_eq_true_eq] at hq3
    (exfalso; omega)
  simp only [decide_eq_false_iff_not] at hq3
  refine AWP.seq ?_
  refine AWP.regionT tcok hmix [] [0, 1, 2, 3, 8, 18] [1000000000, 2000000010, 2000000011, 2000000020] (os := []) (s' := St.mk [(0, tp (V.ptr 2000000010 0)), (1, tp (u32 t)), (2, tp (u16 id)), (3, tp (V.sl 2000000020 0 k)), (8, tp (i64 0)), (18, tp (vb false))] [(1000000000, Blk.mk [] true 0 (some (79, 3))), (2000000010, Blk.mk [V.sl 1000000000 0 0, V.mp 2000000011, vb false] false 3 none), (2000000011, Blk.mk [] true 0 (some (0, 0))), (2000000020, Blk.mk (u8s c) true 0 (some (5, 1)))]) (by kernel_rfl) trivial ?_
  refine AWP.condF (by kernel_rfl) ?_
  refine xe0 [0, 1, 2, 3, 8, 25] [1000000000, 2000000010, 2000000011, 2000000020] (by kernel_rfl) ?_
  refine AWP.condF (by kernel_rfl) ?_
  refine AWP.skip ?_
  refine xe1 (os := [VO (V.tup [i64 (↑(posI t []) : Int), vb b]), VOH [], Con Try.prog 44 [] [V.vs [] 0, u32 t, V.val (Value.func (Fn.func 45) (Array.mk []) (Array.mk []))] [] (V.tup [i64 (↑(posI t []) : Int), vb b]), (0 : Nat) = (0 : Nat), (0 : Nat) = (0 : Nat)]) [(5, ⟨none, some ⟨V.tup [i64 (↑(posI t []) : Int), vb b], [], [(1000000000, true)]⟩⟩)] [0, 1, 2, 3, 8, 9] [1000000000, 2000000010, 2000000011, 2000000020] (by kernel_rfl) ⟨(VO.tup (VOL.cons (VO.val _) (VOL.cons (VO.val _) VOL.nil))), trivial, (c1 ), (by omega), (by omega), trivial⟩ ?_
  refine xe1 (os := [VO (V.sl (5 : Nat) (0 : Nat) k), VOH [((5 : Nat), Blk.mk (u8s c) true (0 : Nat) (some ((5 : Nat), (1 : Nat))))], Con Try.prog 47 [] [V.vs (u8s c) k] [(5, Blk.mk (u8s c) true 0 (some (5, 1)))] (V.sl 5 0 k), (0 : Nat) = (0 : Nat), k * (1 : Nat) = List.length (u8s c), Con Try.prog 46 [(1000000000, Blk.mk [] true 0 (some (79, 3))), (2000000000, Blk.mk [u32 t, u16 id, V.sl 2000000021 0 k] false 0 (some (79, 3))), (2000000021, Blk.mk (u8s c) true 0 (some (5, 1)))] [V.sl 1000000000 0 0, i64 (↑(posI t []) : Int), V.sl 2000000000 0 1] [(1000000000, Blk.mk [u32 t, u16 id, V.sl 2000000021 0 k] false 0 (some (79, 3))), (2000000000, Blk.mk [u32 t, u16 id, V.sl 2000000021 0 k] false 0 (some (79, 3))), (2000000021, Blk.mk (u8s c) true 0 (some (5, 1)))] (V.sl 1000000000 0 1)]) [(9, ⟨none, some ⟨V.sl 5 0 k, [(5, Blk.mk (u8s c) true 0 (some (5, 1)))], [(2000000020, true)]⟩⟩), (12, ⟨some (V.tup [V.sl 1000000000 1000000000 0, V.sl 2000000000 52 0, V.sl 2000000021 510005 0]), some ⟨V.sl 1000000000 0 1, [(1000000000, Blk.mk [u32 t, u16 id, V.sl 2000000021 0 k] false 0 (some (79, 3))), (2000000000, Blk.mk [u32 t, u16 id, V.sl 2000000021 0 k] false 0 (some (79, 3))), (2000000021, Blk.mk (u8s c) true 0 (some (5, 1)))], []⟩⟩)] [0, 2, 8] [1000000000, 2000000010, 2000000011, 2000000020, 510005] (by kernel_rfl) ⟨(VO.sl _ _ _), ⟨(VOL.u8s _), trivial⟩, (c2 ), (by omega), (by (simp [len_u8s]; omega)), (c3 ), trivial⟩ ?_
  refine xe0 [8] [1000000000, 2000000010, 2000000011, 2000000020, 510005] (by kernel_rfl) ?_
  refine xe0 [8] [510005, 1000000000, 2000000010, 2000000011, 2000000020] (by kernel_rfl) ?_
  refine AWP.frz 510005 (s' := St.mk [(8, tp (i64 0))] [(1000000000, Blk.mk [u32 t, u16 id, V.vs (u8s c) k] true 0 (some (79, 3))), (2000000010, Blk.mk [V.sl 1000000000 0 1, V.mp 2000000011, vb false] false 3 none), (2000000011, Blk.mk [u16 id, vb true] true 0 (some (0, 0))), (2000000020, Blk.mk (u8s c) true 0 (some (5, 1)))]) (by kernel_rfl) ?_
  refine AWP.ret ?_
  refine ⟨Or.inr rfl, Eq.trans (b := some ([(1000000000, Blk.mk [u32 t, u16 id, V.vs (u8s c) k] true 0 (some (79, 3))), (2000000010, Blk.mk [V.sl 1000000000 0 1, V.mp 2000000011, vb false] false 3 none), (2000000011, Blk.mk [u16 id, vb true] true 0 (some (0, 0))), (2000000020, Blk.mk (u8s c) true 0 (some (5, 1)))], i64 0)) (by kernel_rfl) ?_⟩
  first | rfl | (exfalso; omega)
end Go.Proofs.Ytlfjnkobnkfioaa
