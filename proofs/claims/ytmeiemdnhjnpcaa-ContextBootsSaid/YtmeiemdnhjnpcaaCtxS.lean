/- Chapter 8: contexts: the first one, which may be, their bytes. -/
import Derived.Test.YtmeiemdnhjnpcaaRg
import Derived.Test.YtmeiemdnhjnpcaaByA
namespace Go.Proofs.Ytmeiemdnhjnpcaa
open Go.Ab
set_option linter.unusedSimpArgs false
set_option linter.unusedVariables false
def o1 (b : Bool) : Int := if b then 1 else 0
theorem o1_bd (b : Bool) : 0 ≤ o1 b ∧ o1 b ≤ 1 := by cases b <;> simp [o1]
theorem con_default : Con Try.prog 29 [] [] [] (.agg true [u16 0, u16 0, u8 0, u8 0, u8 0, u8 0, u8 0, u8 0, i8 (-1), i8 (-1), i8 (-1), i8 (-1), i8 (-1), i8 (-1), u8 0, u16 0, vb false, u8 0]) := by
  refine Con.of (C := ⟨Try.prog, tc, Try.f29.ntmps⟩) [] tcok Try.func29 rfl rfl (by kernel_rfl) (by kernel_rfl) ?_
  refine xe0 [0] [0] (by kernel_rfl) ?_
  refine xe0 [0, 1] [0, 1] (by kernel_rfl) ?_
  refine AWP.seq ?_
  refine xe0 [0, 1, 3] [0, 1] (by kernel_rfl) ?_
  refine AWP.block ?_
  refine AWP.unroll 8 ?_
  refine xe0 [0, 1, 3, 4] [0, 1] (by kernel_rfl) ?_
  refine AWP.seq ?_
  refine AWP.condT (by kernel_rfl) ?_
  refine AWP.skip ?_
  refine AWP.seq ?_
  refine AWP.block ?_
  refine xe0 [0, 1, 2, 3, 4, 5] [0, 1] (by kernel_rfl) ?_
  refine AWP.region tcok hmix [] (os := []) (sf := St.mk [(0, tp (V.ptr 0 0)), (1, tp (V.ptr 1 0)), (2, tp (i64 0)), (3, tp (i64 0)), (4, tp (vb true)), (5, tp (i64 0)), (6, tp (i64 0)), (7, tp (V.ptr 1 8)), (8, tp (V.ptr 1 8))] [(0, Blk.mk [u16 0, u16 0, u8 0, u8 0, u8 0, u8 0, u8 0, u8 0, i8 0, i8 0, i8 0, i8 0, i8 0, i8 0, u8 0, u16 0, vb false, u8 0] true 18 none), (1, Blk.mk [u16 0, u16 0, u8 0, u8 0, u8 0, u8 0, u8 0, u8 0, i8 (-1), i8 0, i8 0, i8 0, i8 0, i8 0, u8 0, u16 0, vb false, u8 0] true 18 none)]) (by kernel_rfl) trivial ?_
  refine AWP.region tcok hmix [] (os := []) (sf := St.mk [(0, tp (V.ptr 0 0)), (1, tp (V.ptr 1 0)), (2, tp (i64 0)), (3, tp (i64 1)), (4, tp (vb true)), (5, tp (i64 0)), (6, tp (i64 0)), (7, tp (V.ptr 1 8)), (8, tp (V.ptr 1 8)), (9, tp (i64 1))] [(0, Blk.mk [u16 0, u16 0, u8 0, u8 0, u8 0, u8 0, u8 0, u8 0, i8 0, i8 0, i8 0, i8 0, i8 0, i8 0, u8 0, u16 0, vb false, u8 0] true 18 none), (1, Blk.mk [u16 0, u16 0, u8 0, u8 0, u8 0, u8 0, u8 0, u8 0, i8 (-1), i8 0, i8 0, i8 0, i8 0, i8 0, u8 0, u16 0, vb false, u8 0] true 18 none)]) (by kernel_rfl) trivial ?_
  refine xe0 [0, 1, 2, 3, 4, 5, 6, 7, 8, 9] [0, 1] (by kernel_rfl) ?_
  refine AWP.seq ?_
  refine AWP.condT (by kernel_rfl) ?_
  refine AWP.skip ?_
  refine AWP.seq ?_
  refine AWP.block ?_
  refine xe0 [0, 1, 2, 3, 4, 5, 6, 7, 8, 9] [0, 1] (by kernel_rfl) ?_
  refine AWP.keep' [0, 1, 2, 3, 4, 5, 9] [0, 1] (sf := St.mk [(0, tp (V.ptr 0 0)), (1, tp (V.ptr 1 0)), (2, tp (i64 1)), (3, tp (i64 1)), (4, tp (vb true)), (5, tp (i64 1)), (9, tp (i64 1))] [(0, Blk.mk [u16 0, u16 0, u8 0, u8 0, u8 0, u8 0, u8 0, u8 0, i8 0, i8 0, i8 0, i8 0, i8 0, i8 0, u8 0, u16 0, vb false, u8 0] true 18 none), (1, Blk.mk [u16 0, u16 0, u8 0, u8 0, u8 0, u8 0, u8 0, u8 0, i8 (-1), i8 0, i8 0, i8 0, i8 0, i8 0, u8 0, u16 0, vb false, u8 0] true 18 none)]) (by kernel_rfl) ?_
  refine AWP.region tcok hmix [] (os := []) (sf := St.mk [(0, tp (V.ptr 0 0)), (1, tp (V.ptr 1 0)), (2, tp (i64 1)), (3, tp (i64 1)), (4, tp (vb true)), (5, tp (i64 1)), (6, tp (i64 1)), (7, tp (V.ptr 1 8)), (8, tp (V.ptr 1 9)), (9, tp (i64 1))] [(0, Blk.mk [u16 0, u16 0, u8 0, u8 0, u8 0, u8 0, u8 0, u8 0, i8 0, i8 0, i8 0, i8 0, i8 0, i8 0, u8 0, u16 0, vb false, u8 0] true 18 none), (1, Blk.mk [u16 0, u16 0, u8 0, u8 0, u8 0, u8 0, u8 0, u8 0, i8 (-1), i8 (-1), i8 0, i8 0, i8 0, i8 0, u8 0, u16 0, vb false, u8 0] true 18 none)]) (by kernel_rfl) trivial ?_
  refine AWP.region tcok hmix [] (os := []) (sf := St.mk [(0, tp (V.ptr 0 0)), (1, tp (V.ptr 1 0)), (2, tp (i64 1)), (3, tp (i64 2)), (4, tp (vb true)), (5, tp (i64 1)), (6, tp (i64 1)), (7, tp (V.ptr 1 8)), (8, tp (V.ptr 1 9)), (9, tp (i64 2))] [(0, Blk.mk [u16 0, u16 0, u8 0, u8 0, u8 0, u8 0, u8 0, u8 0, i8 0, i8 0, i8 0, i8 0, i8 0, i8 0, u8 0, u16 0, vb false, u8 0] true 18 none), (1, Blk.mk [u16 0, u16 0, u8 0, u8 0, u8 0, u8 0, u8 0, u8 0, i8 (-1), i8 (-1), i8 0, i8 0, i8 0, i8 0, u8 0, u16 0, vb false, u8 0] true 18 none)]) (by kernel_rfl) trivial ?_
  refine xe0 [0, 1, 2, 3, 4, 5, 6, 7, 8, 9] [0, 1] (by kernel_rfl) ?_
  refine AWP.seq ?_
  refine AWP.condT (by kernel_rfl) ?_
  refine AWP.skip ?_
  refine AWP.seq ?_
  refine AWP.block ?_
  refine xe0 [0, 1, 2, 3, 4, 5, 6, 7, 8, 9] [0, 1] (by kernel_rfl) ?_
  refine AWP.keep' [0, 1, 2, 3, 4, 5, 9] [0, 1] (sf := St.mk [(0, tp (V.ptr 0 0)), (1, tp (V.ptr 1 0)), (2, tp (i64 2)), (3, tp (i64 2)), (4, tp (vb true)), (5, tp (i64 2)), (9, tp (i64 2))] [(0, Blk.mk [u16 0, u16 0, u8 0, u8 0, u8 0, u8 0, u8 0, u8 0, i8 0, i8 0, i8 0, i8 0, i8 0, i8 0, u8 0, u16 0, vb false, u8 0] true 18 none), (1, Blk.mk [u16 0, u16 0, u8 0, u8 0, u8 0, u8 0, u8 0, u8 0, i8 (-1), i8 (-1), i8 0, i8 0, i8 0, i8 0, u8 0, u16 0, vb false, u8 0] true 18 none)]) (by kernel_rfl) ?_
  refine AWP.region tcok hmix [] (os := []) (sf := St.mk [(0, tp (V.ptr 0 0)), (1, tp (V.ptr 1 0)), (2, tp (i64 2)), (3, tp (i64 2)), (4, tp (vb true)), (5, tp (i64 2)), (6, tp (i64 2)), (7, tp (V.ptr 1 8)), (8, tp (V.ptr 1 10)), (9, tp (i64 2))] [(0, Blk.mk [u16 0, u16 0, u8 0, u8 0, u8 0, u8 0, u8 0, u8 0, i8 0, i8 0, i8 0, i8 0, i8 0, i8 0, u8 0, u16 0, vb false, u8 0] true 18 none), (1, Blk.mk [u16 0, u16 0, u8 0, u8 0, u8 0, u8 0, u8 0, u8 0, i8 (-1), i8 (-1), i8 (-1), i8 0, i8 0, i8 0, u8 0, u16 0, vb false, u8 0] true 18 none)]) (by kernel_rfl) trivial ?_
  refine AWP.region tcok hmix [] (os := []) (sf := St.mk [(0, tp (V.ptr 0 0)), (1, tp (V.ptr 1 0)), (2, tp (i64 2)), (3, tp (i64 3)), (4, tp (vb true)), (5, tp (i64 2)), (6, tp (i64 2)), (7, tp (V.ptr 1 8)), (8, tp (V.ptr 1 10)), (9, tp (i64 3))] [(0, Blk.mk [u16 0, u16 0, u8 0, u8 0, u8 0, u8 0, u8 0, u8 0, i8 0, i8 0, i8 0, i8 0, i8 0, i8 0, u8 0, u16 0, vb false, u8 0] true 18 none), (1, Blk.mk [u16 0, u16 0, u8 0, u8 0, u8 0, u8 0, u8 0, u8 0, i8 (-1), i8 (-1), i8 (-1), i8 0, i8 0, i8 0, u8 0, u16 0, vb false, u8 0] true 18 none)]) (by kernel_rfl) trivial ?_
  refine xe0 [0, 1, 2, 3, 4, 5, 6, 7, 8, 9] [0, 1] (by kernel_rfl) ?_
  refine AWP.seq ?_
  refine AWP.condT (by kernel_rfl) ?_
  refine AWP.skip ?_
  refine AWP.seq ?_
  refine AWP.block ?_
  refine xe0 [0, 1, 2, 3, 4, 5, 6, 7, 8, 9] [0, 1] (by kernel_rfl) ?_
  refine AWP.keep' [0, 1, 2, 3, 4, 5, 9] [0, 1] (sf := St.mk [(0, tp (V.ptr 0 0)), (1, tp (V.ptr 1 0)), (2, tp (i64 3)), (3, tp (i64 3)), (4, tp (vb true)), (5, tp (i64 3)), (9, tp (i64 3))] [(0, Blk.mk [u16 0, u16 0, u8 0, u8 0, u8 0, u8 0, u8 0, u8 0, i8 0, i8 0, i8 0, i8 0, i8 0, i8 0, u8 0, u16 0, vb false, u8 0] true 18 none), (1, Blk.mk [u16 0, u16 0, u8 0, u8 0, u8 0, u8 0, u8 0, u8 0, i8 (-1), i8 (-1), i8 (-1), i8 0, i8 0, i8 0, u8 0, u16 0, vb false, u8 0] true 18 none)]) (by kernel_rfl) ?_
  refine AWP.region tcok hmix [] (os := []) (sf := St.mk [(0, tp (V.ptr 0 0)), (1, tp (V.ptr 1 0)), (2, tp (i64 3)), (3, tp (i64 3)), (4, tp (vb true)), (5, tp (i64 3)), (6, tp (i64 3)), (7, tp (V.ptr 1 8)), (8, tp (V.ptr 1 11)), (9, tp (i64 3))] [(0, Blk.mk [u16 0, u16 0, u8 0, u8 0, u8 0, u8 0, u8 0, u8 0, i8 0, i8 0, i8 0, i8 0, i8 0, i8 0, u8 0, u16 0, vb false, u8 0] true 18 none), (1, Blk.mk [u16 0, u16 0, u8 0, u8 0, u8 0, u8 0, u8 0, u8 0, i8 (-1), i8 (-1), i8 (-1), i8 (-1), i8 0, i8 0, u8 0, u16 0, vb false, u8 0] true 18 none)]) (by kernel_rfl) trivial ?_
  refine AWP.region tcok hmix [] (os := []) (sf := St.mk [(0, tp (V.ptr 0 0)), (1, tp (V.ptr 1 0)), (2, tp (i64 3)), (3, tp (i64 4)), (4, tp (vb true)), (5, tp (i64 3)), (6, tp (i64 3)), (7, tp (V.ptr 1 8)), (8, tp (V.ptr 1 11)), (9, tp (i64 4))] [(0, Blk.mk [u16 0, u16 0, u8 0, u8 0, u8 0, u8 0, u8 0, u8 0, i8 0, i8 0, i8 0, i8 0, i8 0, i8 0, u8 0, u16 0, vb false, u8 0] true 18 none), (1, Blk.mk [u16 0, u16 0, u8 0, u8 0, u8 0, u8 0, u8 0, u8 0, i8 (-1), i8 (-1), i8 (-1), i8 (-1), i8 0, i8 0, u8 0, u16 0, vb false, u8 0] true 18 none)]) (by kernel_rfl) trivial ?_
  refine xe0 [0, 1, 2, 3, 4, 5, 6, 7, 8, 9] [0, 1] (by kernel_rfl) ?_
  refine AWP.seq ?_
  refine AWP.condT (by kernel_rfl) ?_
  refine AWP.skip ?_
  refine AWP.seq ?_
  refine AWP.block ?_
  refine xe0 [0, 1, 2, 3, 4, 5, 6, 7, 8, 9] [0, 1] (by kernel_rfl) ?_
  refine AWP.keep' [0, 1, 2, 3, 4, 5, 9] [0, 1] (sf := St.mk [(0, tp (V.ptr 0 0)), (1, tp (V.ptr 1 0)), (2, tp (i64 4)), (3, tp (i64 4)), (4, tp (vb true)), (5, tp (i64 4)), (9, tp (i64 4))] [(0, Blk.mk [u16 0, u16 0, u8 0, u8 0, u8 0, u8 0, u8 0, u8 0, i8 0, i8 0, i8 0, i8 0, i8 0, i8 0, u8 0, u16 0, vb false, u8 0] true 18 none), (1, Blk.mk [u16 0, u16 0, u8 0, u8 0, u8 0, u8 0, u8 0, u8 0, i8 (-1), i8 (-1), i8 (-1), i8 (-1), i8 0, i8 0, u8 0, u16 0, vb false, u8 0] true 18 none)]) (by kernel_rfl) ?_
  refine AWP.region tcok hmix [] (os := []) (sf := St.mk [(0, tp (V.ptr 0 0)), (1, tp (V.ptr 1 0)), (2, tp (i64 4)), (3, tp (i64 4)), (4, tp (vb true)), (5, tp (i64 4)), (6, tp (i64 4)), (7, tp (V.ptr 1 8)), (8, tp (V.ptr 1 12)), (9, tp (i64 4))] [(0, Blk.mk [u16 0, u16 0, u8 0, u8 0, u8 0, u8 0, u8 0, u8 0, i8 0, i8 0, i8 0, i8 0, i8 0, i8 0, u8 0, u16 0, vb false, u8 0] true 18 none), (1, Blk.mk [u16 0, u16 0, u8 0, u8 0, u8 0, u8 0, u8 0, u8 0, i8 (-1), i8 (-1), i8 (-1), i8 (-1), i8 (-1), i8 0, u8 0, u16 0, vb false, u8 0] true 18 none)]) (by kernel_rfl) trivial ?_
  refine AWP.region tcok hmix [] (os := []) (sf := St.mk [(0, tp (V.ptr 0 0)), (1, tp (V.ptr 1 0)), (2, tp (i64 4)), (3, tp (i64 5)), (4, tp (vb true)), (5, tp (i64 4)), (6, tp (i64 4)), (7, tp (V.ptr 1 8)), (8, tp (V.ptr 1 12)), (9, tp (i64 5))] [(0, Blk.mk [u16 0, u16 0, u8 0, u8 0, u8 0, u8 0, u8 0, u8 0, i8 0, i8 0, i8 0, i8 0, i8 0, i8 0, u8 0, u16 0, vb false, u8 0] true 18 none), (1, Blk.mk [u16 0, u16 0, u8 0, u8 0, u8 0, u8 0, u8 0, u8 0, i8 (-1), i8 (-1), i8 (-1), i8 (-1), i8 (-1), i8 0, u8 0, u16 0, vb false, u8 0] true 18 none)]) (by kernel_rfl) trivial ?_
  refine xe0 [0, 1, 2, 3, 4, 5, 6, 7, 8, 9] [0, 1] (by kernel_rfl) ?_
  refine AWP.seq ?_
  refine AWP.condT (by kernel_rfl) ?_
  refine AWP.skip ?_
  refine AWP.seq ?_
  refine AWP.block ?_
  refine xe0 [0, 1, 2, 3, 4, 5, 6, 7, 8, 9] [0, 1] (by kernel_rfl) ?_
  refine AWP.keep' [0, 1, 2, 3, 4, 5, 9] [0, 1] (sf := St.mk [(0, tp (V.ptr 0 0)), (1, tp (V.ptr 1 0)), (2, tp (i64 5)), (3, tp (i64 5)), (4, tp (vb true)), (5, tp (i64 5)), (9, tp (i64 5))] [(0, Blk.mk [u16 0, u16 0, u8 0, u8 0, u8 0, u8 0, u8 0, u8 0, i8 0, i8 0, i8 0, i8 0, i8 0, i8 0, u8 0, u16 0, vb false, u8 0] true 18 none), (1, Blk.mk [u16 0, u16 0, u8 0, u8 0, u8 0, u8 0, u8 0, u8 0, i8 (-1), i8 (-1), i8 (-1), i8 (-1), i8 (-1), i8 0, u8 0, u16 0, vb false, u8 0] true 18 none)]) (by kernel_rfl) ?_
  refine AWP.region tcok hmix [] (os := []) (sf := St.mk [(0, tp (V.ptr 0 0)), (1, tp (V.ptr 1 0)), (2, tp (i64 5)), (3, tp (i64 5)), (4, tp (vb true)), (5, tp (i64 5)), (6, tp (i64 5)), (7, tp (V.ptr 1 8)), (8, tp (V.ptr 1 13)), (9, tp (i64 5))] [(0, Blk.mk [u16 0, u16 0, u8 0, u8 0, u8 0, u8 0, u8 0, u8 0, i8 0, i8 0, i8 0, i8 0, i8 0, i8 0, u8 0, u16 0, vb false, u8 0] true 18 none), (1, Blk.mk [u16 0, u16 0, u8 0, u8 0, u8 0, u8 0, u8 0, u8 0, i8 (-1), i8 (-1), i8 (-1), i8 (-1), i8 (-1), i8 (-1), u8 0, u16 0, vb false, u8 0] true 18 none)]) (by kernel_rfl) trivial ?_
  refine AWP.region tcok hmix [] (os := []) (sf := St.mk [(0, tp (V.ptr 0 0)), (1, tp (V.ptr 1 0)), (2, tp (i64 5)), (3, tp (i64 6)), (4, tp (vb true)), (5, tp (i64 5)), (6, tp (i64 5)), (7, tp (V.ptr 1 8)), (8, tp (V.ptr 1 13)), (9, tp (i64 6))] [(0, Blk.mk [u16 0, u16 0, u8 0, u8 0, u8 0, u8 0, u8 0, u8 0, i8 0, i8 0, i8 0, i8 0, i8 0, i8 0, u8 0, u16 0, vb false, u8 0] true 18 none), (1, Blk.mk [u16 0, u16 0, u8 0, u8 0, u8 0, u8 0, u8 0, u8 0, i8 (-1), i8 (-1), i8 (-1), i8 (-1), i8 (-1), i8 (-1), u8 0, u16 0, vb false, u8 0] true 18 none)]) (by kernel_rfl) trivial ?_
  refine xe0 [0, 1, 2, 3, 4, 5, 6, 7, 8, 9] [0, 1] (by kernel_rfl) ?_
  refine AWP.seq ?_
  refine AWP.condF (by kernel_rfl) ?_
  refine AWP.exit ?_
  refine xe0 [0] [0] (by kernel_rfl) ?_
  refine AWP.ret ?_
  refine ⟨Or.inr rfl, Eq.trans (b := some ([], V.agg true [u16 0, u16 0, u8 0, u8 0, u8 0, u8 0, u8 0, u8 0, i8 (-1), i8 (-1), i8 (-1), i8 (-1), i8 (-1), i8 (-1), u8 0, u16 0, vb false, u8 0])) (by kernel_rfl) ?_⟩
  rfl
theorem con_one (b : Bool) : Con Try.prog 61 [] [vb b] [] (u8 (o1 b)) := by
  refine Con.of (C := ⟨Try.prog, tc, Try.f61.ntmps⟩) [] tcok Try.func61 rfl rfl (by kernel_rfl) (by kernel_rfl) ?_
  refine xe0 [0, 2] [] (by kernel_rfl) ?_
  refine AWP.seq ?_
  refine xe0 [2, 3] [] (by kernel_rfl) ?_
  refine AWP.cond (b := b) (by kernel_rfl) (fun hq7 => ?_) (fun hq7 => ?_)
  · refine AWP.seq ?_
    refine xg0 [2] [] (by kernel_rfl) ?_
    refine AWP.ret ?_
    refine ⟨Or.inr rfl, Eq.trans (b := some ([], u8 1)) (by kernel_rfl) ?_⟩
    (cases b <;> simp_all [o1])
  refine AWP.skip ?_
  refine xe0 [2] [] (by kernel_rfl) ?_
  refine AWP.ret ?_
  refine ⟨Or.inr rfl, Eq.trans (b := some ([], u8 0)) (by kernel_rfl) ?_⟩
  (cases b <;> simp_all [o1])
theorem con_right_y (f h r0 r1 r2 r3 r4 r5 k0 k1 k2 k3 k4 k5 mo rs ih : Int) (ex : Bool) (hy : -1 ≤ k0 ∧ k0 ≤ 15 ∧ -1 ≤ k1 ∧ k1 ≤ 15 ∧ -1 ≤ k2 ∧ k2 ≤ 15 ∧ -1 ≤ k3 ∧ k3 ≤ 15 ∧ -1 ≤ k4 ∧ k4 ≤ 15 ∧ -1 ≤ k5 ∧ k5 ≤ 15 ∧ mo ≤ 3 ∧ ih ≤ 31) : Con Try.prog 22 [] [.agg true [u16 f, u16 h, u8 r0, u8 r1, u8 r2, u8 r3, u8 r4, u8 r5, i8 k0, i8 k1, i8 k2, i8 k3, i8 k4, i8 k5, u8 mo, u16 rs, vb ex, u8 ih]] [] (vb true) := by
  refine Con.of (C := ⟨Try.prog, tc, Try.f22.ntmps⟩) [] tcok Try.func22 rfl rfl (by kernel_rfl) (by kernel_rfl) ?_
  refine xe0 [1, 2] [1] (by kernel_rfl) ?_
  refine AWP.seq ?_
  refine xe0 [1, 2, 6, 7] [1] (by kernel_rfl) ?_
  refine AWP.block ?_
  refine AWP.unroll 8 ?_
  refine xe0 [1, 2, 6, 7, 8] [1] (by kernel_rfl) ?_
  refine AWP.seq ?_
  refine AWP.condT (by kernel_rfl) ?_
  refine AWP.skip ?_
  refine AWP.seq ?_
  refine AWP.block ?_
  refine xe0 [1, 2, 4, 6, 7, 8, 9] [1] (by kernel_rfl) ?_
  refine xe0 [1, 2, 4, 6, 7, 8, 9, 10, 11, 12, 15] [1] (by kernel_rfl) ?_
  refine AWP.cond (b := decide (k0 < -1) || decide (k0 ≥ 16)) (by kernel_rfl) (fun hq9 => ?_) (fun hq9 => ?_)
  · simp only [decide_eq_true_eq, Bool.or_eq_true] at hq9
    (exfalso; omega)
  simp only [decide_eq_false_iff_not, Bool.or_eq_false_iff] at hq9
  refine AWP.skip ?_
  refine AWP.region tcok hmix [] (os := []) (sf := St.mk [(1, tp (V.ptr 1 0)), (2, tp (vb false)), (4, tp (i8 k0)), (6, tp (V.agg true [i8 k0, i8 k1, i8 k2, i8 k3, i8 k4, i8 k5])), (7, tp (i64 1)), (8, tp (vb true)), (9, tp (i8 k0)), (10, tp (i8 k0)), (11, tp (vb (decide (k0 < -1)))), (12, tp (vb (decide (k0 < -1)))), (15, tp (vb (decide (k0 < -1) || decide (k0 ≥ 16)))), (16, tp (i64 1))] [(1, Blk.mk [u16 f, u16 h, u8 r0, u8 r1, u8 r2, u8 r3, u8 r4, u8 r5, i8 k0, i8 k1, i8 k2, i8 k3, i8 k4, i8 k5, u8 mo, u16 rs, vb ex, u8 ih] true 18 none)]) (by kernel_rfl) trivial ?_
  refine xe0 [1, 2, 4, 6, 7, 8, 9, 10, 11, 12, 15, 16] [1] (by kernel_rfl) ?_
  refine AWP.seq ?_
  refine AWP.condT (by kernel_rfl) ?_
  refine AWP.skip ?_
  refine AWP.seq ?_
  refine AWP.block ?_
  refine xe0 [1, 2, 4, 6, 7, 8, 9, 10, 11, 12, 15, 16] [1] (by kernel_rfl) ?_
  refine xe0 [1, 2, 4, 6, 7, 8, 9, 10, 11, 12, 15, 16] [1] (by kernel_rfl) ?_
  refine AWP.cond (b := decide (k1 < -1) || decide (k1 ≥ 16)) (by kernel_rfl) (fun hq11 => ?_) (fun hq11 => ?_)
  · simp only [decide_eq_true_eq, Bool.or_eq_true] at hq11
    (exfalso; omega)
  simp only [decide_eq_false_iff_not, Bool.or_eq_false_iff] at hq11
  refine AWP.skip ?_
  refine AWP.region tcok hmix [] (os := []) (sf := St.mk [(1, tp (V.ptr 1 0)), (2, tp (vb false)), (4, tp (i8 k1)), (6, tp (V.agg true [i8 k0, i8 k1, i8 k2, i8 k3, i8 k4, i8 k5])), (7, tp (i64 2)), (8, tp (vb true)), (9, tp (i8 k1)), (10, tp (i8 k1)), (11, tp (vb (decide (k1 < -1)))), (12, tp (vb (decide (k1 < -1)))), (15, tp (vb (decide (k1 < -1) || decide (k1 ≥ 16)))), (16, tp (i64 2))] [(1, Blk.mk [u16 f, u16 h, u8 r0, u8 r1, u8 r2, u8 r3, u8 r4, u8 r5, i8 k0, i8 k1, i8 k2, i8 k3, i8 k4, i8 k5, u8 mo, u16 rs, vb ex, u8 ih] true 18 none)]) (by kernel_rfl) trivial ?_
  refine xe0 [1, 2, 4, 6, 7, 8, 9, 10, 11, 12, 15, 16] [1] (by kernel_rfl) ?_
  refine AWP.seq ?_
  refine AWP.condT (by kernel_rfl) ?_
  refine AWP.skip ?_
  refine AWP.seq ?_
  refine AWP.block ?_
  refine xe0 [1, 2, 4, 6, 7, 8, 9, 10, 11, 12, 15, 16] [1] (by kernel_rfl) ?_
  refine xe0 [1, 2, 4, 6, 7, 8, 9, 10, 11, 12, 15, 16] [1] (by kernel_rfl) ?_
  refine AWP.cond (b := decide (k2 < -1) || decide (k2 ≥ 16)) (by kernel_rfl) (fun hq13 => ?_) (fun hq13 => ?_)
  · simp only [decide_eq_true_eq, Bool.or_eq_true] at hq13
    (exfalso; omega)
  simp only [decide_eq_false_iff_not, Bool.or_eq_false_iff] at hq13
  refine AWP.skip ?_
  refine AWP.region tcok hmix [] (os := []) (sf := St.mk [(1, tp (V.ptr 1 0)), (2, tp (vb false)), (4, tp (i8 k2)), (6, tp (V.agg true [i8 k0, i8 k1, i8 k2, i8 k3, i8 k4, i8 k5])), (7, tp (i64 3)), (8, tp (vb true)), (9, tp (i8 k2)), (10, tp (i8 k2)), (11, tp (vb (decide (k2 < -1)))), (12, tp (vb (decide (k2 < -1)))), (15, tp (vb (decide (k2 < -1) || decide (k2 ≥ 16)))), (16, tp (i64 3))] [(1, Blk.mk [u16 f, u16 h, u8 r0, u8 r1, u8 r2, u8 r3, u8 r4, u8 r5, i8 k0, i8 k1, i8 k2, i8 k3, i8 k4, i8 k5, u8 mo, u16 rs, vb ex, u8 ih] true 18 none)]) (by kernel_rfl) trivial ?_
  refine xe0 [1, 2, 4, 6, 7, 8, 9, 10, 11, 12, 15, 16] [1] (by kernel_rfl) ?_
  refine AWP.seq ?_
  refine AWP.condT (by kernel_rfl) ?_
  refine AWP.skip ?_
  refine AWP.seq ?_
  refine AWP.block ?_
  refine xe0 [1, 2, 4, 6, 7, 8, 9, 10, 11, 12, 15, 16] [1] (by kernel_rfl) ?_
  refine xe0 [1, 2, 4, 6, 7, 8, 9, 10, 11, 12, 15, 16] [1] (by kernel_rfl) ?_
  refine AWP.cond (b := decide (k3 < -1) || decide (k3 ≥ 16)) (by kernel_rfl) (fun hq15 => ?_) (fun hq15 => ?_)
  · simp only [decide_eq_true_eq, Bool.or_eq_true] at hq15
    (exfalso; omega)
  simp only [decide_eq_false_iff_not, Bool.or_eq_false_iff] at hq15
  refine AWP.skip ?_
  refine AWP.region tcok hmix [] (os := []) (sf := St.mk [(1, tp (V.ptr 1 0)), (2, tp (vb false)), (4, tp (i8 k3)), (6, tp (V.agg true [i8 k0, i8 k1, i8 k2, i8 k3, i8 k4, i8 k5])), (7, tp (i64 4)), (8, tp (vb true)), (9, tp (i8 k3)), (10, tp (i8 k3)), (11, tp (vb (decide (k3 < -1)))), (12, tp (vb (decide (k3 < -1)))), (15, tp (vb (decide (k3 < -1) || decide (k3 ≥ 16)))), (16, tp (i64 4))] [(1, Blk.mk [u16 f, u16 h, u8 r0, u8 r1, u8 r2, u8 r3, u8 r4, u8 r5, i8 k0, i8 k1, i8 k2, i8 k3, i8 k4, i8 k5, u8 mo, u16 rs, vb ex, u8 ih] true 18 none)]) (by kernel_rfl) trivial ?_
  refine xe0 [1, 2, 4, 6, 7, 8, 9, 10, 11, 12, 15, 16] [1] (by kernel_rfl) ?_
  refine AWP.seq ?_
  refine AWP.condT (by kernel_rfl) ?_
  refine AWP.skip ?_
  refine AWP.seq ?_
  refine AWP.block ?_
  refine xe0 [1, 2, 4, 6, 7, 8, 9, 10, 11, 12, 15, 16] [1] (by kernel_rfl) ?_
  refine xe0 [1, 2, 4, 6, 7, 8, 9, 10, 11, 12, 15, 16] [1] (by kernel_rfl) ?_
  refine AWP.cond (b := decide (k4 < -1) || decide (k4 ≥ 16)) (by kernel_rfl) (fun hq17 => ?_) (fun hq17 => ?_)
  · simp only [decide_eq_true_eq, Bool.or_eq_true] at hq17
    (exfalso; omega)
  simp only [decide_eq_false_iff_not, Bool.or_eq_false_iff] at hq17
  refine AWP.skip ?_
  refine AWP.region tcok hmix [] (os := []) (sf := St.mk [(1, tp (V.ptr 1 0)), (2, tp (vb false)), (4, tp (i8 k4)), (6, tp (V.agg true [i8 k0, i8 k1, i8 k2, i8 k3, i8 k4, i8 k5])), (7, tp (i64 5)), (8, tp (vb true)), (9, tp (i8 k4)), (10, tp (i8 k4)), (11, tp (vb (decide (k4 < -1)))), (12, tp (vb (decide (k4 < -1)))), (15, tp (vb (decide (k4 < -1) || decide (k4 ≥ 16)))), (16, tp (i64 5))] [(1, Blk.mk [u16 f, u16 h, u8 r0, u8 r1, u8 r2, u8 r3, u8 r4, u8 r5, i8 k0, i8 k1, i8 k2, i8 k3, i8 k4, i8 k5, u8 mo, u16 rs, vb ex, u8 ih] true 18 none)]) (by kernel_rfl) trivial ?_
  refine xe0 [1, 2, 4, 6, 7, 8, 9, 10, 11, 12, 15, 16] [1] (by kernel_rfl) ?_
  refine AWP.seq ?_
  refine AWP.condT (by kernel_rfl) ?_
  refine AWP.skip ?_
  refine AWP.seq ?_
  refine AWP.block ?_
  refine xe0 [1, 2, 4, 6, 7, 8, 9, 10, 11, 12, 15, 16] [1] (by kernel_rfl) ?_
  refine xe0 [1, 2, 4, 6, 7, 8, 9, 10, 11, 12, 15, 16] [1] (by kernel_rfl) ?_
  refine AWP.cond (b := decide (k5 < -1) || decide (k5 ≥ 16)) (by kernel_rfl) (fun hq19 => ?_) (fun hq19 => ?_)
  · simp only [decide_eq_true_eq, Bool.or_eq_true] at hq19
    (exfalso; omega)
  simp only [decide_eq_false_iff_not, Bool.or_eq_false_iff] at hq19
  refine AWP.skip ?_
  refine AWP.region tcok hmix [] (os := []) (sf := St.mk [(1, tp (V.ptr 1 0)), (2, tp (vb false)), (4, tp (i8 k5)), (6, tp (V.agg true [i8 k0, i8 k1, i8 k2, i8 k3, i8 k4, i8 k5])), (7, tp (i64 6)), (8, tp (vb true)), (9, tp (i8 k5)), (10, tp (i8 k5)), (11, tp (vb (decide (k5 < -1)))), (12, tp (vb (decide (k5 < -1)))), (15, tp (vb (decide (k5 < -1) || decide (k5 ≥ 16)))), (16, tp (i64 6))] [(1, Blk.mk [u16 f, u16 h, u8 r0, u8 r1, u8 r2, u8 r3, u8 r4, u8 r5, i8 k0, i8 k1, i8 k2, i8 k3, i8 k4, i8 k5, u8 mo, u16 rs, vb ex, u8 ih] true 18 none)]) (by kernel_rfl) trivial ?_
  refine xe0 [1, 2, 4, 6, 7, 8, 9, 10, 11, 12, 15, 16] [1] (by kernel_rfl) ?_
  refine AWP.seq ?_
  refine AWP.condF (by kernel_rfl) ?_
  refine AWP.exit ?_
  refine xe0 [2] [] (by kernel_rfl) ?_
  refine AWP.ret ?_
  refine ⟨Or.inr rfl, Eq.trans (b := some ([], vb (decide (mo ≤ 3) && decide (ih ≤ 31)))) (by kernel_rfl) ?_⟩
  first | (exfalso; omega) | (have e1 : mo ≤ 3 := (by omega); have e2 : ih ≤ 31 := (by omega); have e3 : mo < 4 := (by omega); have e4 : ih < 32 := (by omega); simp [e1, e2, e3, e4]; done)
theorem con_right_n (f h r0 r1 r2 r3 r4 r5 k0 k1 k2 k3 k4 k5 mo rs ih : Int) (ex : Bool) (hn : ¬(-1 ≤ k0 ∧ k0 ≤ 15 ∧ -1 ≤ k1 ∧ k1 ≤ 15 ∧ -1 ≤ k2 ∧ k2 ≤ 15 ∧ -1 ≤ k3 ∧ k3 ≤ 15 ∧ -1 ≤ k4 ∧ k4 ≤ 15 ∧ -1 ≤ k5 ∧ k5 ≤ 15 ∧ mo ≤ 3 ∧ ih ≤ 31)) : Con Try.prog 22 [] [.agg true [u16 f, u16 h, u8 r0, u8 r1, u8 r2, u8 r3, u8 r4, u8 r5, i8 k0, i8 k1, i8 k2, i8 k3, i8 k4, i8 k5, u8 mo, u16 rs, vb ex, u8 ih]] [] (vb false) := by
  refine Con.of (C := ⟨Try.prog, tc, Try.f22.ntmps⟩) [] tcok Try.func22 rfl rfl (by kernel_rfl) (by kernel_rfl) ?_
  refine xe0 [1, 2] [1] (by kernel_rfl) ?_
  refine AWP.seq ?_
  refine xe0 [1, 2, 6, 7] [1] (by kernel_rfl) ?_
  refine AWP.block ?_
  refine AWP.unroll 8 ?_
  refine xe0 [1, 2, 6, 7, 8] [1] (by kernel_rfl) ?_
  refine AWP.seq ?_
  refine AWP.condT (by kernel_rfl) ?_
  refine AWP.skip ?_
  refine AWP.seq ?_
  refine AWP.block ?_
  refine xe0 [1, 2, 4, 6, 7, 8, 9] [1] (by kernel_rfl) ?_
  refine xe0 [1, 2, 4, 6, 7, 8, 9, 10, 11, 12, 15] [1] (by kernel_rfl) ?_
  refine AWP.cond (b := decide (k0 < -1) || decide (k0 ≥ 16)) (by kernel_rfl) (fun hq22 => ?_) (fun hq22 => ?_)
  · simp only [decide_eq_true_eq, Bool.or_eq_true] at hq22
    refine xe0 [1, 2, 4, 6, 7, 8, 9, 10, 11, 12, 15] [1] (by kernel_rfl) ?_
    refine AWP.ret ?_
    refine ⟨Or.inr rfl, Eq.trans (b := some ([], vb false)) (by kernel_rfl) ?_⟩
    first | rfl | (have e1 : ¬(mo ≤ 3 ∧ ih ≤ 31) := (by omega); simp; omega)
  simp only [decide_eq_false_iff_not, Bool.or_eq_false_iff] at hq22
  refine AWP.skip ?_
  refine AWP.region tcok hmix [] (os := []) (sf := St.mk [(1, tp (V.ptr 1 0)), (2, tp (vb false)), (4, tp (i8 k0)), (6, tp (V.agg true [i8 k0, i8 k1, i8 k2, i8 k3, i8 k4, i8 k5])), (7, tp (i64 1)), (8, tp (vb true)), (9, tp (i8 k0)), (10, tp (i8 k0)), (11, tp (vb (decide (k0 < -1)))), (12, tp (vb (decide (k0 < -1)))), (15, tp (vb (decide (k0 < -1) || decide (k0 ≥ 16)))), (16, tp (i64 1))] [(1, Blk.mk [u16 f, u16 h, u8 r0, u8 r1, u8 r2, u8 r3, u8 r4, u8 r5, i8 k0, i8 k1, i8 k2, i8 k3, i8 k4, i8 k5, u8 mo, u16 rs, vb ex, u8 ih] true 18 none)]) (by kernel_rfl) trivial ?_
  refine xe0 [1, 2, 4, 6, 7, 8, 9, 10, 11, 12, 15, 16] [1] (by kernel_rfl) ?_
  refine AWP.seq ?_
  refine AWP.condT (by kernel_rfl) ?_
  refine AWP.skip ?_
  refine AWP.seq ?_
  refine AWP.block ?_
  refine xe0 [1, 2, 4, 6, 7, 8, 9, 10, 11, 12, 15, 16] [1] (by kernel_rfl) ?_
  refine xe0 [1, 2, 4, 6, 7, 8, 9, 10, 11, 12, 15, 16] [1] (by kernel_rfl) ?_
  refine AWP.cond (b := decide (k1 < -1) || decide (k1 ≥ 16)) (by kernel_rfl) (fun hq24 => ?_) (fun hq24 => ?_)
  · simp only [decide_eq_true_eq, Bool.or_eq_true] at hq24
    refine xe0 [1, 2, 4, 6, 7, 8, 9, 10, 11, 12, 15, 16] [1] (by kernel_rfl) ?_
    refine AWP.ret ?_
    refine ⟨Or.inr rfl, Eq.trans (b := some ([], vb false)) (by kernel_rfl) ?_⟩
    first | rfl | (have e1 : ¬(mo ≤ 3 ∧ ih ≤ 31) := (by omega); simp; omega)
  simp only [decide_eq_false_iff_not, Bool.or_eq_false_iff] at hq24
  refine AWP.skip ?_
  refine AWP.region tcok hmix [] (os := []) (sf := St.mk [(1, tp (V.ptr 1 0)), (2, tp (vb false)), (4, tp (i8 k1)), (6, tp (V.agg true [i8 k0, i8 k1, i8 k2, i8 k3, i8 k4, i8 k5])), (7, tp (i64 2)), (8, tp (vb true)), (9, tp (i8 k1)), (10, tp (i8 k1)), (11, tp (vb (decide (k1 < -1)))), (12, tp (vb (decide (k1 < -1)))), (15, tp (vb (decide (k1 < -1) || decide (k1 ≥ 16)))), (16, tp (i64 2))] [(1, Blk.mk [u16 f, u16 h, u8 r0, u8 r1, u8 r2, u8 r3, u8 r4, u8 r5, i8 k0, i8 k1, i8 k2, i8 k3, i8 k4, i8 k5, u8 mo, u16 rs, vb ex, u8 ih] true 18 none)]) (by kernel_rfl) trivial ?_
  refine xe0 [1, 2, 4, 6, 7, 8, 9, 10, 11, 12, 15, 16] [1] (by kernel_rfl) ?_
  refine AWP.seq ?_
  refine AWP.condT (by kernel_rfl) ?_
  refine AWP.skip ?_
  refine AWP.seq ?_
  refine AWP.block ?_
  refine xe0 [1, 2, 4, 6, 7, 8, 9, 10, 11, 12, 15, 16] [1] (by kernel_rfl) ?_
  refine xe0 [1, 2, 4, 6, 7, 8, 9, 10, 11, 12, 15, 16] [1] (by kernel_rfl) ?_
  refine AWP.cond (b := decide (k2 < -1) || decide (k2 ≥ 16)) (by kernel_rfl) (fun hq26 => ?_) (fun hq26 => ?_)
  · simp only [decide_eq_true_eq, Bool.or_eq_true] at hq26
    refine xe0 [1, 2, 4, 6, 7, 8, 9, 10, 11, 12, 15, 16] [1] (by kernel_rfl) ?_
    refine AWP.ret ?_
    refine ⟨Or.inr rfl, Eq.trans (b := some ([], vb false)) (by kernel_rfl) ?_⟩
    first | rfl | (have e1 : ¬(mo ≤ 3 ∧ ih ≤ 31) := (by omega); simp; omega)
  simp only [decide_eq_false_iff_not, Bool.or_eq_false_iff] at hq26
  refine AWP.skip ?_
  refine AWP.region tcok hmix [] (os := []) (sf := St.mk [(1, tp (V.ptr 1 0)), (2, tp (vb false)), (4, tp (i8 k2)), (6, tp (V.agg true [i8 k0, i8 k1, i8 k2, i8 k3, i8 k4, i8 k5])), (7, tp (i64 3)), (8, tp (vb true)), (9, tp (i8 k2)), (10, tp (i8 k2)), (11, tp (vb (decide (k2 < -1)))), (12, tp (vb (decide (k2 < -1)))), (15, tp (vb (decide (k2 < -1) || decide (k2 ≥ 16)))), (16, tp (i64 3))] [(1, Blk.mk [u16 f, u16 h, u8 r0, u8 r1, u8 r2, u8 r3, u8 r4, u8 r5, i8 k0, i8 k1, i8 k2, i8 k3, i8 k4, i8 k5, u8 mo, u16 rs, vb ex, u8 ih] true 18 none)]) (by kernel_rfl) trivial ?_
  refine xe0 [1, 2, 4, 6, 7, 8, 9, 10, 11, 12, 15, 16] [1] (by kernel_rfl) ?_
  refine AWP.seq ?_
  refine AWP.condT (by kernel_rfl) ?_
  refine AWP.skip ?_
  refine AWP.seq ?_
  refine AWP.block ?_
  refine xe0 [1, 2, 4, 6, 7, 8, 9, 10, 11, 12, 15, 16] [1] (by kernel_rfl) ?_
  refine xe0 [1, 2, 4, 6, 7, 8, 9, 10, 11, 12, 15, 16] [1] (by kernel_rfl) ?_
  refine AWP.cond (b := decide (k3 < -1) || decide (k3 ≥ 16)) (by kernel_rfl) (fun hq28 => ?_) (fun hq28 => ?_)
  · simp only [decide_eq_true_eq, Bool.or_eq_true] at hq28
    refine xe0 [1, 2, 4, 6, 7, 8, 9, 10, 11, 12, 15, 16] [1] (by kernel_rfl) ?_
    refine AWP.ret ?_
    refine ⟨Or.inr rfl, Eq.trans (b := some ([], vb false)) (by kernel_rfl) ?_⟩
    first | rfl | (have e1 : ¬(mo ≤ 3 ∧ ih ≤ 31) := (by omega); simp; omega)
  simp only [decide_eq_false_iff_not, Bool.or_eq_false_iff] at hq28
  refine AWP.skip ?_
  refine AWP.region tcok hmix [] (os := []) (sf := St.mk [(1, tp (V.ptr 1 0)), (2, tp (vb false)), (4, tp (i8 k3)), (6, tp (V.agg true [i8 k0, i8 k1, i8 k2, i8 k3, i8 k4, i8 k5])), (7, tp (i64 4)), (8, tp (vb true)), (9, tp (i8 k3)), (10, tp (i8 k3)), (11, tp (vb (decide (k3 < -1)))), (12, tp (vb (decide (k3 < -1)))), (15, tp (vb (decide (k3 < -1) || decide (k3 ≥ 16)))), (16, tp (i64 4))] [(1, Blk.mk [u16 f, u16 h, u8 r0, u8 r1, u8 r2, u8 r3, u8 r4, u8 r5, i8 k0, i8 k1, i8 k2, i8 k3, i8 k4, i8 k5, u8 mo, u16 rs, vb ex, u8 ih] true 18 none)]) (by kernel_rfl) trivial ?_
  refine xe0 [1, 2, 4, 6, 7, 8, 9, 10, 11, 12, 15, 16] [1] (by kernel_rfl) ?_
  refine AWP.seq ?_
  refine AWP.condT (by kernel_rfl) ?_
  refine AWP.skip ?_
  refine AWP.seq ?_
  refine AWP.block ?_
  refine xe0 [1, 2, 4, 6, 7, 8, 9, 10, 11, 12, 15, 16] [1] (by kernel_rfl) ?_
  refine xe0 [1, 2, 4, 6, 7, 8, 9, 10, 11, 12, 15, 16] [1] (by kernel_rfl) ?_
  refine AWP.cond (b := decide (k4 < -1) || decide (k4 ≥ 16)) (by kernel_rfl) (fun hq30 => ?_) (fun hq30 => ?_)
  · simp only [decide_eq_true_eq, Bool.or_eq_true] at hq30
    refine xe0 [1, 2, 4, 6, 7, 8, 9, 10, 11, 12, 15, 16] [1] (by kernel_rfl) ?_
    refine AWP.ret ?_
    refine ⟨Or.inr rfl, Eq.trans (b := some ([], vb false)) (by kernel_rfl) ?_⟩
    first | rfl | (have e1 : ¬(mo ≤ 3 ∧ ih ≤ 31) := (by omega); simp; omega)
  simp only [decide_eq_false_iff_not, Bool.or_eq_false_iff] at hq30
  refine AWP.skip ?_
  refine AWP.region tcok hmix [] (os := []) (sf := St.mk [(1, tp (V.ptr 1 0)), (2, tp (vb false)), (4, tp (i8 k4)), (6, tp (V.agg true [i8 k0, i8 k1, i8 k2, i8 k3, i8 k4, i8 k5])), (7, tp (i64 5)), (8, tp (vb true)), (9, tp (i8 k4)), (10, tp (i8 k4)), (11, tp (vb (decide (k4 < -1)))), (12, tp (vb (decide (k4 < -1)))), (15, tp (vb (decide (k4 < -1) || decide (k4 ≥ 16)))), (16, tp (i64 5))] [(1, Blk.mk [u16 f, u16 h, u8 r0, u8 r1, u8 r2, u8 r3, u8 r4, u8 r5, i8 k0, i8 k1, i8 k2, i8 k3, i8 k4, i8 k5, u8 mo, u16 rs, vb ex, u8 ih] true 18 none)]) (by kernel_rfl) trivial ?_
  refine xe0 [1, 2, 4, 6, 7, 8, 9, 10, 11, 12, 15, 16] [1] (by kernel_rfl) ?_
  refine AWP.seq ?_
  refine AWP.condT (by kernel_rfl) ?_
  refine AWP.skip ?_
  refine AWP.seq ?_
  refine AWP.block ?_
  refine xe0 [1, 2, 4, 6, 7, 8, 9, 10, 11, 12, 15, 16] [1] (by kernel_rfl) ?_
  refine xe0 [1, 2, 4, 6, 7, 8, 9, 10, 11, 12, 15, 16] [1] (by kernel_rfl) ?_
  refine AWP.cond (b := decide (k5 < -1) || decide (k5 ≥ 16)) (by kernel_rfl) (fun hq32 => ?_) (fun hq32 => ?_)
  · simp only [decide_eq_true_eq, Bool.or_eq_true] at hq32
    refine xe0 [1, 2, 4, 6, 7, 8, 9, 10, 11, 12, 15, 16] [1] (by kernel_rfl) ?_
    refine AWP.ret ?_
    refine ⟨Or.inr rfl, Eq.trans (b := some ([], vb false)) (by kernel_rfl) ?_⟩
    first | rfl | (have e1 : ¬(mo ≤ 3 ∧ ih ≤ 31) := (by omega); simp; omega)
  simp only [decide_eq_false_iff_not, Bool.or_eq_false_iff] at hq32
  refine AWP.skip ?_
  refine AWP.region tcok hmix [] (os := []) (sf := St.mk [(1, tp (V.ptr 1 0)), (2, tp (vb false)), (4, tp (i8 k5)), (6, tp (V.agg true [i8 k0, i8 k1, i8 k2, i8 k3, i8 k4, i8 k5])), (7, tp (i64 6)), (8, tp (vb true)), (9, tp (i8 k5)), (10, tp (i8 k5)), (11, tp (vb (decide (k5 < -1)))), (12, tp (vb (decide (k5 < -1)))), (15, tp (vb (decide (k5 < -1) || decide (k5 ≥ 16)))), (16, tp (i64 6))] [(1, Blk.mk [u16 f, u16 h, u8 r0, u8 r1, u8 r2, u8 r3, u8 r4, u8 r5, i8 k0, i8 k1, i8 k2, i8 k3, i8 k4, i8 k5, u8 mo, u16 rs, vb ex, u8 ih] true 18 none)]) (by kernel_rfl) trivial ?_
  refine xe0 [1, 2, 4, 6, 7, 8, 9, 10, 11, 12, 15, 16] [1] (by kernel_rfl) ?_
  refine AWP.seq ?_
  refine AWP.condF (by kernel_rfl) ?_
  refine AWP.exit ?_
  refine xe0 [2] [] (by kernel_rfl) ?_
  refine AWP.ret ?_
  refine ⟨Or.inr rfl, Eq.trans (b := some ([], vb (decide (mo ≤ 3) && decide (ih ≤ 31)))) (by kernel_rfl) ?_⟩
  first | rfl | (have e1 : ¬(mo ≤ 3 ∧ ih ≤ 31) := (by omega); simp; omega)
theorem con_bytes_n (f h r0 r1 r2 r3 r4 r5 k0 k1 k2 k3 k4 k5 mo rs ih : Int) (ex : Bool) (hn : ¬(-1 ≤ k0 ∧ k0 ≤ 15 ∧ -1 ≤ k1 ∧ k1 ≤ 15 ∧ -1 ≤ k2 ∧ k2 ≤ 15 ∧ -1 ≤ k3 ∧ k3 ≤ 15 ∧ -1 ≤ k4 ∧ k4 ≤ 15 ∧ -1 ≤ k5 ∧ k5 ≤ 15 ∧ mo ≤ 3 ∧ ih ≤ 31)) : Con Try.prog 19 [] [.agg true [u16 f, u16 h, u8 r0, u8 r1, u8 r2, u8 r3, u8 r4, u8 r5, i8 k0, i8 k1, i8 k2, i8 k3, i8 k4, i8 k5, u8 mo, u16 rs, vb ex, u8 ih]] [(2, ⟨[], true, 0, some (5, 1)⟩)] (.sl 2 0 0) := by
  refine Con.of (C := ⟨Try.prog, tc, Try.f19.ntmps⟩) [2] tcok Try.func19 rfl rfl (by kernel_rfl) (by kernel_rfl) ?_
  refine xe0 [1, 2] [1, 2] (by kernel_rfl) ?_
  refine AWP.seq ?_
  refine xe1 [(1, ⟨none, some ⟨vb false, [], []⟩⟩)] [1, 2, 8] [1, 2] (by kernel_rfl) (AllP.c (con_right_n (f) (h) (r0) (r1) (r2) (r3) (r4) (r5) (k0) (k1) (k2) (k3) (k4) (k5) (mo) (rs) (ih) (ex) (by assumption)) AllP.n) ?_
  refine AWP.condT (by kernel_rfl) ?_
  refine AWP.seq ?_
  refine AWP.keep' [1] [1] (sf := St.mk [(1, tp (V.ptr 1 0))] [(1, Blk.mk [u16 f, u16 h, u8 r0, u8 r1, u8 r2, u8 r3, u8 r4, u8 r5, i8 k0, i8 k1, i8 k2, i8 k3, i8 k4, i8 k5, u8 mo, u16 rs, vb ex, u8 ih] true 18 none)]) (by kernel_rfl) ?_
  refine xg0 [1, 2] [1, 2] (by kernel_rfl) ?_
  refine AWP.ret ?_
  refine ⟨Or.inr rfl, Eq.trans (b := some ([(2, Blk.mk [] true 0 (some (5, 1)))], V.sl 2 0 0)) (by kernel_rfl) ?_⟩
  rfl
theorem con_bytes (f h r0 r1 r2 r3 r4 r5 k0 k1 k2 k3 k4 k5 mo rs ih : Int) (ex : Bool) (hb : 0 ≤ f ∧ f < 65536 ∧ 0 ≤ h ∧ h < 65536 ∧ 0 ≤ r0 ∧ r0 < 256 ∧ 0 ≤ r1 ∧ r1 < 256 ∧ 0 ≤ r2 ∧ r2 < 256 ∧ 0 ≤ r3 ∧ r3 < 256 ∧ 0 ≤ r4 ∧ r4 < 256 ∧ 0 ≤ r5 ∧ r5 < 256 ∧ -128 ≤ k0 ∧ k0 < 128 ∧ -128 ≤ k1 ∧ k1 < 128 ∧ -128 ≤ k2 ∧ k2 < 128 ∧ -128 ≤ k3 ∧ k3 < 128 ∧ -128 ≤ k4 ∧ k4 < 128 ∧ -128 ≤ k5 ∧ k5 < 128 ∧ 0 ≤ mo ∧ mo < 256 ∧ 0 ≤ rs ∧ rs < 65536 ∧ 0 ≤ ih ∧ ih < 256) (hy : -1 ≤ k0 ∧ k0 ≤ 15 ∧ -1 ≤ k1 ∧ k1 ≤ 15 ∧ -1 ≤ k2 ∧ k2 ≤ 15 ∧ -1 ≤ k3 ∧ k3 ≤ 15 ∧ -1 ≤ k4 ∧ k4 ≤ 15 ∧ -1 ≤ k5 ∧ k5 ≤ 15 ∧ mo ≤ 3 ∧ ih ≤ 31) : Con Try.prog 19 [] [.agg true [u16 f, u16 h, u8 r0, u8 r1, u8 r2, u8 r3, u8 r4, u8 r5, i8 k0, i8 k1, i8 k2, i8 k3, i8 k4, i8 k5, u8 mo, u16 rs, vb ex, u8 ih]] [(23, ⟨[u8 (f / 256), u8 (f % 256), u8 (h / 256), u8 (h % 256), u8 (r0), u8 (r1), u8 (r2), u8 (r3), u8 (r4), u8 (r5), u8 (k0 + 1), u8 (k1 + 1), u8 (k2 + 1), u8 (k3 + 1), u8 (k4 + 1), u8 (k5 + 1), u8 (mo), u8 (rs / 256), u8 (rs % 256), u8 (o1 ex), u8 (ih)], true, 0, some (5, 1)⟩)] (.sl 23 0 21) := by
  have oe := o1_bd ex
  refine Con.of (C := ⟨Try.prog, tc, Try.f19.ntmps⟩) [23] tcok Try.func19 rfl rfl (by kernel_rfl) (by kernel_rfl) ?_
  refine xe0 [1, 2] [1, 2] (by kernel_rfl) ?_
  refine AWP.seq ?_
  refine xe1 [(1, ⟨none, some ⟨vb true, [], []⟩⟩)] [1, 2, 8] [1, 2] (by kernel_rfl) (AllP.c (con_right_y (f) (h) (r0) (r1) (r2) (r3) (r4) (r5) (k0) (k1) (k2) (k3) (k4) (k5) (mo) (rs) (ih) (ex) (by assumption)) AllP.n) ?_
  refine AWP.condF (by kernel_rfl) ?_
  refine AWP.skip ?_
  refine xe1 (os := [(0 : Int) ≤ (8 : Int), u16 (ishr IntKind.u16 f 8) = u16 (f / 256), u8 (IntKind.wrap IntKind.u8 (f / 256)) = u8 (f / 256), u8 (IntKind.wrap IntKind.u8 f) = u8 (f % 256), (0 : Int) ≤ (8 : Int), u16 (ishr IntKind.u16 h 8) = u16 (h / 256), u8 (IntKind.wrap IntKind.u8 (h / 256)) = u8 (h / 256), u8 (IntKind.wrap IntKind.u8 h) = u8 (h % 256)]) [(2, ⟨some (u16 (f / 256)), none⟩), (3, ⟨some (u8 (f / 256)), none⟩), (6, ⟨some (u8 (f % 256)), none⟩), (9, ⟨some (u16 (h / 256)), none⟩), (10, ⟨some (u8 (h / 256)), none⟩), (13, ⟨some (u8 (h % 256)), none⟩)] [1, 2, 3] [1, 2, 23] (by kernel_rfl) ⟨(by omega), (shr_eq rfl (by decide)), (wr_u8 (by omega) (by omega)), wm_u8, (by omega), (shr_eq rfl (by decide)), (wr_u8 (by omega) (by omega)), wm_u8, trivial⟩ ?_
  refine xe1 (os := [(8 : Nat) ≤ (18 : Nat), (4 : Nat) = (4 : Nat), (10 : Nat) ≤ (9223372036854775807 : Nat), (10 : Nat) ≤ (140737488355328 : Nat), [u8 (f / (256 : Int)), u8 (f % (256 : Int)), u8 (h / (256 : Int)), u8 (h % (256 : Int)), u8 r0, u8 r1, u8 r2, u8 r3, u8 r4, u8 r5] = [u8 (f / (256 : Int)), u8 (f % (256 : Int)), u8 (h / (256 : Int)), u8 (h % (256 : Int)), u8 r0, u8 r1, u8 r2, u8 r3, u8 r4, u8 r5], (10 : Nat) = (10 : Nat)]) [(3, ⟨some (V.tup [V.agg true [u8 (f / 256), u8 (f % 256), u8 (h / 256), u8 (h % 256), u8 r0, u8 r1, u8 r2, u8 r3, u8 r4, u8 r5], V.sl 0 0 10]), none⟩)] [1, 2, 3] [1, 2, 23] (by kernel_rfl) ⟨(by omega), (by omega), (by omega), (by omega), (by first | rfl | (simp only [u8s_drop, u8s_take, List.drop_zero, Nat.mul_one, Nat.one_mul, u8s_app, List.take_length, List.nil_append, List.append_nil]; done) | (simp [u8s]; done) | (simp [u8s]; omega)), (by omega), trivial⟩ ?_
  refine AWP.seq ?_
  refine xe0 [1, 2, 3, 29, 30] [1, 2, 23] (by kernel_rfl) ?_
  refine AWP.block ?_
  refine AWP.unroll 8 ?_
  refine xe0 [1, 2, 3, 29, 30, 31] [1, 2, 23] (by kernel_rfl) ?_
  refine AWP.seq ?_
  refine AWP.condT (by kernel_rfl) ?_
  refine AWP.skip ?_
  refine AWP.seq ?_
  refine AWP.block ?_
  refine xe0 [1, 2, 3, 5, 29, 30, 31, 32] [1, 2, 23] (by kernel_rfl) ?_
  refine AWP.region tcok hmix [(2, ⟨some (i8 (k0 + 1)), none⟩), (3, ⟨some (u8 (k0 + 1)), none⟩)] (os := [i8 (IntKind.wrap IntKind.i8 (k0 + 1)) = i8 (k0 + 1), u8 (IntKind.wrap IntKind.u8 (k0 + 1)) = u8 (k0 + 1)]) (sf := St.mk [(1, tp (V.ptr 1 0)), (2, tp (V.sl 2 0 0)), (3, tp (V.sl 23 0 11)), (5, tp (i8 k0)), (29, tp (V.agg true [i8 k0, i8 k1, i8 k2, i8 k3, i8 k4, i8 k5])), (30, tp (i64 0)), (31, tp (vb true)), (32, tp (i8 k0)), (33, tp V.top), (34, tp (i8 k0)), (35, tp (i8 (k0 + 1))), (36, tp (u8 (k0 + 1))), (37, tp (V.sl 37 0 1)), (38, tp (V.sl 23 0 11))] [(1, Blk.mk [u16 f, u16 h, u8 r0, u8 r1, u8 r2, u8 r3, u8 r4, u8 r5, i8 k0, i8 k1, i8 k2, i8 k3, i8 k4, i8 k5, u8 mo, u16 rs, vb ex, u8 ih] true 18 none), (2, Blk.mk [] true 0 (some (5, 1))), (23, Blk.mk [u8 (f / 256), u8 (f % 256), u8 (h / 256), u8 (h % 256), u8 r0, u8 r1, u8 r2, u8 r3, u8 r4, u8 r5, u8 (k0 + 1)] true 0 (some (5, 1))), (37, Blk.mk [u8 (k0 + 1)] true 0 (some (5, 1)))]) (by kernel_rfl) ⟨(wr_i8 (by omega) (by omega)), (wr_u8 (by omega) (by omega)), trivial⟩ ?_
  refine AWP.region tcok hmix [] (os := []) (sf := St.mk [(1, tp (V.ptr 1 0)), (2, tp (V.sl 2 0 0)), (3, tp (V.sl 23 0 11)), (5, tp (i8 k0)), (29, tp (V.agg true [i8 k0, i8 k1, i8 k2, i8 k3, i8 k4, i8 k5])), (30, tp (i64 1)), (31, tp (vb true)), (32, tp (i8 k0)), (33, tp V.top), (34, tp (i8 k0)), (35, tp (i8 (k0 + 1))), (36, tp (u8 (k0 + 1))), (37, tp (V.sl 37 0 1)), (38, tp (V.sl 23 0 11)), (39, tp (i64 1))] [(1, Blk.mk [u16 f, u16 h, u8 r0, u8 r1, u8 r2, u8 r3, u8 r4, u8 r5, i8 k0, i8 k1, i8 k2, i8 k3, i8 k4, i8 k5, u8 mo, u16 rs, vb ex, u8 ih] true 18 none), (2, Blk.mk [] true 0 (some (5, 1))), (23, Blk.mk [u8 (f / 256), u8 (f % 256), u8 (h / 256), u8 (h % 256), u8 r0, u8 r1, u8 r2, u8 r3, u8 r4, u8 r5, u8 (k0 + 1)] true 0 (some (5, 1))), (37, Blk.mk [u8 (k0 + 1)] true 0 (some (5, 1)))]) (by kernel_rfl) trivial ?_
  refine xe0 [1, 2, 3, 5, 29, 30, 31, 32, 33, 34, 35, 36, 37, 38, 39] [1, 2, 23, 37] (by kernel_rfl) ?_
  refine AWP.seq ?_
  refine AWP.condT (by kernel_rfl) ?_
  refine AWP.skip ?_
  refine AWP.seq ?_
  refine AWP.block ?_
  refine xe0 [1, 2, 3, 5, 29, 30, 31, 32, 33, 34, 35, 36, 37, 38, 39] [1, 2, 23, 37] (by kernel_rfl) ?_
  refine AWP.keep' [1, 2, 3, 5, 29, 30, 31, 32, 39] [1, 2, 23] (sf := St.mk [(1, tp (V.ptr 1 0)), (2, tp (V.sl 2 0 0)), (3, tp (V.sl 23 0 11)), (5, tp (i8 k1)), (29, tp (V.agg true [i8 k0, i8 k1, i8 k2, i8 k3, i8 k4, i8 k5])), (30, tp (i64 1)), (31, tp (vb true)), (32, tp (i8 k1)), (39, tp (i64 1))] [(1, Blk.mk [u16 f, u16 h, u8 r0, u8 r1, u8 r2, u8 r3, u8 r4, u8 r5, i8 k0, i8 k1, i8 k2, i8 k3, i8 k4, i8 k5, u8 mo, u16 rs, vb ex, u8 ih] true 18 none), (2, Blk.mk [] true 0 (some (5, 1))), (23, Blk.mk [u8 (f / 256), u8 (f % 256), u8 (h / 256), u8 (h % 256), u8 r0, u8 r1, u8 r2, u8 r3, u8 r4, u8 r5, u8 (k0 + 1)] true 0 (some (5, 1)))]) (by kernel_rfl) ?_
  refine AWP.region tcok hmix [(2, ⟨some (i8 (k1 + 1)), none⟩), (3, ⟨some (u8 (k1 + 1)), none⟩)] (os := [i8 (IntKind.wrap IntKind.i8 (k1 + 1)) = i8 (k1 + 1), u8 (IntKind.wrap IntKind.u8 (k1 + 1)) = u8 (k1 + 1)]) (sf := St.mk [(1, tp (V.ptr 1 0)), (2, tp (V.sl 2 0 0)), (3, tp (V.sl 23 0 12)), (5, tp (i8 k1)), (29, tp (V.agg true [i8 k0, i8 k1, i8 k2, i8 k3, i8 k4, i8 k5])), (30, tp (i64 1)), (31, tp (vb true)), (32, tp (i8 k1)), (33, tp V.top), (34, tp (i8 k1)), (35, tp (i8 (k1 + 1))), (36, tp (u8 (k1 + 1))), (37, tp (V.sl 37 0 1)), (38, tp (V.sl 23 0 12)), (39, tp (i64 1))] [(1, Blk.mk [u16 f, u16 h, u8 r0, u8 r1, u8 r2, u8 r3, u8 r4, u8 r5, i8 k0, i8 k1, i8 k2, i8 k3, i8 k4, i8 k5, u8 mo, u16 rs, vb ex, u8 ih] true 18 none), (2, Blk.mk [] true 0 (some (5, 1))), (23, Blk.mk [u8 (f / 256), u8 (f % 256), u8 (h / 256), u8 (h % 256), u8 r0, u8 r1, u8 r2, u8 r3, u8 r4, u8 r5, u8 (k0 + 1), u8 (k1 + 1)] true 0 (some (5, 1))), (37, Blk.mk [u8 (k1 + 1)] true 0 (some (5, 1)))]) (by kernel_rfl) ⟨(wr_i8 (by omega) (by omega)), (wr_u8 (by omega) (by omega)), trivial⟩ ?_
  refine AWP.region tcok hmix [] (os := []) (sf := St.mk [(1, tp (V.ptr 1 0)), (2, tp (V.sl 2 0 0)), (3, tp (V.sl 23 0 12)), (5, tp (i8 k1)), (29, tp (V.agg true [i8 k0, i8 k1, i8 k2, i8 k3, i8 k4, i8 k5])), (30, tp (i64 2)), (31, tp (vb true)), (32, tp (i8 k1)), (33, tp V.top), (34, tp (i8 k1)), (35, tp (i8 (k1 + 1))), (36, tp (u8 (k1 + 1))), (37, tp (V.sl 37 0 1)), (38, tp (V.sl 23 0 12)), (39, tp (i64 2))] [(1, Blk.mk [u16 f, u16 h, u8 r0, u8 r1, u8 r2, u8 r3, u8 r4, u8 r5, i8 k0, i8 k1, i8 k2, i8 k3, i8 k4, i8 k5, u8 mo, u16 rs, vb ex, u8 ih] true 18 none), (2, Blk.mk [] true 0 (some (5, 1))), (23, Blk.mk [u8 (f / 256), u8 (f % 256), u8 (h / 256), u8 (h % 256), u8 r0, u8 r1, u8 r2, u8 r3, u8 r4, u8 r5, u8 (k0 + 1), u8 (k1 + 1)] true 0 (some (5, 1))), (37, Blk.mk [u8 (k1 + 1)] true 0 (some (5, 1)))]) (by kernel_rfl) trivial ?_
  refine xe0 [1, 2, 3, 5, 29, 30, 31, 32, 33, 34, 35, 36, 37, 38, 39] [1, 2, 23, 37] (by kernel_rfl) ?_
  refine AWP.seq ?_
  refine AWP.condT (by kernel_rfl) ?_
  refine AWP.skip ?_
  refine AWP.seq ?_
  refine AWP.block ?_
  refine xe0 [1, 2, 3, 5, 29, 30, 31, 32, 33, 34, 35, 36, 37, 38, 39] [1, 2, 23, 37] (by kernel_rfl) ?_
  refine AWP.keep' [1, 2, 3, 5, 29, 30, 31, 32, 39] [1, 2, 23] (sf := St.mk [(1, tp (V.ptr 1 0)), (2, tp (V.sl 2 0 0)), (3, tp (V.sl 23 0 12)), (5, tp (i8 k2)), (29, tp (V.agg true [i8 k0, i8 k1, i8 k2, i8 k3, i8 k4, i8 k5])), (30, tp (i64 2)), (31, tp (vb true)), (32, tp (i8 k2)), (39, tp (i64 2))] [(1, Blk.mk [u16 f, u16 h, u8 r0, u8 r1, u8 r2, u8 r3, u8 r4, u8 r5, i8 k0, i8 k1, i8 k2, i8 k3, i8 k4, i8 k5, u8 mo, u16 rs, vb ex, u8 ih] true 18 none), (2, Blk.mk [] true 0 (some (5, 1))), (23, Blk.mk [u8 (f / 256), u8 (f % 256), u8 (h / 256), u8 (h % 256), u8 r0, u8 r1, u8 r2, u8 r3, u8 r4, u8 r5, u8 (k0 + 1), u8 (k1 + 1)] true 0 (some (5, 1)))]) (by kernel_rfl) ?_
  refine AWP.region tcok hmix [(2, ⟨some (i8 (k2 + 1)), none⟩), (3, ⟨some (u8 (k2 + 1)), none⟩)] (os := [i8 (IntKind.wrap IntKind.i8 (k2 + 1)) = i8 (k2 + 1), u8 (IntKind.wrap IntKind.u8 (k2 + 1)) = u8 (k2 + 1)]) (sf := St.mk [(1, tp (V.ptr 1 0)), (2, tp (V.sl 2 0 0)), (3, tp (V.sl 23 0 13)), (5, tp (i8 k2)), (29, tp (V.agg true [i8 k0, i8 k1, i8 k2, i8 k3, i8 k4, i8 k5])), (30, tp (i64 2)), (31, tp (vb true)), (32, tp (i8 k2)), (33, tp V.top), (34, tp (i8 k2)), (35, tp (i8 (k2 + 1))), (36, tp (u8 (k2 + 1))), (37, tp (V.sl 37 0 1)), (38, tp (V.sl 23 0 13)), (39, tp (i64 2))] [(1, Blk.mk [u16 f, u16 h, u8 r0, u8 r1, u8 r2, u8 r3, u8 r4, u8 r5, i8 k0, i8 k1, i8 k2, i8 k3, i8 k4, i8 k5, u8 mo, u16 rs, vb ex, u8 ih] true 18 none), (2, Blk.mk [] true 0 (some (5, 1))), (23, Blk.mk [u8 (f / 256), u8 (f % 256), u8 (h / 256), u8 (h % 256), u8 r0, u8 r1, u8 r2, u8 r3, u8 r4, u8 r5, u8 (k0 + 1), u8 (k1 + 1), u8 (k2 + 1)] true 0 (some (5, 1))), (37, Blk.mk [u8 (k2 + 1)] true 0 (some (5, 1)))]) (by kernel_rfl) ⟨(wr_i8 (by omega) (by omega)), (wr_u8 (by omega) (by omega)), trivial⟩ ?_
  refine AWP.region tcok hmix [] (os := []) (sf := St.mk [(1, tp (V.ptr 1 0)), (2, tp (V.sl 2 0 0)), (3, tp (V.sl 23 0 13)), (5, tp (i8 k2)), (29, tp (V.agg true [i8 k0, i8 k1, i8 k2, i8 k3, i8 k4, i8 k5])), (30, tp (i64 3)), (31, tp (vb true)), (32, tp (i8 k2)), (33, tp V.top), (34, tp (i8 k2)), (35, tp (i8 (k2 + 1))), (36, tp (u8 (k2 + 1))), (37, tp (V.sl 37 0 1)), (38, tp (V.sl 23 0 13)), (39, tp (i64 3))] [(1, Blk.mk [u16 f, u16 h, u8 r0, u8 r1, u8 r2, u8 r3, u8 r4, u8 r5, i8 k0, i8 k1, i8 k2, i8 k3, i8 k4, i8 k5, u8 mo, u16 rs, vb ex, u8 ih] true 18 none), (2, Blk.mk [] true 0 (some (5, 1))), (23, Blk.mk [u8 (f / 256), u8 (f % 256), u8 (h / 256), u8 (h % 256), u8 r0, u8 r1, u8 r2, u8 r3, u8 r4, u8 r5, u8 (k0 + 1), u8 (k1 + 1), u8 (k2 + 1)] true 0 (some (5, 1))), (37, Blk.mk [u8 (k2 + 1)] true 0 (some (5, 1)))]) (by kernel_rfl) trivial ?_
  refine xe0 [1, 2, 3, 5, 29, 30, 31, 32, 33, 34, 35, 36, 37, 38, 39] [1, 2, 23, 37] (by kernel_rfl) ?_
  refine AWP.seq ?_
  refine AWP.condT (by kernel_rfl) ?_
  refine AWP.skip ?_
  refine AWP.seq ?_
  refine AWP.block ?_
  refine xe0 [1, 2, 3, 5, 29, 30, 31, 32, 33, 34, 35, 36, 37, 38, 39] [1, 2, 23, 37] (by kernel_rfl) ?_
  refine AWP.keep' [1, 2, 3, 5, 29, 30, 31, 32, 39] [1, 2, 23] (sf := St.mk [(1, tp (V.ptr 1 0)), (2, tp (V.sl 2 0 0)), (3, tp (V.sl 23 0 13)), (5, tp (i8 k3)), (29, tp (V.agg true [i8 k0, i8 k1, i8 k2, i8 k3, i8 k4, i8 k5])), (30, tp (i64 3)), (31, tp (vb true)), (32, tp (i8 k3)), (39, tp (i64 3))] [(1, Blk.mk [u16 f, u16 h, u8 r0, u8 r1, u8 r2, u8 r3, u8 r4, u8 r5, i8 k0, i8 k1, i8 k2, i8 k3, i8 k4, i8 k5, u8 mo, u16 rs, vb ex, u8 ih] true 18 none), (2, Blk.mk [] true 0 (some (5, 1))), (23, Blk.mk [u8 (f / 256), u8 (f % 256), u8 (h / 256), u8 (h % 256), u8 r0, u8 r1, u8 r2, u8 r3, u8 r4, u8 r5, u8 (k0 + 1), u8 (k1 + 1), u8 (k2 + 1)] true 0 (some (5, 1)))]) (by kernel_rfl) ?_
  refine AWP.region tcok hmix [(2, ⟨some (i8 (k3 + 1)), none⟩), (3, ⟨some (u8 (k3 + 1)), none⟩)] (os := [i8 (IntKind.wrap IntKind.i8 (k3 + 1)) = i8 (k3 + 1), u8 (IntKind.wrap IntKind.u8 (k3 + 1)) = u8 (k3 + 1)]) (sf := St.mk [(1, tp (V.ptr 1 0)), (2, tp (V.sl 2 0 0)), (3, tp (V.sl 23 0 14)), (5, tp (i8 k3)), (29, tp (V.agg true [i8 k0, i8 k1, i8 k2, i8 k3, i8 k4, i8 k5])), (30, tp (i64 3)), (31, tp (vb true)), (32, tp (i8 k3)), (33, tp V.top), (34, tp (i8 k3)), (35, tp (i8 (k3 + 1))), (36, tp (u8 (k3 + 1))), (37, tp (V.sl 37 0 1)), (38, tp (V.sl 23 0 14)), (39, tp (i64 3))] [(1, Blk.mk [u16 f, u16 h, u8 r0, u8 r1, u8 r2, u8 r3, u8 r4, u8 r5, i8 k0, i8 k1, i8 k2, i8 k3, i8 k4, i8 k5, u8 mo, u16 rs, vb ex, u8 ih] true 18 none), (2, Blk.mk [] true 0 (some (5, 1))), (23, Blk.mk [u8 (f / 256), u8 (f % 256), u8 (h / 256), u8 (h % 256), u8 r0, u8 r1, u8 r2, u8 r3, u8 r4, u8 r5, u8 (k0 + 1), u8 (k1 + 1), u8 (k2 + 1), u8 (k3 + 1)] true 0 (some (5, 1))), (37, Blk.mk [u8 (k3 + 1)] true 0 (some (5, 1)))]) (by kernel_rfl) ⟨(wr_i8 (by omega) (by omega)), (wr_u8 (by omega) (by omega)), trivial⟩ ?_
  refine AWP.region tcok hmix [] (os := []) (sf := St.mk [(1, tp (V.ptr 1 0)), (2, tp (V.sl 2 0 0)), (3, tp (V.sl 23 0 14)), (5, tp (i8 k3)), (29, tp (V.agg true [i8 k0, i8 k1, i8 k2, i8 k3, i8 k4, i8 k5])), (30, tp (i64 4)), (31, tp (vb true)), (32, tp (i8 k3)), (33, tp V.top), (34, tp (i8 k3)), (35, tp (i8 (k3 + 1))), (36, tp (u8 (k3 + 1))), (37, tp (V.sl 37 0 1)), (38, tp (V.sl 23 0 14)), (39, tp (i64 4))] [(1, Blk.mk [u16 f, u16 h, u8 r0, u8 r1, u8 r2, u8 r3, u8 r4, u8 r5, i8 k0, i8 k1, i8 k2, i8 k3, i8 k4, i8 k5, u8 mo, u16 rs, vb ex, u8 ih] true 18 none), (2, Blk.mk [] true 0 (some (5, 1))), (23, Blk.mk [u8 (f / 256), u8 (f % 256), u8 (h / 256), u8 (h % 256), u8 r0, u8 r1, u8 r2, u8 r3, u8 r4, u8 r5, u8 (k0 + 1), u8 (k1 + 1), u8 (k2 + 1), u8 (k3 + 1)] true 0 (some (5, 1))), (37, Blk.mk [u8 (k3 + 1)] true 0 (some (5, 1)))]) (by kernel_rfl) trivial ?_
  refine xe0 [1, 2, 3, 5, 29, 30, 31, 32, 33, 34, 35, 36, 37, 38, 39] [1, 2, 23, 37] (by kernel_rfl) ?_
  refine AWP.seq ?_
  refine AWP.condT (by kernel_rfl) ?_
  refine AWP.skip ?_
  refine AWP.seq ?_
  refine AWP.block ?_
  refine xe0 [1, 2, 3, 5, 29, 30, 31, 32, 33, 34, 35, 36, 37, 38, 39] [1, 2, 23, 37] (by kernel_rfl) ?_
  refine AWP.keep' [1, 2, 3, 5, 29, 30, 31, 32, 39] [1, 2, 23] (sf := St.mk [(1, tp (V.ptr 1 0)), (2, tp (V.sl 2 0 0)), (3, tp (V.sl 23 0 14)), (5, tp (i8 k4)), (29, tp (V.agg true [i8 k0, i8 k1, i8 k2, i8 k3, i8 k4, i8 k5])), (30, tp (i64 4)), (31, tp (vb true)), (32, tp (i8 k4)), (39, tp (i64 4))] [(1, Blk.mk [u16 f, u16 h, u8 r0, u8 r1, u8 r2, u8 r3, u8 r4, u8 r5, i8 k0, i8 k1, i8 k2, i8 k3, i8 k4, i8 k5, u8 mo, u16 rs, vb ex, u8 ih] true 18 none), (2, Blk.mk [] true 0 (some (5, 1))), (23, Blk.mk [u8 (f / 256), u8 (f % 256), u8 (h / 256), u8 (h % 256), u8 r0, u8 r1, u8 r2, u8 r3, u8 r4, u8 r5, u8 (k0 + 1), u8 (k1 + 1), u8 (k2 + 1), u8 (k3 + 1)] true 0 (some (5, 1)))]) (by kernel_rfl) ?_
  refine AWP.region tcok hmix [(2, ⟨some (i8 (k4 + 1)), none⟩), (3, ⟨some (u8 (k4 + 1)), none⟩)] (os := [i8 (IntKind.wrap IntKind.i8 (k4 + 1)) = i8 (k4 + 1), u8 (IntKind.wrap IntKind.u8 (k4 + 1)) = u8 (k4 + 1)]) (sf := St.mk [(1, tp (V.ptr 1 0)), (2, tp (V.sl 2 0 0)), (3, tp (V.sl 23 0 15)), (5, tp (i8 k4)), (29, tp (V.agg true [i8 k0, i8 k1, i8 k2, i8 k3, i8 k4, i8 k5])), (30, tp (i64 4)), (31, tp (vb true)), (32, tp (i8 k4)), (33, tp V.top), (34, tp (i8 k4)), (35, tp (i8 (k4 + 1))), (36, tp (u8 (k4 + 1))), (37, tp (V.sl 37 0 1)), (38, tp (V.sl 23 0 15)), (39, tp (i64 4))] [(1, Blk.mk [u16 f, u16 h, u8 r0, u8 r1, u8 r2, u8 r3, u8 r4, u8 r5, i8 k0, i8 k1, i8 k2, i8 k3, i8 k4, i8 k5, u8 mo, u16 rs, vb ex, u8 ih] true 18 none), (2, Blk.mk [] true 0 (some (5, 1))), (23, Blk.mk [u8 (f / 256), u8 (f % 256), u8 (h / 256), u8 (h % 256), u8 r0, u8 r1, u8 r2, u8 r3, u8 r4, u8 r5, u8 (k0 + 1), u8 (k1 + 1), u8 (k2 + 1), u8 (k3 + 1), u8 (k4 + 1)] true 0 (some (5, 1))), (37, Blk.mk [u8 (k4 + 1)] true 0 (some (5, 1)))]) (by kernel_rfl) ⟨(wr_i8 (by omega) (by omega)), (wr_u8 (by omega) (by omega)), trivial⟩ ?_
  refine AWP.region tcok hmix [] (os := []) (sf := St.mk [(1, tp (V.ptr 1 0)), (2, tp (V.sl 2 0 0)), (3, tp (V.sl 23 0 15)), (5, tp (i8 k4)), (29, tp (V.agg true [i8 k0, i8 k1, i8 k2, i8 k3, i8 k4, i8 k5])), (30, tp (i64 5)), (31, tp (vb true)), (32, tp (i8 k4)), (33, tp V.top), (34, tp (i8 k4)), (35, tp (i8 (k4 + 1))), (36, tp (u8 (k4 + 1))), (37, tp (V.sl 37 0 1)), (38, tp (V.sl 23 0 15)), (39, tp (i64 5))] [(1, Blk.mk [u16 f, u16 h, u8 r0, u8 r1, u8 r2, u8 r3, u8 r4, u8 r5, i8 k0, i8 k1, i8 k2, i8 k3, i8 k4, i8 k5, u8 mo, u16 rs, vb ex, u8 ih] true 18 none), (2, Blk.mk [] true 0 (some (5, 1))), (23, Blk.mk [u8 (f / 256), u8 (f % 256), u8 (h / 256), u8 (h % 256), u8 r0, u8 r1, u8 r2, u8 r3, u8 r4, u8 r5, u8 (k0 + 1), u8 (k1 + 1), u8 (k2 + 1), u8 (k3 + 1), u8 (k4 + 1)] true 0 (some (5, 1))), (37, Blk.mk [u8 (k4 + 1)] true 0 (some (5, 1)))]) (by kernel_rfl) trivial ?_
  refine xe0 [1, 2, 3, 5, 29, 30, 31, 32, 33, 34, 35, 36, 37, 38, 39] [1, 2, 23, 37] (by kernel_rfl) ?_
  refine AWP.seq ?_
  refine AWP.condT (by kernel_rfl) ?_
  refine AWP.skip ?_
  refine AWP.seq ?_
  refine AWP.block ?_
  refine xe0 [1, 2, 3, 5, 29, 30, 31, 32, 33, 34, 35, 36, 37, 38, 39] [1, 2, 23, 37] (by kernel_rfl) ?_
  refine AWP.keep' [1, 2, 3, 5, 29, 30, 31, 32, 39] [1, 2, 23] (sf := St.mk [(1, tp (V.ptr 1 0)), (2, tp (V.sl 2 0 0)), (3, tp (V.sl 23 0 15)), (5, tp (i8 k5)), (29, tp (V.agg true [i8 k0, i8 k1, i8 k2, i8 k3, i8 k4, i8 k5])), (30, tp (i64 5)), (31, tp (vb true)), (32, tp (i8 k5)), (39, tp (i64 5))] [(1, Blk.mk [u16 f, u16 h, u8 r0, u8 r1, u8 r2, u8 r3, u8 r4, u8 r5, i8 k0, i8 k1, i8 k2, i8 k3, i8 k4, i8 k5, u8 mo, u16 rs, vb ex, u8 ih] true 18 none), (2, Blk.mk [] true 0 (some (5, 1))), (23, Blk.mk [u8 (f / 256), u8 (f % 256), u8 (h / 256), u8 (h % 256), u8 r0, u8 r1, u8 r2, u8 r3, u8 r4, u8 r5, u8 (k0 + 1), u8 (k1 + 1), u8 (k2 + 1), u8 (k3 + 1), u8 (k4 + 1)] true 0 (some (5, 1)))]) (by kernel_rfl) ?_
  refine AWP.region tcok hmix [(2, ⟨some (i8 (k5 + 1)), none⟩), (3, ⟨some (u8 (k5 + 1)), none⟩)] (os := [i8 (IntKind.wrap IntKind.i8 (k5 + 1)) = i8 (k5 + 1), u8 (IntKind.wrap IntKind.u8 (k5 + 1)) = u8 (k5 + 1)]) (sf := St.mk [(1, tp (V.ptr 1 0)), (2, tp (V.sl 2 0 0)), (3, tp (V.sl 23 0 16)), (5, tp (i8 k5)), (29, tp (V.agg true [i8 k0, i8 k1, i8 k2, i8 k3, i8 k4, i8 k5])), (30, tp (i64 5)), (31, tp (vb true)), (32, tp (i8 k5)), (33, tp V.top), (34, tp (i8 k5)), (35, tp (i8 (k5 + 1))), (36, tp (u8 (k5 + 1))), (37, tp (V.sl 37 0 1)), (38, tp (V.sl 23 0 16)), (39, tp (i64 5))] [(1, Blk.mk [u16 f, u16 h, u8 r0, u8 r1, u8 r2, u8 r3, u8 r4, u8 r5, i8 k0, i8 k1, i8 k2, i8 k3, i8 k4, i8 k5, u8 mo, u16 rs, vb ex, u8 ih] true 18 none), (2, Blk.mk [] true 0 (some (5, 1))), (23, Blk.mk [u8 (f / 256), u8 (f % 256), u8 (h / 256), u8 (h % 256), u8 r0, u8 r1, u8 r2, u8 r3, u8 r4, u8 r5, u8 (k0 + 1), u8 (k1 + 1), u8 (k2 + 1), u8 (k3 + 1), u8 (k4 + 1), u8 (k5 + 1)] true 0 (some (5, 1))), (37, Blk.mk [u8 (k5 + 1)] true 0 (some (5, 1)))]) (by kernel_rfl) ⟨(wr_i8 (by omega) (by omega)), (wr_u8 (by omega) (by omega)), trivial⟩ ?_
  refine AWP.region tcok hmix [] (os := []) (sf := St.mk [(1, tp (V.ptr 1 0)), (2, tp (V.sl 2 0 0)), (3, tp (V.sl 23 0 16)), (5, tp (i8 k5)), (29, tp (V.agg true [i8 k0, i8 k1, i8 k2, i8 k3, i8 k4, i8 k5])), (30, tp (i64 6)), (31, tp (vb true)), (32, tp (i8 k5)), (33, tp V.top), (34, tp (i8 k5)), (35, tp (i8 (k5 + 1))), (36, tp (u8 (k5 + 1))), (37, tp (V.sl 37 0 1)), (38, tp (V.sl 23 0 16)), (39, tp (i64 6))] [(1, Blk.mk [u16 f, u16 h, u8 r0, u8 r1, u8 r2, u8 r3, u8 r4, u8 r5, i8 k0, i8 k1, i8 k2, i8 k3, i8 k4, i8 k5, u8 mo, u16 rs, vb ex, u8 ih] true 18 none), (2, Blk.mk [] true 0 (some (5, 1))), (23, Blk.mk [u8 (f / 256), u8 (f % 256), u8 (h / 256), u8 (h % 256), u8 r0, u8 r1, u8 r2, u8 r3, u8 r4, u8 r5, u8 (k0 + 1), u8 (k1 + 1), u8 (k2 + 1), u8 (k3 + 1), u8 (k4 + 1), u8 (k5 + 1)] true 0 (some (5, 1))), (37, Blk.mk [u8 (k5 + 1)] true 0 (some (5, 1)))]) (by kernel_rfl) trivial ?_
  refine xe0 [1, 2, 3, 5, 29, 30, 31, 32, 33, 34, 35, 36, 37, 38, 39] [1, 2, 23, 37] (by kernel_rfl) ?_
  refine AWP.seq ?_
  refine AWP.condF (by kernel_rfl) ?_
  refine AWP.exit ?_
  refine AWP.seq ?_
  refine AWP.keep' [1, 3] [1, 23] (sf := St.mk [(1, tp (V.ptr 1 0)), (3, tp (V.sl 23 0 16))] [(1, Blk.mk [u16 f, u16 h, u8 r0, u8 r1, u8 r2, u8 r3, u8 r4, u8 r5, i8 k0, i8 k1, i8 k2, i8 k3, i8 k4, i8 k5, u8 mo, u16 rs, vb ex, u8 ih] true 18 none), (23, Blk.mk [u8 (f / 256), u8 (f % 256), u8 (h / 256), u8 (h % 256), u8 r0, u8 r1, u8 r2, u8 r3, u8 r4, u8 r5, u8 (k0 + 1), u8 (k1 + 1), u8 (k2 + 1), u8 (k3 + 1), u8 (k4 + 1), u8 (k5 + 1)] true 0 (some (5, 1)))]) (by kernel_rfl) ?_
  refine xg1 (os := [(0 : Int) ≤ (8 : Int), u16 (ishr IntKind.u16 rs 8) = u16 (rs / 256), u8 (IntKind.wrap IntKind.u8 (rs / 256)) = u8 (rs / 256), u8 (IntKind.wrap IntKind.u8 rs) = u8 (rs % 256), Con Try.prog 61 [] [vb ex] [] (u8 (o1 ex))]) [(5, ⟨some (u16 (rs / 256)), none⟩), (6, ⟨some (u8 (rs / 256)), none⟩), (9, ⟨some (u8 (rs % 256)), none⟩), (12, ⟨none, some ⟨u8 (o1 ex), [], []⟩⟩)] [2] [23] (by kernel_rfl) ⟨(by omega), (shr_eq rfl (by decide)), (wr_u8 (by omega) (by omega)), wm_u8, (con_one (ex)), trivial⟩ ?_
  refine AWP.ret ?_
  refine ⟨Or.inr rfl, Eq.trans (b := some ([(23, Blk.mk [u8 (f / 256), u8 (f % 256), u8 (h / 256), u8 (h % 256), u8 r0, u8 r1, u8 r2, u8 r3, u8 r4, u8 r5, u8 (k0 + 1), u8 (k1 + 1), u8 (k2 + 1), u8 (k3 + 1), u8 (k4 + 1), u8 (k5 + 1), u8 mo, u8 (rs / 256), u8 (rs % 256), u8 (o1 ex), u8 ih] true 0 (some (5, 1)))], V.sl 23 0 21)) (by kernel_rfl) ?_⟩
  rfl
end Go.Proofs.Ytmeiemdnhjnpcaa
