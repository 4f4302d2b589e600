/- Package mode: what the document's Ask returns; the example; the law. -/
import Derived.Test.YtklbonfbiakebaaDoorRg
import Derived.Test.YtklbonfbiakebaaDoorModeC
namespace Go.Proofs.YtklbonfbiakebaaDoor
open Go.Ab
set_option linter.unusedSimpArgs false
set_option linter.unusedVariables false
set_option maxRecDepth 2000
theorem con_rask_z (m s cl se dk c1 c2 c3 t0 t1 t2 t3 : Int) :
    Con Tryd.prog 29 [] [.agg true [u8 m, u16 s, u8 cl, u8 se, u8 dk], .agg true [u8 c1, u8 c2, u8 c3, u16 t0, u16 t1, u16 t2, u16 t3], u8 0] []
      (.tup [(ask ⟨m, s, cl, se, dk⟩ ⟨c1, c2, c3, t0, t1, t2, t3⟩ 0).1.v, i64 (ask ⟨m, s, cl, se, dk⟩ ⟨c1, c2, c3, t0, t1, t2, t3⟩ 0).2]) := by
  refine Con.of (C := ⟨Tryd.prog, tc, Tryd.f29.ntmps⟩) [] tcok Tryd.func29 rfl rfl (by kernel_rfl) (by kernel_rfl) ?_
  refine e0 [2, 3, 4, 6, 7] [3, 4, 6] (by kernel_rfl) ?_
  refine AWP.seq ?_
  refine e0 [2, 3, 4, 6, 7, 13] [3, 4, 6] (by kernel_rfl) ?_
  refine AWP.condT (by kernel_rfl) ?_
  refine e0 [2, 3, 4, 6, 7] [3, 4, 6] (by kernel_rfl) ?_
  refine AWP.ret ?_
  refine ⟨Or.inr rfl, Eq.trans (b := some ([], V.tup [V.agg true [u8 0, u16 0, u8 0, u8 0, u8 0], i64 0])) (by kernel_rfl) ?_⟩
  (simp [ask, Au.zero])
theorem con_rask_b (m s cl se dk c1 c2 c3 t0 t1 t2 t3 q : Int) (hq : 3 < q) :
    Con Tryd.prog 29 [] [.agg true [u8 m, u16 s, u8 cl, u8 se, u8 dk], .agg true [u8 c1, u8 c2, u8 c3, u16 t0, u16 t1, u16 t2, u16 t3], u8 q] []
      (.tup [(ask ⟨m, s, cl, se, dk⟩ ⟨c1, c2, c3, t0, t1, t2, t3⟩ q).1.v, i64 (ask ⟨m, s, cl, se, dk⟩ ⟨c1, c2, c3, t0, t1, t2, t3⟩ q).2]) := by
  refine Con.of (C := ⟨Tryd.prog, tc, Tryd.f29.ntmps⟩) [] tcok Tryd.func29 rfl rfl (by kernel_rfl) (by kernel_rfl) ?_
  refine e0 [2, 3, 4, 6, 7] [3, 4, 6] (by kernel_rfl) ?_
  refine AWP.seq ?_
  refine e0 [2, 3, 4, 6, 7, 13] [3, 4, 6] (by kernel_rfl) ?_
  refine AWP.cond (b := q == 0) (by kernel_rfl) (fun hq1 => ?_) (fun hq1 => ?_)
  · simp only [beq_iff_eq] at hq1
    (exfalso; omega)
  simp only [beq_eq_false_iff_ne] at hq1
  refine AWP.skip ?_
  refine AWP.seq ?_
  refine e0 [2, 3, 4, 6, 7, 16] [3, 4, 6] (by kernel_rfl) ?_
  refine AWP.cond (b := decide (q > 3)) (by kernel_rfl) (fun hq2 => ?_) (fun hq2 => ?_)
  · simp only [decide_eq_true_eq] at hq2
    refine e0 [2, 3, 4, 6, 7] [3, 4, 6] (by kernel_rfl) ?_
    refine AWP.ret ?_
    refine ⟨Or.inr rfl, Eq.trans (b := some ([], V.tup [V.agg true [u8 m, u16 s, u8 cl, u8 se, u8 dk], i64 1])) (by kernel_rfl) ?_⟩
    (simp (disch := omega) [ask, Au.zero, if_pos, if_neg])
  simp only [decide_eq_false_iff_not] at hq2
  (exfalso; omega)
theorem con_rask_1_0 (s cl se dk c1 c2 c3 t0 t1 t2 t3 : Int) :
    Con Tryd.prog 29 [] [.agg true [u8 0, u16 s, u8 cl, u8 se, u8 dk], .agg true [u8 c1, u8 c2, u8 c3, u16 t0, u16 t1, u16 t2, u16 t3], u8 1] []
      (.tup [(ask ⟨0, s, cl, se, dk⟩ ⟨c1, c2, c3, t0, t1, t2, t3⟩ 1).1.v, i64 (ask ⟨0, s, cl, se, dk⟩ ⟨c1, c2, c3, t0, t1, t2, t3⟩ 1).2]) := by
  refine Con.of (C := ⟨Tryd.prog, tc, Tryd.f29.ntmps⟩) [] tcok Tryd.func29 rfl rfl (by kernel_rfl) (by kernel_rfl) ?_
  refine e0 [2, 3, 4, 6, 7] [3, 4, 6] (by kernel_rfl) ?_
  refine AWP.seq ?_
  refine e0 [2, 3, 4, 6, 7, 13] [3, 4, 6] (by kernel_rfl) ?_
  refine AWP.condF (by kernel_rfl) ?_
  refine AWP.skip ?_
  refine AWP.seq ?_
  refine e0 [2, 3, 4, 6, 7, 16] [3, 4, 6] (by kernel_rfl) ?_
  refine AWP.condF (by kernel_rfl) ?_
  refine AWP.skip ?_
  refine AWP.seq ?_
  refine e0 [2, 3, 4, 6, 7, 21] [3, 4, 6] (by kernel_rfl) ?_
  refine AWP.condF (by kernel_rfl) ?_
  refine AWP.skip ?_
  refine e0 [2, 3, 4, 6, 7, 8] [3, 4, 6, 23] (by kernel_rfl) ?_
  refine e0 [2, 3, 4, 6, 7, 8, 9] [3, 4, 6, 23] (by kernel_rfl) ?_
  refine e0 [2, 3, 4, 6, 7, 8, 9, 10] [3, 4, 6, 23] (by kernel_rfl) ?_
  refine AWP.seq ?_
  refine e0 [2, 3, 4, 6, 7, 8, 9, 10, 11] [3, 4, 6, 23] (by kernel_rfl) ?_
  refine AWP.block ?_
  refine AWP.unroll 4 ?_
  refine AWP.seq ?_
  refine e0 [2, 3, 4, 6, 7, 8, 9, 10, 11, 30, 31, 32, 33, 34, 35, 36] [3, 4, 6, 23] (by kernel_rfl) ?_
  refine AWP.condT (by kernel_rfl) ?_
  refine AWP.skip ?_
  refine AWP.seq ?_
  refine AWP.block ?_
  refine e0 [2, 3, 4, 6, 7, 8, 9, 10, 11, 30, 31, 32, 33, 34, 35, 36, 39, 40, 41, 42, 43, 44, 45, 46, 47, 48] [3, 4, 6, 23] (by kernel_rfl) ?_
  refine AWP.condT (by kernel_rfl) ?_
  refine AWP.region tcok hmix [] (os := []) (sf := St.mk [(2, tp (u8 1)), (3, tp (V.ptr 3 0)), (4, tp (V.ptr 4 0)), (6, tp (V.ptr 6 0)), (7, tp (i64 0)), (8, tp (V.sl 23 0 4)), (9, tp (V.val (Value.string (ByteArray.extract (ByteArray.mk #[48, 49, 50, 51]) (Int.toNat 0) (Int.toNat 1))))), (10, tp (vb true)), (11, tp (i64 0)), (30, tp (i64 0)), (31, tp (V.sl 23 0 4)), (32, tp (u8 1)), (33, tp (V.ptr 23 1)), (34, tp (V.val (Value.string (ByteArray.mk #[48])))), (35, tp (i64 1)), (36, tp (vb true)), (39, tp (V.sl 23 0 4)), (40, tp (u8 1)), (41, tp (V.ptr 23 1)), (42, tp (V.val (Value.string (ByteArray.mk #[48])))), (43, tp (i64 0)), (44, tp (i64 0)), (45, tp (i64 1)), (46, tp (V.val (Value.string (ByteArray.extract (ByteArray.mk #[48]) (Int.toNat 0) (Int.toNat 1))))), (47, tp (V.val (Value.string (ByteArray.extract (ByteArray.mk #[48, 49, 50, 51]) (Int.toNat 0) (Int.toNat 1))))), (48, tp (vb true))] [(3, Blk.mk [u8 0, u16 s, u8 cl, u8 se, u8 dk] true 5 none), (4, Blk.mk [u8 c1, u8 c2, u8 c3, u16 t0, u16 t1, u16 t2, u16 t3] true 7 none), (6, Blk.mk [u8 0, u16 0, u8 0, u8 0, u8 0] true 5 none), (23, Blk.mk [V.val (Value.string (ByteArray.mk #[])), V.val (Value.string (ByteArray.mk #[48])), V.val (Value.string (ByteArray.mk #[49, 51])), V.val (Value.string (ByteArray.mk #[50]))] true 0 (some (9, 1)))]) (by kernel_rfl) trivial ?_
  refine AWP.region tcok hmix [] (os := []) (sf := St.mk [(2, tp (u8 1)), (3, tp (V.ptr 3 0)), (4, tp (V.ptr 4 0)), (6, tp (V.ptr 6 0)), (7, tp (i64 0)), (8, tp (V.sl 23 0 4)), (9, tp (V.val (Value.string (ByteArray.extract (ByteArray.mk #[48, 49, 50, 51]) (Int.toNat 0) (Int.toNat 1))))), (10, tp (vb true)), (11, tp (i64 1)), (30, tp (i64 0)), (31, tp (V.sl 23 0 4)), (32, tp (u8 1)), (33, tp (V.ptr 23 1)), (34, tp (V.val (Value.string (ByteArray.mk #[48])))), (35, tp (i64 1)), (36, tp (vb true)), (37, tp (i64 0)), (38, tp (i64 1)), (39, tp (V.sl 23 0 4)), (40, tp (u8 1)), (41, tp (V.ptr 23 1)), (42, tp (V.val (Value.string (ByteArray.mk #[48])))), (43, tp (i64 0)), (44, tp (i64 0)), (45, tp (i64 1)), (46, tp (V.val (Value.string (ByteArray.extract (ByteArray.mk #[48]) (Int.toNat 0) (Int.toNat 1))))), (47, tp (V.val (Value.string (ByteArray.extract (ByteArray.mk #[48, 49, 50, 51]) (Int.toNat 0) (Int.toNat 1))))), (48, tp (vb true))] [(3, Blk.mk [u8 0, u16 s, u8 cl, u8 se, u8 dk] true 5 none), (4, Blk.mk [u8 c1, u8 c2, u8 c3, u16 t0, u16 t1, u16 t2, u16 t3] true 7 none), (6, Blk.mk [u8 0, u16 0, u8 0, u8 0, u8 0] true 5 none), (23, Blk.mk [V.val (Value.string (ByteArray.mk #[])), V.val (Value.string (ByteArray.mk #[48])), V.val (Value.string (ByteArray.mk #[49, 51])), V.val (Value.string (ByteArray.mk #[50]))] true 0 (some (9, 1)))]) (by kernel_rfl) trivial ?_
  refine AWP.seq ?_
  refine AWP.seq ?_
  refine AWP.keep' [2, 3, 4, 6, 7, 8, 9, 10, 11, 37, 38, 39, 40, 41, 42, 43, 44, 45, 46, 47, 48] [3, 4, 6, 23] (sf := St.mk [(2, tp (u8 1)), (3, tp (V.ptr 3 0)), (4, tp (V.ptr 4 0)), (6, tp (V.ptr 6 0)), (7, tp (i64 0)), (8, tp (V.sl 23 0 4)), (9, tp (V.val (Value.string (ByteArray.extract (ByteArray.mk #[48, 49, 50, 51]) (Int.toNat 0) (Int.toNat 1))))), (10, tp (vb true)), (11, tp (i64 1)), (37, tp (i64 0)), (38, tp (i64 1)), (39, tp (V.sl 23 0 4)), (40, tp (u8 1)), (41, tp (V.ptr 23 1)), (42, tp (V.val (Value.string (ByteArray.mk #[48])))), (43, tp (i64 0)), (44, tp (i64 0)), (45, tp (i64 1)), (46, tp (V.val (Value.string (ByteArray.extract (ByteArray.mk #[48]) (Int.toNat 0) (Int.toNat 1))))), (47, tp (V.val (Value.string (ByteArray.extract (ByteArray.mk #[48, 49, 50, 51]) (Int.toNat 0) (Int.toNat 1))))), (48, tp (vb true))] [(3, Blk.mk [u8 0, u16 s, u8 cl, u8 se, u8 dk] true 5 none), (4, Blk.mk [u8 c1, u8 c2, u8 c3, u16 t0, u16 t1, u16 t2, u16 t3] true 7 none), (6, Blk.mk [u8 0, u16 0, u8 0, u8 0, u8 0] true 5 none), (23, Blk.mk [V.val (Value.string (ByteArray.mk #[])), V.val (Value.string (ByteArray.mk #[48])), V.val (Value.string (ByteArray.mk #[49, 51])), V.val (Value.string (ByteArray.mk #[50]))] true 0 (some (9, 1)))]) (by kernel_rfl) ?_
  refine g0 [2, 3, 4, 6, 7, 8, 9, 10, 11, 30, 31, 32, 33, 34, 35, 36, 37, 38, 39, 40, 41, 42, 43, 44, 45, 46, 47, 48] [3, 4, 6, 23] (by kernel_rfl) ?_
  refine AWP.condF (by kernel_rfl) ?_
  refine AWP.exit ?_
  refine AWP.seq ?_
  refine e0 [2, 3, 6, 7, 61] [3, 6] (by kernel_rfl) ?_
  refine AWP.condF (by kernel_rfl) ?_
  refine AWP.skip ?_
  refine e0 [6, 7] [6] (by kernel_rfl) ?_
  refine AWP.ret ?_
  refine ⟨Or.inr rfl, Eq.trans (b := some ([], V.tup [V.agg true [u8 1, u16 0, u8 0, u8 0, u8 0], i64 0])) (by kernel_rfl) ?_⟩
  (first | (simp [ask, Au.zero, Au.at]; done) | (simp (disch := omega) [ask, Au.zero, Au.at, if_pos, if_neg]; done))
theorem con_rask_1_1 (s cl se dk c1 c2 c3 t0 t1 t2 t3 : Int) :
    Con Tryd.prog 29 [] [.agg true [u8 1, u16 s, u8 cl, u8 se, u8 dk], .agg true [u8 c1, u8 c2, u8 c3, u16 t0, u16 t1, u16 t2, u16 t3], u8 1] []
      (.tup [(ask ⟨1, s, cl, se, dk⟩ ⟨c1, c2, c3, t0, t1, t2, t3⟩ 1).1.v, i64 (ask ⟨1, s, cl, se, dk⟩ ⟨c1, c2, c3, t0, t1, t2, t3⟩ 1).2]) := by
  refine Con.of (C := ⟨Tryd.prog, tc, Tryd.f29.ntmps⟩) [] tcok Tryd.func29 rfl rfl (by kernel_rfl) (by kernel_rfl) ?_
  refine e0 [2, 3, 4, 6, 7] [3, 4, 6] (by kernel_rfl) ?_
  refine AWP.seq ?_
  refine e0 [2, 3, 4, 6, 7, 13] [3, 4, 6] (by kernel_rfl) ?_
  refine AWP.condF (by kernel_rfl) ?_
  refine AWP.skip ?_
  refine AWP.seq ?_
  refine e0 [2, 3, 4, 6, 7, 16] [3, 4, 6] (by kernel_rfl) ?_
  refine AWP.condF (by kernel_rfl) ?_
  refine AWP.skip ?_
  refine AWP.seq ?_
  refine e0 [2, 3, 4, 6, 7, 21] [3, 4, 6] (by kernel_rfl) ?_
  refine AWP.condT (by kernel_rfl) ?_
  refine e0 [2, 3, 4, 6, 7] [3, 4, 6] (by kernel_rfl) ?_
  refine AWP.ret ?_
  refine ⟨Or.inr rfl, Eq.trans (b := some ([], V.tup [V.agg true [u8 1, u16 s, u8 cl, u8 se, u8 dk], i64 0])) (by kernel_rfl) ?_⟩
  (first | (simp [ask, Au.zero, Au.at]; done) | (simp (disch := omega) [ask, Au.zero, Au.at, if_pos, if_neg]; done))
theorem con_rask_1_2 (s cl se dk c1 c2 c3 t0 t1 t2 t3 : Int) :
    Con Tryd.prog 29 [] [.agg true [u8 2, u16 s, u8 cl, u8 se, u8 dk], .agg true [u8 c1, u8 c2, u8 c3, u16 t0, u16 t1, u16 t2, u16 t3], u8 1] []
      (.tup [(ask ⟨2, s, cl, se, dk⟩ ⟨c1, c2, c3, t0, t1, t2, t3⟩ 1).1.v, i64 (ask ⟨2, s, cl, se, dk⟩ ⟨c1, c2, c3, t0, t1, t2, t3⟩ 1).2]) := by
  refine Con.of (C := ⟨Tryd.prog, tc, Tryd.f29.ntmps⟩) [] tcok Tryd.func29 rfl rfl (by kernel_rfl) (by kernel_rfl) ?_
  refine e0 [2, 3, 4, 6, 7] [3, 4, 6] (by kernel_rfl) ?_
  refine AWP.seq ?_
  refine e0 [2, 3, 4, 6, 7, 13] [3, 4, 6] (by kernel_rfl) ?_
  refine AWP.condF (by kernel_rfl) ?_
  refine AWP.skip ?_
  refine AWP.seq ?_
  refine e0 [2, 3, 4, 6, 7, 16] [3, 4, 6] (by kernel_rfl) ?_
  refine AWP.condF (by kernel_rfl) ?_
  refine AWP.skip ?_
  refine AWP.seq ?_
  refine e0 [2, 3, 4, 6, 7, 21] [3, 4, 6] (by kernel_rfl) ?_
  refine AWP.condF (by kernel_rfl) ?_
  refine AWP.skip ?_
  refine e0 [2, 3, 4, 6, 7, 8] [3, 4, 6, 23] (by kernel_rfl) ?_
  refine e0 [2, 3, 4, 6, 7, 8, 9] [3, 4, 6, 23] (by kernel_rfl) ?_
  refine e0 [2, 3, 4, 6, 7, 8, 9, 10] [3, 4, 6, 23] (by kernel_rfl) ?_
  refine AWP.seq ?_
  refine e0 [2, 3, 4, 6, 7, 8, 9, 10, 11] [3, 4, 6, 23] (by kernel_rfl) ?_
  refine AWP.block ?_
  refine AWP.unroll 4 ?_
  refine AWP.seq ?_
  refine e0 [2, 3, 4, 6, 7, 8, 9, 10, 11, 30, 31, 32, 33, 34, 35, 36] [3, 4, 6, 23] (by kernel_rfl) ?_
  refine AWP.condT (by kernel_rfl) ?_
  refine AWP.skip ?_
  refine AWP.seq ?_
  refine AWP.block ?_
  refine e0 [2, 3, 4, 6, 7, 8, 9, 10, 11, 30, 31, 32, 33, 34, 35, 36, 39, 40, 41, 42, 43, 44, 45, 46, 47, 48] [3, 4, 6, 23] (by kernel_rfl) ?_
  refine AWP.condF (by kernel_rfl) ?_
  refine AWP.skip ?_
  refine AWP.region tcok hmix [] (os := []) (sf := St.mk [(2, tp (u8 1)), (3, tp (V.ptr 3 0)), (4, tp (V.ptr 4 0)), (6, tp (V.ptr 6 0)), (7, tp (i64 0)), (8, tp (V.sl 23 0 4)), (9, tp (V.val (Value.string (ByteArray.extract (ByteArray.mk #[48, 49, 50, 51]) (Int.toNat 2) (Int.toNat 3))))), (10, tp (vb false)), (11, tp (i64 1)), (30, tp (i64 0)), (31, tp (V.sl 23 0 4)), (32, tp (u8 1)), (33, tp (V.ptr 23 1)), (34, tp (V.val (Value.string (ByteArray.mk #[48])))), (35, tp (i64 1)), (36, tp (vb true)), (37, tp (i64 0)), (38, tp (i64 1)), (39, tp (V.sl 23 0 4)), (40, tp (u8 1)), (41, tp (V.ptr 23 1)), (42, tp (V.val (Value.string (ByteArray.mk #[48])))), (43, tp (i64 0)), (44, tp (i64 0)), (45, tp (i64 1)), (46, tp (V.val (Value.string (ByteArray.extract (ByteArray.mk #[48]) (Int.toNat 0) (Int.toNat 1))))), (47, tp (V.val (Value.string (ByteArray.extract (ByteArray.mk #[48, 49, 50, 51]) (Int.toNat 2) (Int.toNat 3))))), (48, tp (vb false))] [(3, Blk.mk [u8 2, u16 s, u8 cl, u8 se, u8 dk] true 5 none), (4, Blk.mk [u8 c1, u8 c2, u8 c3, u16 t0, u16 t1, u16 t2, u16 t3] true 7 none), (6, Blk.mk [u8 0, u16 0, u8 0, u8 0, u8 0] true 5 none), (23, Blk.mk [V.val (Value.string (ByteArray.mk #[])), V.val (Value.string (ByteArray.mk #[48])), V.val (Value.string (ByteArray.mk #[49, 51])), V.val (Value.string (ByteArray.mk #[50]))] true 0 (some (9, 1)))]) (by kernel_rfl) trivial ?_
  refine AWP.seq ?_
  refine AWP.seq ?_
  refine AWP.keep' [2, 3, 4, 6, 7, 8, 9, 10, 11, 37, 38, 39, 40, 41, 42, 43, 44, 45, 46, 47, 48] [3, 4, 6, 23] (sf := St.mk [(2, tp (u8 1)), (3, tp (V.ptr 3 0)), (4, tp (V.ptr 4 0)), (6, tp (V.ptr 6 0)), (7, tp (i64 0)), (8, tp (V.sl 23 0 4)), (9, tp (V.val (Value.string (ByteArray.extract (ByteArray.mk #[48, 49, 50, 51]) (Int.toNat 2) (Int.toNat 3))))), (10, tp (vb false)), (11, tp (i64 1)), (37, tp (i64 0)), (38, tp (i64 1)), (39, tp (V.sl 23 0 4)), (40, tp (u8 1)), (41, tp (V.ptr 23 1)), (42, tp (V.val (Value.string (ByteArray.mk #[48])))), (43, tp (i64 0)), (44, tp (i64 0)), (45, tp (i64 1)), (46, tp (V.val (Value.string (ByteArray.extract (ByteArray.mk #[48]) (Int.toNat 0) (Int.toNat 1))))), (47, tp (V.val (Value.string (ByteArray.extract (ByteArray.mk #[48, 49, 50, 51]) (Int.toNat 2) (Int.toNat 3))))), (48, tp (vb false))] [(3, Blk.mk [u8 2, u16 s, u8 cl, u8 se, u8 dk] true 5 none), (4, Blk.mk [u8 c1, u8 c2, u8 c3, u16 t0, u16 t1, u16 t2, u16 t3] true 7 none), (6, Blk.mk [u8 0, u16 0, u8 0, u8 0, u8 0] true 5 none), (23, Blk.mk [V.val (Value.string (ByteArray.mk #[])), V.val (Value.string (ByteArray.mk #[48])), V.val (Value.string (ByteArray.mk #[49, 51])), V.val (Value.string (ByteArray.mk #[50]))] true 0 (some (9, 1)))]) (by kernel_rfl) ?_
  refine g0 [2, 3, 4, 6, 7, 8, 9, 10, 11, 30, 31, 32, 33, 34, 35, 36, 37, 38, 39, 40, 41, 42, 43, 44, 45, 46, 47, 48] [3, 4, 6, 23] (by kernel_rfl) ?_
  refine AWP.condF (by kernel_rfl) ?_
  refine AWP.exit ?_
  refine AWP.seq ?_
  refine e0 [2, 3, 6, 7, 61] [3, 6] (by kernel_rfl) ?_
  refine AWP.condT (by kernel_rfl) ?_
  refine e0 [2, 6, 7] [6] (by kernel_rfl) ?_
  refine AWP.ret ?_
  refine ⟨Or.inr rfl, Eq.trans (b := some ([], V.tup [V.agg true [u8 2, u16 s, u8 cl, u8 se, u8 dk], i64 7])) (by kernel_rfl) ?_⟩
  (first | (simp [ask, Au.zero, Au.at]; done) | (simp (disch := omega) [ask, Au.zero, Au.at, if_pos, if_neg]; done))
theorem con_rask_1_3 (s cl se dk c1 c2 c3 t0 t1 t2 t3 : Int) :
    Con Tryd.prog 29 [] [.agg true [u8 3, u16 s, u8 cl, u8 se, u8 dk], .agg true [u8 c1, u8 c2, u8 c3, u16 t0, u16 t1, u16 t2, u16 t3], u8 1] []
      (.tup [(ask ⟨3, s, cl, se, dk⟩ ⟨c1, c2, c3, t0, t1, t2, t3⟩ 1).1.v, i64 (ask ⟨3, s, cl, se, dk⟩ ⟨c1, c2, c3, t0, t1, t2, t3⟩ 1).2]) := by
  refine Con.of (C := ⟨Tryd.prog, tc, Tryd.f29.ntmps⟩) [] tcok Tryd.func29 rfl rfl (by kernel_rfl) (by kernel_rfl) ?_
  refine e0 [2, 3, 4, 6, 7] [3, 4, 6] (by kernel_rfl) ?_
  refine AWP.seq ?_
  refine e0 [2, 3, 4, 6, 7, 13] [3, 4, 6] (by kernel_rfl) ?_
  refine AWP.condF (by kernel_rfl) ?_
  refine AWP.skip ?_
  refine AWP.seq ?_
  refine e0 [2, 3, 4, 6, 7, 16] [3, 4, 6] (by kernel_rfl) ?_
  refine AWP.condF (by kernel_rfl) ?_
  refine AWP.skip ?_
  refine AWP.seq ?_
  refine e0 [2, 3, 4, 6, 7, 21] [3, 4, 6] (by kernel_rfl) ?_
  refine AWP.condF (by kernel_rfl) ?_
  refine AWP.skip ?_
  refine e0 [2, 3, 4, 6, 7, 8] [3, 4, 6, 23] (by kernel_rfl) ?_
  refine e0 [2, 3, 4, 6, 7, 8, 9] [3, 4, 6, 23] (by kernel_rfl) ?_
  refine e0 [2, 3, 4, 6, 7, 8, 9, 10] [3, 4, 6, 23] (by kernel_rfl) ?_
  refine AWP.seq ?_
  refine e0 [2, 3, 4, 6, 7, 8, 9, 10, 11] [3, 4, 6, 23] (by kernel_rfl) ?_
  refine AWP.block ?_
  refine AWP.unroll 4 ?_
  refine AWP.seq ?_
  refine e0 [2, 3, 4, 6, 7, 8, 9, 10, 11, 30, 31, 32, 33, 34, 35, 36] [3, 4, 6, 23] (by kernel_rfl) ?_
  refine AWP.condT (by kernel_rfl) ?_
  refine AWP.skip ?_
  refine AWP.seq ?_
  refine AWP.block ?_
  refine e0 [2, 3, 4, 6, 7, 8, 9, 10, 11, 30, 31, 32, 33, 34, 35, 36, 39, 40, 41, 42, 43, 44, 45, 46, 47, 48] [3, 4, 6, 23] (by kernel_rfl) ?_
  refine AWP.condF (by kernel_rfl) ?_
  refine AWP.skip ?_
  refine AWP.region tcok hmix [] (os := []) (sf := St.mk [(2, tp (u8 1)), (3, tp (V.ptr 3 0)), (4, tp (V.ptr 4 0)), (6, tp (V.ptr 6 0)), (7, tp (i64 0)), (8, tp (V.sl 23 0 4)), (9, tp (V.val (Value.string (ByteArray.extract (ByteArray.mk #[48, 49, 50, 51]) (Int.toNat 3) (Int.toNat 4))))), (10, tp (vb false)), (11, tp (i64 1)), (30, tp (i64 0)), (31, tp (V.sl 23 0 4)), (32, tp (u8 1)), (33, tp (V.ptr 23 1)), (34, tp (V.val (Value.string (ByteArray.mk #[48])))), (35, tp (i64 1)), (36, tp (vb true)), (37, tp (i64 0)), (38, tp (i64 1)), (39, tp (V.sl 23 0 4)), (40, tp (u8 1)), (41, tp (V.ptr 23 1)), (42, tp (V.val (Value.string (ByteArray.mk #[48])))), (43, tp (i64 0)), (44, tp (i64 0)), (45, tp (i64 1)), (46, tp (V.val (Value.string (ByteArray.extract (ByteArray.mk #[48]) (Int.toNat 0) (Int.toNat 1))))), (47, tp (V.val (Value.string (ByteArray.extract (ByteArray.mk #[48, 49, 50, 51]) (Int.toNat 3) (Int.toNat 4))))), (48, tp (vb false))] [(3, Blk.mk [u8 3, u16 s, u8 cl, u8 se, u8 dk] true 5 none), (4, Blk.mk [u8 c1, u8 c2, u8 c3, u16 t0, u16 t1, u16 t2, u16 t3] true 7 none), (6, Blk.mk [u8 0, u16 0, u8 0, u8 0, u8 0] true 5 none), (23, Blk.mk [V.val (Value.string (ByteArray.mk #[])), V.val (Value.string (ByteArray.mk #[48])), V.val (Value.string (ByteArray.mk #[49, 51])), V.val (Value.string (ByteArray.mk #[50]))] true 0 (some (9, 1)))]) (by kernel_rfl) trivial ?_
  refine AWP.seq ?_
  refine AWP.seq ?_
  refine AWP.keep' [2, 3, 4, 6, 7, 8, 9, 10, 11, 37, 38, 39, 40, 41, 42, 43, 44, 45, 46, 47, 48] [3, 4, 6, 23] (sf := St.mk [(2, tp (u8 1)), (3, tp (V.ptr 3 0)), (4, tp (V.ptr 4 0)), (6, tp (V.ptr 6 0)), (7, tp (i64 0)), (8, tp (V.sl 23 0 4)), (9, tp (V.val (Value.string (ByteArray.extract (ByteArray.mk #[48, 49, 50, 51]) (Int.toNat 3) (Int.toNat 4))))), (10, tp (vb false)), (11, tp (i64 1)), (37, tp (i64 0)), (38, tp (i64 1)), (39, tp (V.sl 23 0 4)), (40, tp (u8 1)), (41, tp (V.ptr 23 1)), (42, tp (V.val (Value.string (ByteArray.mk #[48])))), (43, tp (i64 0)), (44, tp (i64 0)), (45, tp (i64 1)), (46, tp (V.val (Value.string (ByteArray.extract (ByteArray.mk #[48]) (Int.toNat 0) (Int.toNat 1))))), (47, tp (V.val (Value.string (ByteArray.extract (ByteArray.mk #[48, 49, 50, 51]) (Int.toNat 3) (Int.toNat 4))))), (48, tp (vb false))] [(3, Blk.mk [u8 3, u16 s, u8 cl, u8 se, u8 dk] true 5 none), (4, Blk.mk [u8 c1, u8 c2, u8 c3, u16 t0, u16 t1, u16 t2, u16 t3] true 7 none), (6, Blk.mk [u8 0, u16 0, u8 0, u8 0, u8 0] true 5 none), (23, Blk.mk [V.val (Value.string (ByteArray.mk #[])), V.val (Value.string (ByteArray.mk #[48])), V.val (Value.string (ByteArray.mk #[49, 51])), V.val (Value.string (ByteArray.mk #[50]))] true 0 (some (9, 1)))]) (by kernel_rfl) ?_
  refine g0 [2, 3, 4, 6, 7, 8, 9, 10, 11, 30, 31, 32, 33, 34, 35, 36, 37, 38, 39, 40, 41, 42, 43, 44, 45, 46, 47, 48] [3, 4, 6, 23] (by kernel_rfl) ?_
  refine AWP.condF (by kernel_rfl) ?_
  refine AWP.exit ?_
  refine AWP.seq ?_
  refine e0 [2, 3, 6, 7, 61] [3, 6] (by kernel_rfl) ?_
  refine AWP.condT (by kernel_rfl) ?_
  refine e0 [2, 6, 7] [6] (by kernel_rfl) ?_
  refine AWP.ret ?_
  refine ⟨Or.inr rfl, Eq.trans (b := some ([], V.tup [V.agg true [u8 3, u16 s, u8 cl, u8 se, u8 dk], i64 7])) (by kernel_rfl) ?_⟩
  (first | (simp [ask, Au.zero, Au.at]; done) | (simp (disch := omega) [ask, Au.zero, Au.at, if_pos, if_neg]; done))
theorem con_rask_2_0 (s cl se dk c1 c2 c3 t0 t1 t2 t3 : Int) :
    Con Tryd.prog 29 [] [.agg true [u8 0, u16 s, u8 cl, u8 se, u8 dk], .agg true [u8 c1, u8 c2, u8 c3, u16 t0, u16 t1, u16 t2, u16 t3], u8 2] []
      (.tup [(ask ⟨0, s, cl, se, dk⟩ ⟨c1, c2, c3, t0, t1, t2, t3⟩ 2).1.v, i64 (ask ⟨0, s, cl, se, dk⟩ ⟨c1, c2, c3, t0, t1, t2, t3⟩ 2).2]) := by
  refine Con.of (C := ⟨Tryd.prog, tc, Tryd.f29.ntmps⟩) [] tcok Tryd.func29 rfl rfl (by kernel_rfl) (by kernel_rfl) ?_
  refine e0 [2, 3, 4, 6, 7] [3, 4, 6] (by kernel_rfl) ?_
  refine AWP.seq ?_
  refine e0 [2, 3, 4, 6, 7, 13] [3, 4, 6] (by kernel_rfl) ?_
  refine AWP.condF (by kernel_rfl) ?_
  refine AWP.skip ?_
  refine AWP.seq ?_
  refine e0 [2, 3, 4, 6, 7, 16] [3, 4, 6] (by kernel_rfl) ?_
  refine AWP.condF (by kernel_rfl) ?_
  refine AWP.skip ?_
  refine AWP.seq ?_
  refine e0 [2, 3, 4, 6, 7, 21] [3, 4, 6] (by kernel_rfl) ?_
  refine AWP.condF (by kernel_rfl) ?_
  refine AWP.skip ?_
  refine e0 [2, 3, 4, 6, 7, 8] [3, 4, 6, 23] (by kernel_rfl) ?_
  refine e0 [2, 3, 4, 6, 7, 8, 9] [3, 4, 6, 23] (by kernel_rfl) ?_
  refine e0 [2, 3, 4, 6, 7, 8, 9, 10] [3, 4, 6, 23] (by kernel_rfl) ?_
  refine AWP.seq ?_
  refine e0 [2, 3, 4, 6, 7, 8, 9, 10, 11] [3, 4, 6, 23] (by kernel_rfl) ?_
  refine AWP.block ?_
  refine AWP.unroll 4 ?_
  refine AWP.seq ?_
  refine e0 [2, 3, 4, 6, 7, 8, 9, 10, 11, 30, 31, 32, 33, 34, 35, 36] [3, 4, 6, 23] (by kernel_rfl) ?_
  refine AWP.condT (by kernel_rfl) ?_
  refine AWP.skip ?_
  refine AWP.seq ?_
  refine AWP.block ?_
  refine e0 [2, 3, 4, 6, 7, 8, 9, 10, 11, 30, 31, 32, 33, 34, 35, 36, 39, 40, 41, 42, 43, 44, 45, 46, 47, 48] [3, 4, 6, 23] (by kernel_rfl) ?_
  refine AWP.condF (by kernel_rfl) ?_
  refine AWP.skip ?_
  refine AWP.region tcok hmix [] (os := []) (sf := St.mk [(2, tp (u8 2)), (3, tp (V.ptr 3 0)), (4, tp (V.ptr 4 0)), (6, tp (V.ptr 6 0)), (7, tp (i64 0)), (8, tp (V.sl 23 0 4)), (9, tp (V.val (Value.string (ByteArray.extract (ByteArray.mk #[48, 49, 50, 51]) (Int.toNat 0) (Int.toNat 1))))), (10, tp (vb false)), (11, tp (i64 1)), (30, tp (i64 0)), (31, tp (V.sl 23 0 4)), (32, tp (u8 2)), (33, tp (V.ptr 23 2)), (34, tp (V.val (Value.string (ByteArray.mk #[49, 51])))), (35, tp (i64 2)), (36, tp (vb true)), (37, tp (i64 0)), (38, tp (i64 1)), (39, tp (V.sl 23 0 4)), (40, tp (u8 2)), (41, tp (V.ptr 23 2)), (42, tp (V.val (Value.string (ByteArray.mk #[49, 51])))), (43, tp (i64 0)), (44, tp (i64 0)), (45, tp (i64 1)), (46, tp (V.val (Value.string (ByteArray.extract (ByteArray.mk #[49, 51]) (Int.toNat 0) (Int.toNat 1))))), (47, tp (V.val (Value.string (ByteArray.extract (ByteArray.mk #[48, 49, 50, 51]) (Int.toNat 0) (Int.toNat 1))))), (48, tp (vb false))] [(3, Blk.mk [u8 0, u16 s, u8 cl, u8 se, u8 dk] true 5 none), (4, Blk.mk [u8 c1, u8 c2, u8 c3, u16 t0, u16 t1, u16 t2, u16 t3] true 7 none), (6, Blk.mk [u8 0, u16 0, u8 0, u8 0, u8 0] true 5 none), (23, Blk.mk [V.val (Value.string (ByteArray.mk #[])), V.val (Value.string (ByteArray.mk #[48])), V.val (Value.string (ByteArray.mk #[49, 51])), V.val (Value.string (ByteArray.mk #[50]))] true 0 (some (9, 1)))]) (by kernel_rfl) trivial ?_
  refine AWP.seq ?_
  refine AWP.seq ?_
  refine AWP.keep' [2, 3, 4, 6, 7, 8, 9, 10, 11, 37, 38, 39, 40, 41, 42, 43, 44, 45, 46, 47, 48] [3, 4, 6, 23] (sf := St.mk [(2, tp (u8 2)), (3, tp (V.ptr 3 0)), (4, tp (V.ptr 4 0)), (6, tp (V.ptr 6 0)), (7, tp (i64 0)), (8, tp (V.sl 23 0 4)), (9, tp (V.val (Value.string (ByteArray.extract (ByteArray.mk #[48, 49, 50, 51]) (Int.toNat 0) (Int.toNat 1))))), (10, tp (vb false)), (11, tp (i64 1)), (37, tp (i64 0)), (38, tp (i64 1)), (39, tp (V.sl 23 0 4)), (40, tp (u8 2)), (41, tp (V.ptr 23 2)), (42, tp (V.val (Value.string (ByteArray.mk #[49, 51])))), (43, tp (i64 0)), (44, tp (i64 0)), (45, tp (i64 1)), (46, tp (V.val (Value.string (ByteArray.extract (ByteArray.mk #[49, 51]) (Int.toNat 0) (Int.toNat 1))))), (47, tp (V.val (Value.string (ByteArray.extract (ByteArray.mk #[48, 49, 50, 51]) (Int.toNat 0) (Int.toNat 1))))), (48, tp (vb false))] [(3, Blk.mk [u8 0, u16 s, u8 cl, u8 se, u8 dk] true 5 none), (4, Blk.mk [u8 c1, u8 c2, u8 c3, u16 t0, u16 t1, u16 t2, u16 t3] true 7 none), (6, Blk.mk [u8 0, u16 0, u8 0, u8 0, u8 0] true 5 none), (23, Blk.mk [V.val (Value.string (ByteArray.mk #[])), V.val (Value.string (ByteArray.mk #[48])), V.val (Value.string (ByteArray.mk #[49, 51])), V.val (Value.string (ByteArray.mk #[50]))] true 0 (some (9, 1)))]) (by kernel_rfl) ?_
  refine g0 [2, 3, 4, 6, 7, 8, 9, 10, 11, 30, 31, 32, 33, 34, 35, 36, 37, 38, 39, 40, 41, 42, 43, 44, 45, 46, 47, 48] [3, 4, 6, 23] (by kernel_rfl) ?_
  refine AWP.condT (by kernel_rfl) ?_
  refine AWP.skip ?_
  refine AWP.seq ?_
  refine AWP.block ?_
  refine AWP.seq ?_
  refine AWP.keep' [2, 3, 4, 6, 7, 8, 9, 10, 11, 30, 31, 32, 33, 34, 35, 36, 37, 38] [3, 4, 6, 23] (sf := St.mk [(2, tp (u8 2)), (3, tp (V.ptr 3 0)), (4, tp (V.ptr 4 0)), (6, tp (V.ptr 6 0)), (7, tp (i64 0)), (8, tp (V.sl 23 0 4)), (9, tp (V.val (Value.string (ByteArray.extract (ByteArray.mk #[48, 49, 50, 51]) (Int.toNat 0) (Int.toNat 1))))), (10, tp (vb false)), (11, tp (i64 1)), (30, tp (i64 1)), (31, tp (V.sl 23 0 4)), (32, tp (u8 2)), (33, tp (V.ptr 23 2)), (34, tp (V.val (Value.string (ByteArray.mk #[49, 51])))), (35, tp (i64 2)), (36, tp (vb true)), (37, tp (i64 0)), (38, tp (i64 1))] [(3, Blk.mk [u8 0, u16 s, u8 cl, u8 se, u8 dk] true 5 none), (4, Blk.mk [u8 c1, u8 c2, u8 c3, u16 t0, u16 t1, u16 t2, u16 t3] true 7 none), (6, Blk.mk [u8 0, u16 0, u8 0, u8 0, u8 0] true 5 none), (23, Blk.mk [V.val (Value.string (ByteArray.mk #[])), V.val (Value.string (ByteArray.mk #[48])), V.val (Value.string (ByteArray.mk #[49, 51])), V.val (Value.string (ByteArray.mk #[50]))] true 0 (some (9, 1)))]) (by kernel_rfl) ?_
  refine g0 [2, 3, 4, 6, 7, 8, 9, 10, 11, 30, 31, 32, 33, 34, 35, 36, 37, 38, 39, 40, 41, 42, 43, 44, 45, 46, 47, 48] [3, 4, 6, 23] (by kernel_rfl) ?_
  refine AWP.condF (by kernel_rfl) ?_
  refine AWP.skip ?_
  refine AWP.region tcok hmix [] (os := []) (sf := St.mk [(2, tp (u8 2)), (3, tp (V.ptr 3 0)), (4, tp (V.ptr 4 0)), (6, tp (V.ptr 6 0)), (7, tp (i64 0)), (8, tp (V.sl 23 0 4)), (9, tp (V.val (Value.string (ByteArray.extract (ByteArray.mk #[48, 49, 50, 51]) (Int.toNat 0) (Int.toNat 1))))), (10, tp (vb false)), (11, tp (i64 2)), (30, tp (i64 1)), (31, tp (V.sl 23 0 4)), (32, tp (u8 2)), (33, tp (V.ptr 23 2)), (34, tp (V.val (Value.string (ByteArray.mk #[49, 51])))), (35, tp (i64 2)), (36, tp (vb true)), (37, tp (i64 1)), (38, tp (i64 2)), (39, tp (V.sl 23 0 4)), (40, tp (u8 2)), (41, tp (V.ptr 23 2)), (42, tp (V.val (Value.string (ByteArray.mk #[49, 51])))), (43, tp (i64 1)), (44, tp (i64 1)), (45, tp (i64 2)), (46, tp (V.val (Value.string (ByteArray.extract (ByteArray.mk #[49, 51]) (Int.toNat 1) (Int.toNat 2))))), (47, tp (V.val (Value.string (ByteArray.extract (ByteArray.mk #[48, 49, 50, 51]) (Int.toNat 0) (Int.toNat 1))))), (48, tp (vb false))] [(3, Blk.mk [u8 0, u16 s, u8 cl, u8 se, u8 dk] true 5 none), (4, Blk.mk [u8 c1, u8 c2, u8 c3, u16 t0, u16 t1, u16 t2, u16 t3] true 7 none), (6, Blk.mk [u8 0, u16 0, u8 0, u8 0, u8 0] true 5 none), (23, Blk.mk [V.val (Value.string (ByteArray.mk #[])), V.val (Value.string (ByteArray.mk #[48])), V.val (Value.string (ByteArray.mk #[49, 51])), V.val (Value.string (ByteArray.mk #[50]))] true 0 (some (9, 1)))]) (by kernel_rfl) trivial ?_
  refine AWP.seq ?_
  refine AWP.seq ?_
  refine AWP.keep' [2, 3, 4, 6, 7, 8, 9, 10, 11, 37, 38, 39, 40, 41, 42, 43, 44, 45, 46, 47, 48] [3, 4, 6, 23] (sf := St.mk [(2, tp (u8 2)), (3, tp (V.ptr 3 0)), (4, tp (V.ptr 4 0)), (6, tp (V.ptr 6 0)), (7, tp (i64 0)), (8, tp (V.sl 23 0 4)), (9, tp (V.val (Value.string (ByteArray.extract (ByteArray.mk #[48, 49, 50, 51]) (Int.toNat 0) (Int.toNat 1))))), (10, tp (vb false)), (11, tp (i64 2)), (37, tp (i64 1)), (38, tp (i64 2)), (39, tp (V.sl 23 0 4)), (40, tp (u8 2)), (41, tp (V.ptr 23 2)), (42, tp (V.val (Value.string (ByteArray.mk #[49, 51])))), (43, tp (i64 1)), (44, tp (i64 1)), (45, tp (i64 2)), (46, tp (V.val (Value.string (ByteArray.extract (ByteArray.mk #[49, 51]) (Int.toNat 1) (Int.toNat 2))))), (47, tp (V.val (Value.string (ByteArray.extract (ByteArray.mk #[48, 49, 50, 51]) (Int.toNat 0) (Int.toNat 1))))), (48, tp (vb false))] [(3, Blk.mk [u8 0, u16 s, u8 cl, u8 se, u8 dk] true 5 none), (4, Blk.mk [u8 c1, u8 c2, u8 c3, u16 t0, u16 t1, u16 t2, u16 t3] true 7 none), (6, Blk.mk [u8 0, u16 0, u8 0, u8 0, u8 0] true 5 none), (23, Blk.mk [V.val (Value.string (ByteArray.mk #[])), V.val (Value.string (ByteArray.mk #[48])), V.val (Value.string (ByteArray.mk #[49, 51])), V.val (Value.string (ByteArray.mk #[50]))] true 0 (some (9, 1)))]) (by kernel_rfl) ?_
  refine g0 [2, 3, 4, 6, 7, 8, 9, 10, 11, 30, 31, 32, 33, 34, 35, 36, 37, 38, 39, 40, 41, 42, 43, 44, 45, 46, 47, 48] [3, 4, 6, 23] (by kernel_rfl) ?_
  refine AWP.condF (by kernel_rfl) ?_
  refine AWP.exit ?_
  refine AWP.seq ?_
  refine e0 [2, 3, 6, 7, 61] [3, 6] (by kernel_rfl) ?_
  refine AWP.condT (by kernel_rfl) ?_
  refine e0 [2, 6, 7] [6] (by kernel_rfl) ?_
  refine AWP.ret ?_
  refine ⟨Or.inr rfl, Eq.trans (b := some ([], V.tup [V.agg true [u8 0, u16 s, u8 cl, u8 se, u8 dk], i64 7])) (by kernel_rfl) ?_⟩
  (first | (simp [ask, Au.zero, Au.at]; done) | (simp (disch := omega) [ask, Au.zero, Au.at, if_pos, if_neg]; done))
theorem con_rask_2_1 (s cl se dk c1 c2 c3 t0 t1 t2 t3 : Int) :
    Con Tryd.prog 29 [] [.agg true [u8 1, u16 s, u8 cl, u8 se, u8 dk], .agg true [u8 c1, u8 c2, u8 c3, u16 t0, u16 t1, u16 t2, u16 t3], u8 2] []
      (.tup [(ask ⟨1, s, cl, se, dk⟩ ⟨c1, c2, c3, t0, t1, t2, t3⟩ 2).1.v, i64 (ask ⟨1, s, cl, se, dk⟩ ⟨c1, c2, c3, t0, t1, t2, t3⟩ 2).2]) := by
  refine Con.of (C := ⟨Tryd.prog, tc, Tryd.f29.ntmps⟩) [] tcok Tryd.func29 rfl rfl (by kernel_rfl) (by kernel_rfl) ?_
  refine e0 [2, 3, 4, 6, 7] [3, 4, 6] (by kernel_rfl) ?_
  refine AWP.seq ?_
  refine e0 [2, 3, 4, 6, 7, 13] [3, 4, 6] (by kernel_rfl) ?_
  refine AWP.condF (by kernel_rfl) ?_
  refine AWP.skip ?_
  refine AWP.seq ?_
  refine e0 [2, 3, 4, 6, 7, 16] [3, 4, 6] (by kernel_rfl) ?_
  refine AWP.condF (by kernel_rfl) ?_
  refine AWP.skip ?_
  refine AWP.seq ?_
  refine e0 [2, 3, 4, 6, 7, 21] [3, 4, 6] (by kernel_rfl) ?_
  refine AWP.condF (by kernel_rfl) ?_
  refine AWP.skip ?_
  refine e0 [2, 3, 4, 6, 7, 8] [3, 4, 6, 23] (by kernel_rfl) ?_
  refine e0 [2, 3, 4, 6, 7, 8, 9] [3, 4, 6, 23] (by kernel_rfl) ?_
  refine e0 [2, 3, 4, 6, 7, 8, 9, 10] [3, 4, 6, 23] (by kernel_rfl) ?_
  refine AWP.seq ?_
  refine e0 [2, 3, 4, 6, 7, 8, 9, 10, 11] [3, 4, 6, 23] (by kernel_rfl) ?_
  refine AWP.block ?_
  refine AWP.unroll 4 ?_
  refine AWP.seq ?_
  refine e0 [2, 3, 4, 6, 7, 8, 9, 10, 11, 30, 31, 32, 33, 34, 35, 36] [3, 4, 6, 23] (by kernel_rfl) ?_
  refine AWP.condT (by kernel_rfl) ?_
  refine AWP.skip ?_
  refine AWP.seq ?_
  refine AWP.block ?_
  refine e0 [2, 3, 4, 6, 7, 8, 9, 10, 11, 30, 31, 32, 33, 34, 35, 36, 39, 40, 41, 42, 43, 44, 45, 46, 47, 48] [3, 4, 6, 23] (by kernel_rfl) ?_
  refine AWP.condT (by kernel_rfl) ?_
  refine AWP.region tcok hmix [] (os := []) (sf := St.mk [(2, tp (u8 2)), (3, tp (V.ptr 3 0)), (4, tp (V.ptr 4 0)), (6, tp (V.ptr 6 0)), (7, tp (i64 0)), (8, tp (V.sl 23 0 4)), (9, tp (V.val (Value.string (ByteArray.extract (ByteArray.mk #[48, 49, 50, 51]) (Int.toNat 1) (Int.toNat 2))))), (10, tp (vb true)), (11, tp (i64 0)), (30, tp (i64 0)), (31, tp (V.sl 23 0 4)), (32, tp (u8 2)), (33, tp (V.ptr 23 2)), (34, tp (V.val (Value.string (ByteArray.mk #[49, 51])))), (35, tp (i64 2)), (36, tp (vb true)), (39, tp (V.sl 23 0 4)), (40, tp (u8 2)), (41, tp (V.ptr 23 2)), (42, tp (V.val (Value.string (ByteArray.mk #[49, 51])))), (43, tp (i64 0)), (44, tp (i64 0)), (45, tp (i64 1)), (46, tp (V.val (Value.string (ByteArray.extract (ByteArray.mk #[49, 51]) (Int.toNat 0) (Int.toNat 1))))), (47, tp (V.val (Value.string (ByteArray.extract (ByteArray.mk #[48, 49, 50, 51]) (Int.toNat 1) (Int.toNat 2))))), (48, tp (vb true))] [(3, Blk.mk [u8 1, u16 s, u8 cl, u8 se, u8 dk] true 5 none), (4, Blk.mk [u8 c1, u8 c2, u8 c3, u16 t0, u16 t1, u16 t2, u16 t3] true 7 none), (6, Blk.mk [u8 0, u16 0, u8 0, u8 0, u8 0] true 5 none), (23, Blk.mk [V.val (Value.string (ByteArray.mk #[])), V.val (Value.string (ByteArray.mk #[48])), V.val (Value.string (ByteArray.mk #[49, 51])), V.val (Value.string (ByteArray.mk #[50]))] true 0 (some (9, 1)))]) (by kernel_rfl) trivial ?_
  refine AWP.region tcok hmix [] (os := []) (sf := St.mk [(2, tp (u8 2)), (3, tp (V.ptr 3 0)), (4, tp (V.ptr 4 0)), (6, tp (V.ptr 6 0)), (7, tp (i64 0)), (8, tp (V.sl 23 0 4)), (9, tp (V.val (Value.string (ByteArray.extract (ByteArray.mk #[48, 49, 50, 51]) (Int.toNat 1) (Int.toNat 2))))), (10, tp (vb true)), (11, tp (i64 1)), (30, tp (i64 0)), (31, tp (V.sl 23 0 4)), (32, tp (u8 2)), (33, tp (V.ptr 23 2)), (34, tp (V.val (Value.string (ByteArray.mk #[49, 51])))), (35, tp (i64 2)), (36, tp (vb true)), (37, tp (i64 0)), (38, tp (i64 1)), (39, tp (V.sl 23 0 4)), (40, tp (u8 2)), (41, tp (V.ptr 23 2)), (42, tp (V.val (Value.string (ByteArray.mk #[49, 51])))), (43, tp (i64 0)), (44, tp (i64 0)), (45, tp (i64 1)), (46, tp (V.val (Value.string (ByteArray.extract (ByteArray.mk #[49, 51]) (Int.toNat 0) (Int.toNat 1))))), (47, tp (V.val (Value.string (ByteArray.extract (ByteArray.mk #[48, 49, 50, 51]) (Int.toNat 1) (Int.toNat 2))))), (48, tp (vb true))] [(3, Blk.mk [u8 1, u16 s, u8 cl, u8 se, u8 dk] true 5 none), (4, Blk.mk [u8 c1, u8 c2, u8 c3, u16 t0, u16 t1, u16 t2, u16 t3] true 7 none), (6, Blk.mk [u8 0, u16 0, u8 0, u8 0, u8 0] true 5 none), (23, Blk.mk [V.val (Value.string (ByteArray.mk #[])), V.val (Value.string (ByteArray.mk #[48])), V.val (Value.string (ByteArray.mk #[49, 51])), V.val (Value.string (ByteArray.mk #[50]))] true 0 (some (9, 1)))]) (by kernel_rfl) trivial ?_
  refine AWP.seq ?_
  refine AWP.seq ?_
  refine AWP.keep' [2, 3, 4, 6, 7, 8, 9, 10, 11, 37, 38, 39, 40, 41, 42, 43, 44, 45, 46, 47, 48] [3, 4, 6, 23] (sf := St.mk [(2, tp (u8 2)), (3, tp (V.ptr 3 0)), (4, tp (V.ptr 4 0)), (6, tp (V.ptr 6 0)), (7, tp (i64 0)), (8, tp (V.sl 23 0 4)), (9, tp (V.val (Value.string (ByteArray.extract (ByteArray.mk #[48, 49, 50, 51]) (Int.toNat 1) (Int.toNat 2))))), (10, tp (vb true)), (11, tp (i64 1)), (37, tp (i64 0)), (38, tp (i64 1)), (39, tp (V.sl 23 0 4)), (40, tp (u8 2)), (41, tp (V.ptr 23 2)), (42, tp (V.val (Value.string (ByteArray.mk #[49, 51])))), (43, tp (i64 0)), (44, tp (i64 0)), (45, tp (i64 1)), (46, tp (V.val (Value.string (ByteArray.extract (ByteArray.mk #[49, 51]) (Int.toNat 0) (Int.toNat 1))))), (47, tp (V.val (Value.string (ByteArray.extract (ByteArray.mk #[48, 49, 50, 51]) (Int.toNat 1) (Int.toNat 2))))), (48, tp (vb true))] [(3, Blk.mk [u8 1, u16 s, u8 cl, u8 se, u8 dk] true 5 none), (4, Blk.mk [u8 c1, u8 c2, u8 c3, u16 t0, u16 t1, u16 t2, u16 t3] true 7 none), (6, Blk.mk [u8 0, u16 0, u8 0, u8 0, u8 0] true 5 none), (23, Blk.mk [V.val (Value.string (ByteArray.mk #[])), V.val (Value.string (ByteArray.mk #[48])), V.val (Value.string (ByteArray.mk #[49, 51])), V.val (Value.string (ByteArray.mk #[50]))] true 0 (some (9, 1)))]) (by kernel_rfl) ?_
  refine g0 [2, 3, 4, 6, 7, 8, 9, 10, 11, 30, 31, 32, 33, 34, 35, 36, 37, 38, 39, 40, 41, 42, 43, 44, 45, 46, 47, 48] [3, 4, 6, 23] (by kernel_rfl) ?_
  refine AWP.condT (by kernel_rfl) ?_
  refine AWP.skip ?_
  refine AWP.seq ?_
  refine AWP.block ?_
  refine AWP.seq ?_
  refine AWP.keep' [2, 3, 4, 6, 7, 8, 9, 10, 11, 30, 31, 32, 33, 34, 35, 36, 37, 38] [3, 4, 6, 23] (sf := St.mk [(2, tp (u8 2)), (3, tp (V.ptr 3 0)), (4, tp (V.ptr 4 0)), (6, tp (V.ptr 6 0)), (7, tp (i64 0)), (8, tp (V.sl 23 0 4)), (9, tp (V.val (Value.string (ByteArray.extract (ByteArray.mk #[48, 49, 50, 51]) (Int.toNat 1) (Int.toNat 2))))), (10, tp (vb true)), (11, tp (i64 1)), (30, tp (i64 1)), (31, tp (V.sl 23 0 4)), (32, tp (u8 2)), (33, tp (V.ptr 23 2)), (34, tp (V.val (Value.string (ByteArray.mk #[49, 51])))), (35, tp (i64 2)), (36, tp (vb true)), (37, tp (i64 0)), (38, tp (i64 1))] [(3, Blk.mk [u8 1, u16 s, u8 cl, u8 se, u8 dk] true 5 none), (4, Blk.mk [u8 c1, u8 c2, u8 c3, u16 t0, u16 t1, u16 t2, u16 t3] true 7 none), (6, Blk.mk [u8 0, u16 0, u8 0, u8 0, u8 0] true 5 none), (23, Blk.mk [V.val (Value.string (ByteArray.mk #[])), V.val (Value.string (ByteArray.mk #[48])), V.val (Value.string (ByteArray.mk #[49, 51])), V.val (Value.string (ByteArray.mk #[50]))] true 0 (some (9, 1)))]) (by kernel_rfl) ?_
  refine g0 [2, 3, 4, 6, 7, 8, 9, 10, 11, 30, 31, 32, 33, 34, 35, 36, 37, 38, 39, 40, 41, 42, 43, 44, 45, 46, 47, 48] [3, 4, 6, 23] (by kernel_rfl) ?_
  refine AWP.condF (by kernel_rfl) ?_
  refine AWP.skip ?_
  refine AWP.region tcok hmix [] (os := []) (sf := St.mk [(2, tp (u8 2)), (3, tp (V.ptr 3 0)), (4, tp (V.ptr 4 0)), (6, tp (V.ptr 6 0)), (7, tp (i64 0)), (8, tp (V.sl 23 0 4)), (9, tp (V.val (Value.string (ByteArray.extract (ByteArray.mk #[48, 49, 50, 51]) (Int.toNat 1) (Int.toNat 2))))), (10, tp (vb true)), (11, tp (i64 2)), (30, tp (i64 1)), (31, tp (V.sl 23 0 4)), (32, tp (u8 2)), (33, tp (V.ptr 23 2)), (34, tp (V.val (Value.string (ByteArray.mk #[49, 51])))), (35, tp (i64 2)), (36, tp (vb true)), (37, tp (i64 1)), (38, tp (i64 2)), (39, tp (V.sl 23 0 4)), (40, tp (u8 2)), (41, tp (V.ptr 23 2)), (42, tp (V.val (Value.string (ByteArray.mk #[49, 51])))), (43, tp (i64 1)), (44, tp (i64 1)), (45, tp (i64 2)), (46, tp (V.val (Value.string (ByteArray.extract (ByteArray.mk #[49, 51]) (Int.toNat 1) (Int.toNat 2))))), (47, tp (V.val (Value.string (ByteArray.extract (ByteArray.mk #[48, 49, 50, 51]) (Int.toNat 1) (Int.toNat 2))))), (48, tp (vb false))] [(3, Blk.mk [u8 1, u16 s, u8 cl, u8 se, u8 dk] true 5 none), (4, Blk.mk [u8 c1, u8 c2, u8 c3, u16 t0, u16 t1, u16 t2, u16 t3] true 7 none), (6, Blk.mk [u8 0, u16 0, u8 0, u8 0, u8 0] true 5 none), (23, Blk.mk [V.val (Value.string (ByteArray.mk #[])), V.val (Value.string (ByteArray.mk #[48])), V.val (Value.string (ByteArray.mk #[49, 51])), V.val (Value.string (ByteArray.mk #[50]))] true 0 (some (9, 1)))]) (by kernel_rfl) trivial ?_
  refine AWP.seq ?_
  refine AWP.seq ?_
  refine AWP.keep' [2, 3, 4, 6, 7, 8, 9, 10, 11, 37, 38, 39, 40, 41, 42, 43, 44, 45, 46, 47, 48] [3, 4, 6, 23] (sf := St.mk [(2, tp (u8 2)), (3, tp (V.ptr 3 0)), (4, tp (V.ptr 4 0)), (6, tp (V.ptr 6 0)), (7, tp (i64 0)), (8, tp (V.sl 23 0 4)), (9, tp (V.val (Value.string (ByteArray.extract (ByteArray.mk #[48, 49, 50, 51]) (Int.toNat 1) (Int.toNat 2))))), (10, tp (vb true)), (11, tp (i64 2)), (37, tp (i64 1)), (38, tp (i64 2)), (39, tp (V.sl 23 0 4)), (40, tp (u8 2)), (41, tp (V.ptr 23 2)), (42, tp (V.val (Value.string (ByteArray.mk #[49, 51])))), (43, tp (i64 1)), (44, tp (i64 1)), (45, tp (i64 2)), (46, tp (V.val (Value.string (ByteArray.extract (ByteArray.mk #[49, 51]) (Int.toNat 1) (Int.toNat 2))))), (47, tp (V.val (Value.string (ByteArray.extract (ByteArray.mk #[48, 49, 50, 51]) (Int.toNat 1) (Int.toNat 2))))), (48, tp (vb false))] [(3, Blk.mk [u8 1, u16 s, u8 cl, u8 se, u8 dk] true 5 none), (4, Blk.mk [u8 c1, u8 c2, u8 c3, u16 t0, u16 t1, u16 t2, u16 t3] true 7 none), (6, Blk.mk [u8 0, u16 0, u8 0, u8 0, u8 0] true 5 none), (23, Blk.mk [V.val (Value.string (ByteArray.mk #[])), V.val (Value.string (ByteArray.mk #[48])), V.val (Value.string (ByteArray.mk #[49, 51])), V.val (Value.string (ByteArray.mk #[50]))] true 0 (some (9, 1)))]) (by kernel_rfl) ?_
  refine g0 [2, 3, 4, 6, 7, 8, 9, 10, 11, 30, 31, 32, 33, 34, 35, 36, 37, 38, 39, 40, 41, 42, 43, 44, 45, 46, 47, 48] [3, 4, 6, 23] (by kernel_rfl) ?_
  refine AWP.condF (by kernel_rfl) ?_
  refine AWP.exit ?_
  refine AWP.seq ?_
  refine e0 [2, 3, 6, 7, 61] [3, 6] (by kernel_rfl) ?_
  refine AWP.condF (by kernel_rfl) ?_
  refine AWP.skip ?_
  refine e0 [6, 7] [6] (by kernel_rfl) ?_
  refine AWP.ret ?_
  refine ⟨Or.inr rfl, Eq.trans (b := some ([], V.tup [V.agg true [u8 2, u16 0, u8 0, u8 0, u8 0], i64 0])) (by kernel_rfl) ?_⟩
  (first | (simp [ask, Au.zero, Au.at]; done) | (simp (disch := omega) [ask, Au.zero, Au.at, if_pos, if_neg]; done))
theorem con_rask_2_2 (s cl se dk c1 c2 c3 t0 t1 t2 t3 : Int) :
    Con Tryd.prog 29 [] [.agg true [u8 2, u16 s, u8 cl, u8 se, u8 dk], .agg true [u8 c1, u8 c2, u8 c3, u16 t0, u16 t1, u16 t2, u16 t3], u8 2] []
      (.tup [(ask ⟨2, s, cl, se, dk⟩ ⟨c1, c2, c3, t0, t1, t2, t3⟩ 2).1.v, i64 (ask ⟨2, s, cl, se, dk⟩ ⟨c1, c2, c3, t0, t1, t2, t3⟩ 2).2]) := by
  refine Con.of (C := ⟨Tryd.prog, tc, Tryd.f29.ntmps⟩) [] tcok Tryd.func29 rfl rfl (by kernel_rfl) (by kernel_rfl) ?_
  refine e0 [2, 3, 4, 6, 7] [3, 4, 6] (by kernel_rfl) ?_
  refine AWP.seq ?_
  refine e0 [2, 3, 4, 6, 7, 13] [3, 4, 6] (by kernel_rfl) ?_
  refine AWP.condF (by kernel_rfl) ?_
  refine AWP.skip ?_
  refine AWP.seq ?_
  refine e0 [2, 3, 4, 6, 7, 16] [3, 4, 6] (by kernel_rfl) ?_
  refine AWP.condF (by kernel_rfl) ?_
  refine AWP.skip ?_
  refine AWP.seq ?_
  refine e0 [2, 3, 4, 6, 7, 21] [3, 4, 6] (by kernel_rfl) ?_
  refine AWP.condT (by kernel_rfl) ?_
  refine e0 [2, 3, 4, 6, 7] [3, 4, 6] (by kernel_rfl) ?_
  refine AWP.ret ?_
  refine ⟨Or.inr rfl, Eq.trans (b := some ([], V.tup [V.agg true [u8 2, u16 s, u8 cl, u8 se, u8 dk], i64 0])) (by kernel_rfl) ?_⟩
  (first | (simp [ask, Au.zero, Au.at]; done) | (simp (disch := omega) [ask, Au.zero, Au.at, if_pos, if_neg]; done))
theorem con_rask_2_3 (s cl se dk c1 c2 c3 t0 t1 t2 t3 : Int) :
    Con Tryd.prog 29 [] [.agg true [u8 3, u16 s, u8 cl, u8 se, u8 dk], .agg true [u8 c1, u8 c2, u8 c3, u16 t0, u16 t1, u16 t2, u16 t3], u8 2] []
      (.tup [(ask ⟨3, s, cl, se, dk⟩ ⟨c1, c2, c3, t0, t1, t2, t3⟩ 2).1.v, i64 (ask ⟨3, s, cl, se, dk⟩ ⟨c1, c2, c3, t0, t1, t2, t3⟩ 2).2]) := by
  refine Con.of (C := ⟨Tryd.prog, tc, Tryd.f29.ntmps⟩) [] tcok Tryd.func29 rfl rfl (by kernel_rfl) (by kernel_rfl) ?_
  refine e0 [2, 3, 4, 6, 7] [3, 4, 6] (by kernel_rfl) ?_
  refine AWP.seq ?_
  refine e0 [2, 3, 4, 6, 7, 13] [3, 4, 6] (by kernel_rfl) ?_
  refine AWP.condF (by kernel_rfl) ?_
  refine AWP.skip ?_
  refine AWP.seq ?_
  refine e0 [2, 3, 4, 6, 7, 16] [3, 4, 6] (by kernel_rfl) ?_
  refine AWP.condF (by kernel_rfl) ?_
  refine AWP.skip ?_
  refine AWP.seq ?_
  refine e0 [2, 3, 4, 6, 7, 21] [3, 4, 6] (by kernel_rfl) ?_
  refine AWP.condF (by kernel_rfl) ?_
  refine AWP.skip ?_
  refine e0 [2, 3, 4, 6, 7, 8] [3, 4, 6, 23] (by kernel_rfl) ?_
  refine e0 [2, 3, 4, 6, 7, 8, 9] [3, 4, 6, 23] (by kernel_rfl) ?_
  refine e0 [2, 3, 4, 6, 7, 8, 9, 10] [3, 4, 6, 23] (by kernel_rfl) ?_
  refine AWP.seq ?_
  refine e0 [2, 3, 4, 6, 7, 8, 9, 10, 11] [3, 4, 6, 23] (by kernel_rfl) ?_
  refine AWP.block ?_
  refine AWP.unroll 4 ?_
  refine AWP.seq ?_
  refine e0 [2, 3, 4, 6, 7, 8, 9, 10, 11, 30, 31, 32, 33, 34, 35, 36] [3, 4, 6, 23] (by kernel_rfl) ?_
  refine AWP.condT (by kernel_rfl) ?_
  refine AWP.skip ?_
  refine AWP.seq ?_
  refine AWP.block ?_
  refine e0 [2, 3, 4, 6, 7, 8, 9, 10, 11, 30, 31, 32, 33, 34, 35, 36, 39, 40, 41, 42, 43, 44, 45, 46, 47, 48] [3, 4, 6, 23] (by kernel_rfl) ?_
  refine AWP.condF (by kernel_rfl) ?_
  refine AWP.skip ?_
  refine AWP.region tcok hmix [] (os := []) (sf := St.mk [(2, tp (u8 2)), (3, tp (V.ptr 3 0)), (4, tp (V.ptr 4 0)), (6, tp (V.ptr 6 0)), (7, tp (i64 0)), (8, tp (V.sl 23 0 4)), (9, tp (V.val (Value.string (ByteArray.extract (ByteArray.mk #[48, 49, 50, 51]) (Int.toNat 3) (Int.toNat 4))))), (10, tp (vb false)), (11, tp (i64 1)), (30, tp (i64 0)), (31, tp (V.sl 23 0 4)), (32, tp (u8 2)), (33, tp (V.ptr 23 2)), (34, tp (V.val (Value.string (ByteArray.mk #[49, 51])))), (35, tp (i64 2)), (36, tp (vb true)), (37, tp (i64 0)), (38, tp (i64 1)), (39, tp (V.sl 23 0 4)), (40, tp (u8 2)), (41, tp (V.ptr 23 2)), (42, tp (V.val (Value.string (ByteArray.mk #[49, 51])))), (43, tp (i64 0)), (44, tp (i64 0)), (45, tp (i64 1)), (46, tp (V.val (Value.string (ByteArray.extract (ByteArray.mk #[49, 51]) (Int.toNat 0) (Int.toNat 1))))), (47, tp (V.val (Value.string (ByteArray.extract (ByteArray.mk #[48, 49, 50, 51]) (Int.toNat 3) (Int.toNat 4))))), (48, tp (vb false))] [(3, Blk.mk [u8 3, u16 s, u8 cl, u8 se, u8 dk] true 5 none), (4, Blk.mk [u8 c1, u8 c2, u8 c3, u16 t0, u16 t1, u16 t2, u16 t3] true 7 none), (6, Blk.mk [u8 0, u16 0, u8 0, u8 0, u8 0] true 5 none), (23, Blk.mk [V.val (Value.string (ByteArray.mk #[])), V.val (Value.string (ByteArray.mk #[48])), V.val (Value.string (ByteArray.mk #[49, 51])), V.val (Value.string (ByteArray.mk #[50]))] true 0 (some (9, 1)))]) (by kernel_rfl) trivial ?_
  refine AWP.seq ?_
  refine AWP.seq ?_
  refine AWP.keep' [2, 3, 4, 6, 7, 8, 9, 10, 11, 37, 38, 39, 40, 41, 42, 43, 44, 45, 46, 47, 48] [3, 4, 6, 23] (sf := St.mk [(2, tp (u8 2)), (3, tp (V.ptr 3 0)), (4, tp (V.ptr 4 0)), (6, tp (V.ptr 6 0)), (7, tp (i64 0)), (8, tp (V.sl 23 0 4)), (9, tp (V.val (Value.string (ByteArray.extract (ByteArray.mk #[48, 49, 50, 51]) (Int.toNat 3) (Int.toNat 4))))), (10, tp (vb false)), (11, tp (i64 1)), (37, tp (i64 0)), (38, tp (i64 1)), (39, tp (V.sl 23 0 4)), (40, tp (u8 2)), (41, tp (V.ptr 23 2)), (42, tp (V.val (Value.string (ByteArray.mk #[49, 51])))), (43, tp (i64 0)), (44, tp (i64 0)), (45, tp (i64 1)), (46, tp (V.val (Value.string (ByteArray.extract (ByteArray.mk #[49, 51]) (Int.toNat 0) (Int.toNat 1))))), (47, tp (V.val (Value.string (ByteArray.extract (ByteArray.mk #[48, 49, 50, 51]) (Int.toNat 3) (Int.toNat 4))))), (48, tp (vb false))] [(3, Blk.mk [u8 3, u16 s, u8 cl, u8 se, u8 dk] true 5 none), (4, Blk.mk [u8 c1, u8 c2, u8 c3, u16 t0, u16 t1, u16 t2, u16 t3] true 7 none), (6, Blk.mk [u8 0, u16 0, u8 0, u8 0, u8 0] true 5 none), (23, Blk.mk [V.val (Value.string (ByteArray.mk #[])), V.val (Value.string (ByteArray.mk #[48])), V.val (Value.string (ByteArray.mk #[49, 51])), V.val (Value.string (ByteArray.mk #[50]))] true 0 (some (9, 1)))]) (by kernel_rfl) ?_
  refine g0 [2, 3, 4, 6, 7, 8, 9, 10, 11, 30, 31, 32, 33, 34, 35, 36, 37, 38, 39, 40, 41, 42, 43, 44, 45, 46, 47, 48] [3, 4, 6, 23] (by kernel_rfl) ?_
  refine AWP.condT (by kernel_rfl) ?_
  refine AWP.skip ?_
  refine AWP.seq ?_
  refine AWP.block ?_
  refine AWP.seq ?_
  refine AWP.keep' [2, 3, 4, 6, 7, 8, 9, 10, 11, 30, 31, 32, 33, 34, 35, 36, 37, 38] [3, 4, 6, 23] (sf := St.mk [(2, tp (u8 2)), (3, tp (V.ptr 3 0)), (4, tp (V.ptr 4 0)), (6, tp (V.ptr 6 0)), (7, tp (i64 0)), (8, tp (V.sl 23 0 4)), (9, tp (V.val (Value.string (ByteArray.extract (ByteArray.mk #[48, 49, 50, 51]) (Int.toNat 3) (Int.toNat 4))))), (10, tp (vb false)), (11, tp (i64 1)), (30, tp (i64 1)), (31, tp (V.sl 23 0 4)), (32, tp (u8 2)), (33, tp (V.ptr 23 2)), (34, tp (V.val (Value.string (ByteArray.mk #[49, 51])))), (35, tp (i64 2)), (36, tp (vb true)), (37, tp (i64 0)), (38, tp (i64 1))] [(3, Blk.mk [u8 3, u16 s, u8 cl, u8 se, u8 dk] true 5 none), (4, Blk.mk [u8 c1, u8 c2, u8 c3, u16 t0, u16 t1, u16 t2, u16 t3] true 7 none), (6, Blk.mk [u8 0, u16 0, u8 0, u8 0, u8 0] true 5 none), (23, Blk.mk [V.val (Value.string (ByteArray.mk #[])), V.val (Value.string (ByteArray.mk #[48])), V.val (Value.string (ByteArray.mk #[49, 51])), V.val (Value.string (ByteArray.mk #[50]))] true 0 (some (9, 1)))]) (by kernel_rfl) ?_
  refine g0 [2, 3, 4, 6, 7, 8, 9, 10, 11, 30, 31, 32, 33, 34, 35, 36, 37, 38, 39, 40, 41, 42, 43, 44, 45, 46, 47, 48] [3, 4, 6, 23] (by kernel_rfl) ?_
  refine AWP.condT (by kernel_rfl) ?_
  refine AWP.region tcok hmix [] (os := []) (sf := St.mk [(2, tp (u8 2)), (3, tp (V.ptr 3 0)), (4, tp (V.ptr 4 0)), (6, tp (V.ptr 6 0)), (7, tp (i64 0)), (8, tp (V.sl 23 0 4)), (9, tp (V.val (Value.string (ByteArray.extract (ByteArray.mk #[48, 49, 50, 51]) (Int.toNat 3) (Int.toNat 4))))), (10, tp (vb true)), (11, tp (i64 1)), (30, tp (i64 1)), (31, tp (V.sl 23 0 4)), (32, tp (u8 2)), (33, tp (V.ptr 23 2)), (34, tp (V.val (Value.string (ByteArray.mk #[49, 51])))), (35, tp (i64 2)), (36, tp (vb true)), (37, tp (i64 0)), (38, tp (i64 1)), (39, tp (V.sl 23 0 4)), (40, tp (u8 2)), (41, tp (V.ptr 23 2)), (42, tp (V.val (Value.string (ByteArray.mk #[49, 51])))), (43, tp (i64 1)), (44, tp (i64 1)), (45, tp (i64 2)), (46, tp (V.val (Value.string (ByteArray.extract (ByteArray.mk #[49, 51]) (Int.toNat 1) (Int.toNat 2))))), (47, tp (V.val (Value.string (ByteArray.extract (ByteArray.mk #[48, 49, 50, 51]) (Int.toNat 3) (Int.toNat 4))))), (48, tp (vb true))] [(3, Blk.mk [u8 3, u16 s, u8 cl, u8 se, u8 dk] true 5 none), (4, Blk.mk [u8 c1, u8 c2, u8 c3, u16 t0, u16 t1, u16 t2, u16 t3] true 7 none), (6, Blk.mk [u8 0, u16 0, u8 0, u8 0, u8 0] true 5 none), (23, Blk.mk [V.val (Value.string (ByteArray.mk #[])), V.val (Value.string (ByteArray.mk #[48])), V.val (Value.string (ByteArray.mk #[49, 51])), V.val (Value.string (ByteArray.mk #[50]))] true 0 (some (9, 1)))]) (by kernel_rfl) trivial ?_
  refine AWP.region tcok hmix [] (os := []) (sf := St.mk [(2, tp (u8 2)), (3, tp (V.ptr 3 0)), (4, tp (V.ptr 4 0)), (6, tp (V.ptr 6 0)), (7, tp (i64 0)), (8, tp (V.sl 23 0 4)), (9, tp (V.val (Value.string (ByteArray.extract (ByteArray.mk #[48, 49, 50, 51]) (Int.toNat 3) (Int.toNat 4))))), (10, tp (vb true)), (11, tp (i64 2)), (30, tp (i64 1)), (31, tp (V.sl 23 0 4)), (32, tp (u8 2)), (33, tp (V.ptr 23 2)), (34, tp (V.val (Value.string (ByteArray.mk #[49, 51])))), (35, tp (i64 2)), (36, tp (vb true)), (37, tp (i64 1)), (38, tp (i64 2)), (39, tp (V.sl 23 0 4)), (40, tp (u8 2)), (41, tp (V.ptr 23 2)), (42, tp (V.val (Value.string (ByteArray.mk #[49, 51])))), (43, tp (i64 1)), (44, tp (i64 1)), (45, tp (i64 2)), (46, tp (V.val (Value.string (ByteArray.extract (ByteArray.mk #[49, 51]) (Int.toNat 1) (Int.toNat 2))))), (47, tp (V.val (Value.string (ByteArray.extract (ByteArray.mk #[48, 49, 50, 51]) (Int.toNat 3) (Int.toNat 4))))), (48, tp (vb true))] [(3, Blk.mk [u8 3, u16 s, u8 cl, u8 se, u8 dk] true 5 none), (4, Blk.mk [u8 c1, u8 c2, u8 c3, u16 t0, u16 t1, u16 t2, u16 t3] true 7 none), (6, Blk.mk [u8 0, u16 0, u8 0, u8 0, u8 0] true 5 none), (23, Blk.mk [V.val (Value.string (ByteArray.mk #[])), V.val (Value.string (ByteArray.mk #[48])), V.val (Value.string (ByteArray.mk #[49, 51])), V.val (Value.string (ByteArray.mk #[50]))] true 0 (some (9, 1)))]) (by kernel_rfl) trivial ?_
  refine AWP.seq ?_
  refine AWP.seq ?_
  refine AWP.keep' [2, 3, 4, 6, 7, 8, 9, 10, 11, 37, 38, 39, 40, 41, 42, 43, 44, 45, 46, 47, 48] [3, 4, 6, 23] (sf := St.mk [(2, tp (u8 2)), (3, tp (V.ptr 3 0)), (4, tp (V.ptr 4 0)), (6, tp (V.ptr 6 0)), (7, tp (i64 0)), (8, tp (V.sl 23 0 4)), (9, tp (V.val (Value.string (ByteArray.extract (ByteArray.mk #[48, 49, 50, 51]) (Int.toNat 3) (Int.toNat 4))))), (10, tp (vb true)), (11, tp (i64 2)), (37, tp (i64 1)), (38, tp (i64 2)), (39, tp (V.sl 23 0 4)), (40, tp (u8 2)), (41, tp (V.ptr 23 2)), (42, tp (V.val (Value.string (ByteArray.mk #[49, 51])))), (43, tp (i64 1)), (44, tp (i64 1)), (45, tp (i64 2)), (46, tp (V.val (Value.string (ByteArray.extract (ByteArray.mk #[49, 51]) (Int.toNat 1) (Int.toNat 2))))), (47, tp (V.val (Value.string (ByteArray.extract (ByteArray.mk #[48, 49, 50, 51]) (Int.toNat 3) (Int.toNat 4))))), (48, tp (vb true))] [(3, Blk.mk [u8 3, u16 s, u8 cl, u8 se, u8 dk] true 5 none), (4, Blk.mk [u8 c1, u8 c2, u8 c3, u16 t0, u16 t1, u16 t2, u16 t3] true 7 none), (6, Blk.mk [u8 0, u16 0, u8 0, u8 0, u8 0] true 5 none), (23, Blk.mk [V.val (Value.string (ByteArray.mk #[])), V.val (Value.string (ByteArray.mk #[48])), V.val (Value.string (ByteArray.mk #[49, 51])), V.val (Value.string (ByteArray.mk #[50]))] true 0 (some (9, 1)))]) (by kernel_rfl) ?_
  refine g0 [2, 3, 4, 6, 7, 8, 9, 10, 11, 30, 31, 32, 33, 34, 35, 36, 37, 38, 39, 40, 41, 42, 43, 44, 45, 46, 47, 48] [3, 4, 6, 23] (by kernel_rfl) ?_
  refine AWP.condF (by kernel_rfl) ?_
  refine AWP.exit ?_
  refine AWP.seq ?_
  refine e0 [2, 3, 6, 7, 61] [3, 6] (by kernel_rfl) ?_
  refine AWP.condF (by kernel_rfl) ?_
  refine AWP.skip ?_
  refine e0 [6, 7] [6] (by kernel_rfl) ?_
  refine AWP.ret ?_
  refine ⟨Or.inr rfl, Eq.trans (b := some ([], V.tup [V.agg true [u8 2, u16 0, u8 0, u8 0, u8 0], i64 0])) (by kernel_rfl) ?_⟩
  (first | (simp [ask, Au.zero, Au.at]; done) | (simp (disch := omega) [ask, Au.zero, Au.at, if_pos, if_neg]; done))
theorem con_rask_3_0 (s cl se dk c1 c2 c3 t0 t1 t2 t3 : Int) :
    Con Tryd.prog 29 [] [.agg true [u8 0, u16 s, u8 cl, u8 se, u8 dk], .agg true [u8 c1, u8 c2, u8 c3, u16 t0, u16 t1, u16 t2, u16 t3], u8 3] []
      (.tup [(ask ⟨0, s, cl, se, dk⟩ ⟨c1, c2, c3, t0, t1, t2, t3⟩ 3).1.v, i64 (ask ⟨0, s, cl, se, dk⟩ ⟨c1, c2, c3, t0, t1, t2, t3⟩ 3).2]) := by
  refine Con.of (C := ⟨Tryd.prog, tc, Tryd.f29.ntmps⟩) [] tcok Tryd.func29 rfl rfl (by kernel_rfl) (by kernel_rfl) ?_
  refine e0 [2, 3, 4, 6, 7] [3, 4, 6] (by kernel_rfl) ?_
  refine AWP.seq ?_
  refine e0 [2, 3, 4, 6, 7, 13] [3, 4, 6] (by kernel_rfl) ?_
  refine AWP.condF (by kernel_rfl) ?_
  refine AWP.skip ?_
  refine AWP.seq ?_
  refine e0 [2, 3, 4, 6, 7, 16] [3, 4, 6] (by kernel_rfl) ?_
  refine AWP.condF (by kernel_rfl) ?_
  refine AWP.skip ?_
  refine AWP.seq ?_
  refine e0 [2, 3, 4, 6, 7, 21] [3, 4, 6] (by kernel_rfl) ?_
  refine AWP.condF (by kernel_rfl) ?_
  refine AWP.skip ?_
  refine e0 [2, 3, 4, 6, 7, 8] [3, 4, 6, 23] (by kernel_rfl) ?_
  refine e0 [2, 3, 4, 6, 7, 8, 9] [3, 4, 6, 23] (by kernel_rfl) ?_
  refine e0 [2, 3, 4, 6, 7, 8, 9, 10] [3, 4, 6, 23] (by kernel_rfl) ?_
  refine AWP.seq ?_
  refine e0 [2, 3, 4, 6, 7, 8, 9, 10, 11] [3, 4, 6, 23] (by kernel_rfl) ?_
  refine AWP.block ?_
  refine AWP.unroll 4 ?_
  refine AWP.seq ?_
  refine e0 [2, 3, 4, 6, 7, 8, 9, 10, 11, 30, 31, 32, 33, 34, 35, 36] [3, 4, 6, 23] (by kernel_rfl) ?_
  refine AWP.condT (by kernel_rfl) ?_
  refine AWP.skip ?_
  refine AWP.seq ?_
  refine AWP.block ?_
  refine e0 [2, 3, 4, 6, 7, 8, 9, 10, 11, 30, 31, 32, 33, 34, 35, 36, 39, 40, 41, 42, 43, 44, 45, 46, 47, 48] [3, 4, 6, 23] (by kernel_rfl) ?_
  refine AWP.condF (by kernel_rfl) ?_
  refine AWP.skip ?_
  refine AWP.region tcok hmix [] (os := []) (sf := St.mk [(2, tp (u8 3)), (3, tp (V.ptr 3 0)), (4, tp (V.ptr 4 0)), (6, tp (V.ptr 6 0)), (7, tp (i64 0)), (8, tp (V.sl 23 0 4)), (9, tp (V.val (Value.string (ByteArray.extract (ByteArray.mk #[48, 49, 50, 51]) (Int.toNat 0) (Int.toNat 1))))), (10, tp (vb false)), (11, tp (i64 1)), (30, tp (i64 0)), (31, tp (V.sl 23 0 4)), (32, tp (u8 3)), (33, tp (V.ptr 23 3)), (34, tp (V.val (Value.string (ByteArray.mk #[50])))), (35, tp (i64 1)), (36, tp (vb true)), (37, tp (i64 0)), (38, tp (i64 1)), (39, tp (V.sl 23 0 4)), (40, tp (u8 3)), (41, tp (V.ptr 23 3)), (42, tp (V.val (Value.string (ByteArray.mk #[50])))), (43, tp (i64 0)), (44, tp (i64 0)), (45, tp (i64 1)), (46, tp (V.val (Value.string (ByteArray.extract (ByteArray.mk #[50]) (Int.toNat 0) (Int.toNat 1))))), (47, tp (V.val (Value.string (ByteArray.extract (ByteArray.mk #[48, 49, 50, 51]) (Int.toNat 0) (Int.toNat 1))))), (48, tp (vb false))] [(3, Blk.mk [u8 0, u16 s, u8 cl, u8 se, u8 dk] true 5 none), (4, Blk.mk [u8 c1, u8 c2, u8 c3, u16 t0, u16 t1, u16 t2, u16 t3] true 7 none), (6, Blk.mk [u8 0, u16 0, u8 0, u8 0, u8 0] true 5 none), (23, Blk.mk [V.val (Value.string (ByteArray.mk #[])), V.val (Value.string (ByteArray.mk #[48])), V.val (Value.string (ByteArray.mk #[49, 51])), V.val (Value.string (ByteArray.mk #[50]))] true 0 (some (9, 1)))]) (by kernel_rfl) trivial ?_
  refine AWP.seq ?_
  refine AWP.seq ?_
  refine AWP.keep' [2, 3, 4, 6, 7, 8, 9, 10, 11, 37, 38, 39, 40, 41, 42, 43, 44, 45, 46, 47, 48] [3, 4, 6, 23] (sf := St.mk [(2, tp (u8 3)), (3, tp (V.ptr 3 0)), (4, tp (V.ptr 4 0)), (6, tp (V.ptr 6 0)), (7, tp (i64 0)), (8, tp (V.sl 23 0 4)), (9, tp (V.val (Value.string (ByteArray.extract (ByteArray.mk #[48, 49, 50, 51]) (Int.toNat 0) (Int.toNat 1))))), (10, tp (vb false)), (11, tp (i64 1)), (37, tp (i64 0)), (38, tp (i64 1)), (39, tp (V.sl 23 0 4)), (40, tp (u8 3)), (41, tp (V.ptr 23 3)), (42, tp (V.val (Value.string (ByteArray.mk #[50])))), (43, tp (i64 0)), (44, tp (i64 0)), (45, tp (i64 1)), (46, tp (V.val (Value.string (ByteArray.extract (ByteArray.mk #[50]) (Int.toNat 0) (Int.toNat 1))))), (47, tp (V.val (Value.string (ByteArray.extract (ByteArray.mk #[48, 49, 50, 51]) (Int.toNat 0) (Int.toNat 1))))), (48, tp (vb false))] [(3, Blk.mk [u8 0, u16 s, u8 cl, u8 se, u8 dk] true 5 none), (4, Blk.mk [u8 c1, u8 c2, u8 c3, u16 t0, u16 t1, u16 t2, u16 t3] true 7 none), (6, Blk.mk [u8 0, u16 0, u8 0, u8 0, u8 0] true 5 none), (23, Blk.mk [V.val (Value.string (ByteArray.mk #[])), V.val (Value.string (ByteArray.mk #[48])), V.val (Value.string (ByteArray.mk #[49, 51])), V.val (Value.string (ByteArray.mk #[50]))] true 0 (some (9, 1)))]) (by kernel_rfl) ?_
  refine g0 [2, 3, 4, 6, 7, 8, 9, 10, 11, 30, 31, 32, 33, 34, 35, 36, 37, 38, 39, 40, 41, 42, 43, 44, 45, 46, 47, 48] [3, 4, 6, 23] (by kernel_rfl) ?_
  refine AWP.condF (by kernel_rfl) ?_
  refine AWP.exit ?_
  refine AWP.seq ?_
  refine e0 [2, 3, 6, 7, 61] [3, 6] (by kernel_rfl) ?_
  refine AWP.condT (by kernel_rfl) ?_
  refine e0 [2, 6, 7] [6] (by kernel_rfl) ?_
  refine AWP.ret ?_
  refine ⟨Or.inr rfl, Eq.trans (b := some ([], V.tup [V.agg true [u8 0, u16 s, u8 cl, u8 se, u8 dk], i64 7])) (by kernel_rfl) ?_⟩
  (first | (simp [ask, Au.zero, Au.at]; done) | (simp (disch := omega) [ask, Au.zero, Au.at, if_pos, if_neg]; done))
theorem con_rask_3_1 (s cl se dk c1 c2 c3 t0 t1 t2 t3 : Int) :
    Con Tryd.prog 29 [] [.agg true [u8 1, u16 s, u8 cl, u8 se, u8 dk], .agg true [u8 c1, u8 c2, u8 c3, u16 t0, u16 t1, u16 t2, u16 t3], u8 3] []
      (.tup [(ask ⟨1, s, cl, se, dk⟩ ⟨c1, c2, c3, t0, t1, t2, t3⟩ 3).1.v, i64 (ask ⟨1, s, cl, se, dk⟩ ⟨c1, c2, c3, t0, t1, t2, t3⟩ 3).2]) := by
  refine Con.of (C := ⟨Tryd.prog, tc, Tryd.f29.ntmps⟩) [] tcok Tryd.func29 rfl rfl (by kernel_rfl) (by kernel_rfl) ?_
  refine e0 [2, 3, 4, 6, 7] [3, 4, 6] (by kernel_rfl) ?_
  refine AWP.seq ?_
  refine e0 [2, 3, 4, 6, 7, 13] [3, 4, 6] (by kernel_rfl) ?_
  refine AWP.condF (by kernel_rfl) ?_
  refine AWP.skip ?_
  refine AWP.seq ?_
  refine e0 [2, 3, 4, 6, 7, 16] [3, 4, 6] (by kernel_rfl) ?_
  refine AWP.condF (by kernel_rfl) ?_
  refine AWP.skip ?_
  refine AWP.seq ?_
  refine e0 [2, 3, 4, 6, 7, 21] [3, 4, 6] (by kernel_rfl) ?_
  refine AWP.condF (by kernel_rfl) ?_
  refine AWP.skip ?_
  refine e0 [2, 3, 4, 6, 7, 8] [3, 4, 6, 23] (by kernel_rfl) ?_
  refine e0 [2, 3, 4, 6, 7, 8, 9] [3, 4, 6, 23] (by kernel_rfl) ?_
  refine e0 [2, 3, 4, 6, 7, 8, 9, 10] [3, 4, 6, 23] (by kernel_rfl) ?_
  refine AWP.seq ?_
  refine e0 [2, 3, 4, 6, 7, 8, 9, 10, 11] [3, 4, 6, 23] (by kernel_rfl) ?_
  refine AWP.block ?_
  refine AWP.unroll 4 ?_
  refine AWP.seq ?_
  refine e0 [2, 3, 4, 6, 7, 8, 9, 10, 11, 30, 31, 32, 33, 34, 35, 36] [3, 4, 6, 23] (by kernel_rfl) ?_
  refine AWP.condT (by kernel_rfl) ?_
  refine AWP.skip ?_
  refine AWP.seq ?_
  refine AWP.block ?_
  refine e0 [2, 3, 4, 6, 7, 8, 9, 10, 11, 30, 31, 32, 33, 34, 35, 36, 39, 40, 41, 42, 43, 44, 45, 46, 47, 48] [3, 4, 6, 23] (by kernel_rfl) ?_
  refine AWP.condF (by kernel_rfl) ?_
  refine AWP.skip ?_
  refine AWP.region tcok hmix [] (os := []) (sf := St.mk [(2, tp (u8 3)), (3, tp (V.ptr 3 0)), (4, tp (V.ptr 4 0)), (6, tp (V.ptr 6 0)), (7, tp (i64 0)), (8, tp (V.sl 23 0 4)), (9, tp (V.val (Value.string (ByteArray.extract (ByteArray.mk #[48, 49, 50, 51]) (Int.toNat 1) (Int.toNat 2))))), (10, tp (vb false)), (11, tp (i64 1)), (30, tp (i64 0)), (31, tp (V.sl 23 0 4)), (32, tp (u8 3)), (33, tp (V.ptr 23 3)), (34, tp (V.val (Value.string (ByteArray.mk #[50])))), (35, tp (i64 1)), (36, tp (vb true)), (37, tp (i64 0)), (38, tp (i64 1)), (39, tp (V.sl 23 0 4)), (40, tp (u8 3)), (41, tp (V.ptr 23 3)), (42, tp (V.val (Value.string (ByteArray.mk #[50])))), (43, tp (i64 0)), (44, tp (i64 0)), (45, tp (i64 1)), (46, tp (V.val (Value.string (ByteArray.extract (ByteArray.mk #[50]) (Int.toNat 0) (Int.toNat 1))))), (47, tp (V.val (Value.string (ByteArray.extract (ByteArray.mk #[48, 49, 50, 51]) (Int.toNat 1) (Int.toNat 2))))), (48, tp (vb false))] [(3, Blk.mk [u8 1, u16 s, u8 cl, u8 se, u8 dk] true 5 none), (4, Blk.mk [u8 c1, u8 c2, u8 c3, u16 t0, u16 t1, u16 t2, u16 t3] true 7 none), (6, Blk.mk [u8 0, u16 0, u8 0, u8 0, u8 0] true 5 none), (23, Blk.mk [V.val (Value.string (ByteArray.mk #[])), V.val (Value.string (ByteArray.mk #[48])), V.val (Value.string (ByteArray.mk #[49, 51])), V.val (Value.string (ByteArray.mk #[50]))] true 0 (some (9, 1)))]) (by kernel_rfl) trivial ?_
  refine AWP.seq ?_
  refine AWP.seq ?_
  refine AWP.keep' [2, 3, 4, 6, 7, 8, 9, 10, 11, 37, 38, 39, 40, 41, 42, 43, 44, 45, 46, 47, 48] [3, 4, 6, 23] (sf := St.mk [(2, tp (u8 3)), (3, tp (V.ptr 3 0)), (4, tp (V.ptr 4 0)), (6, tp (V.ptr 6 0)), (7, tp (i64 0)), (8, tp (V.sl 23 0 4)), (9, tp (V.val (Value.string (ByteArray.extract (ByteArray.mk #[48, 49, 50, 51]) (Int.toNat 1) (Int.toNat 2))))), (10, tp (vb false)), (11, tp (i64 1)), (37, tp (i64 0)), (38, tp (i64 1)), (39, tp (V.sl 23 0 4)), (40, tp (u8 3)), (41, tp (V.ptr 23 3)), (42, tp (V.val (Value.string (ByteArray.mk #[50])))), (43, tp (i64 0)), (44, tp (i64 0)), (45, tp (i64 1)), (46, tp (V.val (Value.string (ByteArray.extract (ByteArray.mk #[50]) (Int.toNat 0) (Int.toNat 1))))), (47, tp (V.val (Value.string (ByteArray.extract (ByteArray.mk #[48, 49, 50, 51]) (Int.toNat 1) (Int.toNat 2))))), (48, tp (vb false))] [(3, Blk.mk [u8 1, u16 s, u8 cl, u8 se, u8 dk] true 5 none), (4, Blk.mk [u8 c1, u8 c2, u8 c3, u16 t0, u16 t1, u16 t2, u16 t3] true 7 none), (6, Blk.mk [u8 0, u16 0, u8 0, u8 0, u8 0] true 5 none), (23, Blk.mk [V.val (Value.string (ByteArray.mk #[])), V.val (Value.string (ByteArray.mk #[48])), V.val (Value.string (ByteArray.mk #[49, 51])), V.val (Value.string (ByteArray.mk #[50]))] true 0 (some (9, 1)))]) (by kernel_rfl) ?_
  refine g0 [2, 3, 4, 6, 7, 8, 9, 10, 11, 30, 31, 32, 33, 34, 35, 36, 37, 38, 39, 40, 41, 42, 43, 44, 45, 46, 47, 48] [3, 4, 6, 23] (by kernel_rfl) ?_
  refine AWP.condF (by kernel_rfl) ?_
  refine AWP.exit ?_
  refine AWP.seq ?_
  refine e0 [2, 3, 6, 7, 61] [3, 6] (by kernel_rfl) ?_
  refine AWP.condT (by kernel_rfl) ?_
  refine e0 [2, 6, 7] [6] (by kernel_rfl) ?_
  refine AWP.ret ?_
  refine ⟨Or.inr rfl, Eq.trans (b := some ([], V.tup [V.agg true [u8 1, u16 s, u8 cl, u8 se, u8 dk], i64 7])) (by kernel_rfl) ?_⟩
  (first | (simp [ask, Au.zero, Au.at]; done) | (simp (disch := omega) [ask, Au.zero, Au.at, if_pos, if_neg]; done))
theorem con_rask_3_2 (s cl se dk c1 c2 c3 t0 t1 t2 t3 : Int) :
    Con Tryd.prog 29 [] [.agg true [u8 2, u16 s, u8 cl, u8 se, u8 dk], .agg true [u8 c1, u8 c2, u8 c3, u16 t0, u16 t1, u16 t2, u16 t3], u8 3] []
      (.tup [(ask ⟨2, s, cl, se, dk⟩ ⟨c1, c2, c3, t0, t1, t2, t3⟩ 3).1.v, i64 (ask ⟨2, s, cl, se, dk⟩ ⟨c1, c2, c3, t0, t1, t2, t3⟩ 3).2]) := by
  refine Con.of (C := ⟨Tryd.prog, tc, Tryd.f29.ntmps⟩) [] tcok Tryd.func29 rfl rfl (by kernel_rfl) (by kernel_rfl) ?_
  refine e0 [2, 3, 4, 6, 7] [3, 4, 6] (by kernel_rfl) ?_
  refine AWP.seq ?_
  refine e0 [2, 3, 4, 6, 7, 13] [3, 4, 6] (by kernel_rfl) ?_
  refine AWP.condF (by kernel_rfl) ?_
  refine AWP.skip ?_
  refine AWP.seq ?_
  refine e0 [2, 3, 4, 6, 7, 16] [3, 4, 6] (by kernel_rfl) ?_
  refine AWP.condF (by kernel_rfl) ?_
  refine AWP.skip ?_
  refine AWP.seq ?_
  refine e0 [2, 3, 4, 6, 7, 21] [3, 4, 6] (by kernel_rfl) ?_
  refine AWP.condF (by kernel_rfl) ?_
  refine AWP.skip ?_
  refine e0 [2, 3, 4, 6, 7, 8] [3, 4, 6, 23] (by kernel_rfl) ?_
  refine e0 [2, 3, 4, 6, 7, 8, 9] [3, 4, 6, 23] (by kernel_rfl) ?_
  refine e0 [2, 3, 4, 6, 7, 8, 9, 10] [3, 4, 6, 23] (by kernel_rfl) ?_
  refine AWP.seq ?_
  refine e0 [2, 3, 4, 6, 7, 8, 9, 10, 11] [3, 4, 6, 23] (by kernel_rfl) ?_
  refine AWP.block ?_
  refine AWP.unroll 4 ?_
  refine AWP.seq ?_
  refine e0 [2, 3, 4, 6, 7, 8, 9, 10, 11, 30, 31, 32, 33, 34, 35, 36] [3, 4, 6, 23] (by kernel_rfl) ?_
  refine AWP.condT (by kernel_rfl) ?_
  refine AWP.skip ?_
  refine AWP.seq ?_
  refine AWP.block ?_
  refine e0 [2, 3, 4, 6, 7, 8, 9, 10, 11, 30, 31, 32, 33, 34, 35, 36, 39, 40, 41, 42, 43, 44, 45, 46, 47, 48] [3, 4, 6, 23] (by kernel_rfl) ?_
  refine AWP.condT (by kernel_rfl) ?_
  refine AWP.region tcok hmix [] (os := []) (sf := St.mk [(2, tp (u8 3)), (3, tp (V.ptr 3 0)), (4, tp (V.ptr 4 0)), (6, tp (V.ptr 6 0)), (7, tp (i64 0)), (8, tp (V.sl 23 0 4)), (9, tp (V.val (Value.string (ByteArray.extract (ByteArray.mk #[48, 49, 50, 51]) (Int.toNat 2) (Int.toNat 3))))), (10, tp (vb true)), (11, tp (i64 0)), (30, tp (i64 0)), (31, tp (V.sl 23 0 4)), (32, tp (u8 3)), (33, tp (V.ptr 23 3)), (34, tp (V.val (Value.string (ByteArray.mk #[50])))), (35, tp (i64 1)), (36, tp (vb true)), (39, tp (V.sl 23 0 4)), (40, tp (u8 3)), (41, tp (V.ptr 23 3)), (42, tp (V.val (Value.string (ByteArray.mk #[50])))), (43, tp (i64 0)), (44, tp (i64 0)), (45, tp (i64 1)), (46, tp (V.val (Value.string (ByteArray.extract (ByteArray.mk #[50]) (Int.toNat 0) (Int.toNat 1))))), (47, tp (V.val (Value.string (ByteArray.extract (ByteArray.mk #[48, 49, 50, 51]) (Int.toNat 2) (Int.toNat 3))))), (48, tp (vb true))] [(3, Blk.mk [u8 2, u16 s, u8 cl, u8 se, u8 dk] true 5 none), (4, Blk.mk [u8 c1, u8 c2, u8 c3, u16 t0, u16 t1, u16 t2, u16 t3] true 7 none), (6, Blk.mk [u8 0, u16 0, u8 0, u8 0, u8 0] true 5 none), (23, Blk.mk [V.val (Value.string (ByteArray.mk #[])), V.val (Value.string (ByteArray.mk #[48])), V.val (Value.string (ByteArray.mk #[49, 51])), V.val (Value.string (ByteArray.mk #[50]))] true 0 (some (9, 1)))]) (by kernel_rfl) trivial ?_
  refine AWP.region tcok hmix [] (os := []) (sf := St.mk [(2, tp (u8 3)), (3, tp (V.ptr 3 0)), (4, tp (V.ptr 4 0)), (6, tp (V.ptr 6 0)), (7, tp (i64 0)), (8, tp (V.sl 23 0 4)), (9, tp (V.val (Value.string (ByteArray.extract (ByteArray.mk #[48, 49, 50, 51]) (Int.toNat 2) (Int.toNat 3))))), (10, tp (vb true)), (11, tp (i64 1)), (30, tp (i64 0)), (31, tp (V.sl 23 0 4)), (32, tp (u8 3)), (33, tp (V.ptr 23 3)), (34, tp (V.val (Value.string (ByteArray.mk #[50])))), (35, tp (i64 1)), (36, tp (vb true)), (37, tp (i64 0)), (38, tp (i64 1)), (39, tp (V.sl 23 0 4)), (40, tp (u8 3)), (41, tp (V.ptr 23 3)), (42, tp (V.val (Value.string (ByteArray.mk #[50])))), (43, tp (i64 0)), (44, tp (i64 0)), (45, tp (i64 1)), (46, tp (V.val (Value.string (ByteArray.extract (ByteArray.mk #[50]) (Int.toNat 0) (Int.toNat 1))))), (47, tp (V.val (Value.string (ByteArray.extract (ByteArray.mk #[48, 49, 50, 51]) (Int.toNat 2) (Int.toNat 3))))), (48, tp (vb true))] [(3, Blk.mk [u8 2, u16 s, u8 cl, u8 se, u8 dk] true 5 none), (4, Blk.mk [u8 c1, u8 c2, u8 c3, u16 t0, u16 t1, u16 t2, u16 t3] true 7 none), (6, Blk.mk [u8 0, u16 0, u8 0, u8 0, u8 0] true 5 none), (23, Blk.mk [V.val (Value.string (ByteArray.mk #[])), V.val (Value.string (ByteArray.mk #[48])), V.val (Value.string (ByteArray.mk #[49, 51])), V.val (Value.string (ByteArray.mk #[50]))] true 0 (some (9, 1)))]) (by kernel_rfl) trivial ?_
  refine AWP.seq ?_
  refine AWP.seq ?_
  refine AWP.keep' [2, 3, 4, 6, 7, 8, 9, 10, 11, 37, 38, 39, 40, 41, 42, 43, 44, 45, 46, 47, 48] [3, 4, 6, 23] (sf := St.mk [(2, tp (u8 3)), (3, tp (V.ptr 3 0)), (4, tp (V.ptr 4 0)), (6, tp (V.ptr 6 0)), (7, tp (i64 0)), (8, tp (V.sl 23 0 4)), (9, tp (V.val (Value.string (ByteArray.extract (ByteArray.mk #[48, 49, 50, 51]) (Int.toNat 2) (Int.toNat 3))))), (10, tp (vb true)), (11, tp (i64 1)), (37, tp (i64 0)), (38, tp (i64 1)), (39, tp (V.sl 23 0 4)), (40, tp (u8 3)), (41, tp (V.ptr 23 3)), (42, tp (V.val (Value.string (ByteArray.mk #[50])))), (43, tp (i64 0)), (44, tp (i64 0)), (45, tp (i64 1)), (46, tp (V.val (Value.string (ByteArray.extract (ByteArray.mk #[50]) (Int.toNat 0) (Int.toNat 1))))), (47, tp (V.val (Value.string (ByteArray.extract (ByteArray.mk #[48, 49, 50, 51]) (Int.toNat 2) (Int.toNat 3))))), (48, tp (vb true))] [(3, Blk.mk [u8 2, u16 s, u8 cl, u8 se, u8 dk] true 5 none), (4, Blk.mk [u8 c1, u8 c2, u8 c3, u16 t0, u16 t1, u16 t2, u16 t3] true 7 none), (6, Blk.mk [u8 0, u16 0, u8 0, u8 0, u8 0] true 5 none), (23, Blk.mk [V.val (Value.string (ByteArray.mk #[])), V.val (Value.string (ByteArray.mk #[48])), V.val (Value.string (ByteArray.mk #[49, 51])), V.val (Value.string (ByteArray.mk #[50]))] true 0 (some (9, 1)))]) (by kernel_rfl) ?_
  refine g0 [2, 3, 4, 6, 7, 8, 9, 10, 11, 30, 31, 32, 33, 34, 35, 36, 37, 38, 39, 40, 41, 42, 43, 44, 45, 46, 47, 48] [3, 4, 6, 23] (by kernel_rfl) ?_
  refine AWP.condF (by kernel_rfl) ?_
  refine AWP.exit ?_
  refine AWP.seq ?_
  refine e0 [2, 3, 6, 7, 61] [3, 6] (by kernel_rfl) ?_
  refine AWP.cond (b := false || true && decide (se < c2)) (by kernel_rfl) (fun hq77 => ?_) (fun hq77 => ?_)
  · simp only [Bool.false_or, Bool.true_and, decide_eq_true_eq] at hq77
    refine e0 [2, 6, 7] [6] (by kernel_rfl) ?_
    refine AWP.ret ?_
    refine ⟨Or.inr rfl, Eq.trans (b := some ([], V.tup [V.agg true [u8 2, u16 s, u8 cl, u8 se, u8 dk], i64 7])) (by kernel_rfl) ?_⟩
    (first | (simp [ask, Au.zero, Au.at]; done) | (simp (disch := omega) [ask, Au.zero, Au.at, if_pos, if_neg]; done))
  simp only [Bool.false_or, Bool.true_and, decide_eq_false_iff_not] at hq77
  refine AWP.skip ?_
  refine e0 [6, 7] [6] (by kernel_rfl) ?_
  refine AWP.ret ?_
  refine ⟨Or.inr rfl, Eq.trans (b := some ([], V.tup [V.agg true [u8 3, u16 0, u8 0, u8 0, u8 0], i64 0])) (by kernel_rfl) ?_⟩
  (first | (simp [ask, Au.zero, Au.at]; done) | (simp (disch := omega) [ask, Au.zero, Au.at, if_pos, if_neg]; done))
theorem con_rask_3_3 (s cl se dk c1 c2 c3 t0 t1 t2 t3 : Int) :
    Con Tryd.prog 29 [] [.agg true [u8 3, u16 s, u8 cl, u8 se, u8 dk], .agg true [u8 c1, u8 c2, u8 c3, u16 t0, u16 t1, u16 t2, u16 t3], u8 3] []
      (.tup [(ask ⟨3, s, cl, se, dk⟩ ⟨c1, c2, c3, t0, t1, t2, t3⟩ 3).1.v, i64 (ask ⟨3, s, cl, se, dk⟩ ⟨c1, c2, c3, t0, t1, t2, t3⟩ 3).2]) := by
  refine Con.of (C := ⟨Tryd.prog, tc, Tryd.f29.ntmps⟩) [] tcok Tryd.func29 rfl rfl (by kernel_rfl) (by kernel_rfl) ?_
  refine e0 [2, 3, 4, 6, 7] [3, 4, 6] (by kernel_rfl) ?_
  refine AWP.seq ?_
  refine e0 [2, 3, 4, 6, 7, 13] [3, 4, 6] (by kernel_rfl) ?_
  refine AWP.condF (by kernel_rfl) ?_
  refine AWP.skip ?_
  refine AWP.seq ?_
  refine e0 [2, 3, 4, 6, 7, 16] [3, 4, 6] (by kernel_rfl) ?_
  refine AWP.condF (by kernel_rfl) ?_
  refine AWP.skip ?_
  refine AWP.seq ?_
  refine e0 [2, 3, 4, 6, 7, 21] [3, 4, 6] (by kernel_rfl) ?_
  refine AWP.condT (by kernel_rfl) ?_
  refine e0 [2, 3, 4, 6, 7] [3, 4, 6] (by kernel_rfl) ?_
  refine AWP.ret ?_
  refine ⟨Or.inr rfl, Eq.trans (b := some ([], V.tup [V.agg true [u8 3, u16 s, u8 cl, u8 se, u8 dk], i64 0])) (by kernel_rfl) ?_⟩
  (first | (simp [ask, Au.zero, Au.at]; done) | (simp (disch := omega) [ask, Au.zero, Au.at, if_pos, if_neg]; done))
theorem con_rask (m s cl se dk c1 c2 c3 t0 t1 t2 t3 q : Int) (h : m = 0 ∨ m = 1 ∨ m = 2 ∨ m = 3) (hq : 0 ≤ q) :
    Con Tryd.prog 29 [] [.agg true [u8 m, u16 s, u8 cl, u8 se, u8 dk], .agg true [u8 c1, u8 c2, u8 c3, u16 t0, u16 t1, u16 t2, u16 t3], u8 q] []
      (.tup [(ask ⟨m, s, cl, se, dk⟩ ⟨c1, c2, c3, t0, t1, t2, t3⟩ q).1.v, i64 (ask ⟨m, s, cl, se, dk⟩ ⟨c1, c2, c3, t0, t1, t2, t3⟩ q).2]) := by
  have hq' : q = 0 ∨ q = 1 ∨ q = 2 ∨ q = 3 ∨ 3 < q := by omega
  rcases hq' with rfl | rfl | rfl | rfl | hq'
  · exact con_rask_z ..
  · rcases h with rfl | rfl | rfl | rfl
    · exact con_rask_1_0 ..
    · exact con_rask_1_1 ..
    · exact con_rask_1_2 ..
    · exact con_rask_1_3 ..
  · rcases h with rfl | rfl | rfl | rfl
    · exact con_rask_2_0 ..
    · exact con_rask_2_1 ..
    · exact con_rask_2_2 ..
    · exact con_rask_2_3 ..
  · rcases h with rfl | rfl | rfl | rfl
    · exact con_rask_3_0 ..
    · exact con_rask_3_1 ..
    · exact con_rask_3_2 ..
    · exact con_rask_3_3 ..
  · exact con_rask_b _ _ _ _ _ _ _ _ _ _ _ _ _ hq'
theorem con_awake : Con Tryd.prog 24 [] [] [] (vb true) := by
  refine Con.of (C := ⟨Tryd.prog, tc, Tryd.f24.ntmps⟩) [] tcok Tryd.func24 rfl rfl (by kernel_rfl) (by kernel_rfl) ?_
  refine e0 [0] [] (by kernel_rfl) ?_
  refine e0 [0, 1] [1] (by kernel_rfl) ?_
  refine e1 [(2, ⟨none, some ⟨V.tup [Au.v (ask (Au.mk 0 0 0 0 0) (Cf.mk 2 0 0 0 0 0 0) 1).fst, i64 (ask (Au.mk 0 0 0 0 0) (Cf.mk 2 0 0 0 0 0 0) 1).snd], [], []⟩⟩)] [0, 1, 2, 3] [1, 2] (by kernel_rfl) (AllP.c (con_ask (0) (0) (0) (0) (0) (2) (0) (0) (0) (0) (0) (0) (1) (by omega) (by omega)) AllP.n) ?_
  refine e1 [(2, ⟨none, some ⟨V.tup [Au.v (step (Au.mk 1 0 0 0 0) (Cf.mk 2 0 0 0 0 0 0) true false false).fst, u8 (step (Au.mk 1 0 0 0 0) (Cf.mk 2 0 0 0 0 0 0) true false false).snd], [], []⟩⟩)] [0, 1, 2, 3] [1, 2] (by kernel_rfl) (AllP.c (con_step (1) (0) (0) (0) (0) (2) (0) (0) (0) (0) (0) (0) (true) (false) (false) (by omega) (by omega) (by omega) (by omega) (by omega) (by omega) (by omega) (by omega) (by omega)) AllP.n) ?_
  refine e1 [(2, ⟨none, some ⟨V.tup [Au.v (step (Au.mk 1 1 1 0 1) (Cf.mk 2 0 0 0 0 0 0) true false false).fst, u8 (step (Au.mk 1 1 1 0 1) (Cf.mk 2 0 0 0 0 0 0) true false false).snd], [], []⟩⟩)] [0, 2, 3, 4, 5] [2, 4] (by kernel_rfl) (AllP.c (con_step (1) (1) (1) (0) (1) (2) (0) (0) (0) (0) (0) (0) (true) (false) (false) (by omega) (by omega) (by omega) (by omega) (by omega) (by omega) (by omega) (by omega) (by omega)) AllP.n) ?_
  refine e0 [0] [] (by kernel_rfl) ?_
  refine AWP.ret ?_
  refine ⟨Or.inr rfl, Eq.trans (b := some ([], vb true)) (by kernel_rfl) ?_⟩
  rfl
end Go.Proofs.YtklbonfbiakebaaDoor
