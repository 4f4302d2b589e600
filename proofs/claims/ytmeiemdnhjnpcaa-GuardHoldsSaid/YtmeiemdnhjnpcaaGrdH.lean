/- Chapter 7: GuardHolds: a memory that is cut and spoilt. -/
import Derived.Test.YtmeiemdnhjnpcaaRg
import Derived.Test.YtmeiemdnhjnpcaaGrdE
import Derived.Test.YtmeiemdnhjnpcaaGrdP
import Derived.Test.YtmeiemdnhjnpcaaGrdD
import Derived.Test.YtmeiemdnhjnpcaaAb28
namespace Go.Proofs.Ytmeiemdnhjnpcaa
open Go.Ab
set_option linter.unusedSimpArgs false
set_option linter.unusedVariables false
set_option maxHeartbeats 8000000
theorem con_hit_no (w v : Int) (a b c nx : V) (hv : 0 ≤ v ∧ v < 65536) (hw : v / 3 % 4 ≠ w) : Con Try.prog 58 [(1000000000, ⟨[.ptr 1000000002 0], false, 1, none⟩), (1000000001, ⟨[u16 v], true, 1, none⟩), (1000000002, ⟨[a, b, c, nx], true, 4, none⟩)] [u16 w, .ptr 1000000001 0, .ptr 1000000000 0] [(1000000000, ⟨[.ptr 1000000002 0], false, 1, none⟩), (1000000001, ⟨[u16 v], true, 1, none⟩), (1000000002, ⟨[a, b, c, nx], true, 4, none⟩)] (.tup []) := by
  refine Con.of (C := ⟨Try.prog, tc, Try.f58.ntmps⟩) [1000000000, 1000000001, 1000000002] tcok Try.func58 rfl rfl (by kernel_rfl) (by kernel_rfl) ?_
  refine xe1 (os := [(3 : Int) ≠ (0 : Int), u16 (IntKind.wrap IntKind.u16 (Int.tdiv v 3)) = u16 (v / 3), (4 : Int) ≠ (0 : Int), u16 (Int.tmod (v / 3) 4) = u16 (v / 3 % 4)]) [(1, ⟨some (u16 (v / 3)), none⟩), (2, ⟨some (u16 (v / 3 % 4)), none⟩)] [1, 2, 8] [1000000000, 1000000001, 1000000002] (by kernel_rfl) ⟨(by omega), (wtd (by omega) (wr_u16 (by omega) (by omega))), (by omega), (tm_ (by omega)), trivial⟩ ?_
  refine AWP.cond (b := v / 3 % 4 == w) (by kernel_rfl) (fun hq0 => ?_) (fun hq0 => ?_)
  · simp only [beq_iff_eq] at hq0
    (exfalso; omega)
  simp only [beq_eq_false_iff_ne] at hq0
  refine AWP.skip ?_
  refine ⟨Or.inl rfl, Eq.trans (b := some ([(1000000000, Blk.mk [V.ptr 1000000002 0] false 1 none), (1000000001, Blk.mk [u16 v] true 1 none), (1000000002, Blk.mk [a, b, c, nx] true 4 none)], V.tup [])) (by kernel_rfl) ?_⟩
  rfl
theorem con_hit_0n (w v : Int) (a b c x : List Int) (hv : 0 ≤ v ∧ v < 65536) (hw : v / 3 % 4 = w) (wfk : v % 3 = 0) (h8 : 8 ≤ a.length ∧ a.length ≤ 1000) (wl : a.set (0 + (v / 12 % 8).toNat * 1) (ixor .u8 (a.getD (0 + (v / 12 % 8).toNat * 1) 0) (ishl .u8 1 (v / 100 % 8))) = x) : Con Try.prog 58 [(1000000000, ⟨[.ptr 1000000002 0], false, 1, none⟩), (1000000001, ⟨[u16 v], true, 1, none⟩), (1000000002, ⟨[B8 a, B8 b, B8 c, nilS], true, 4, none⟩)] [u16 w, .ptr 1000000001 0, .ptr 1000000000 0] [(1000000000, ⟨[.ptr 1000000002 0], false, 1, none⟩), (1000000001, ⟨[u16 v], true, 1, none⟩), (1000000002, ⟨[B8 x, B8 b, B8 c, nilS], true, 4, none⟩)] (.tup []) := by
  have g := con_gflip0n a b c x (v / 12 % 8) (ishl .u8 1 (v / 100 % 8)) (by omega) (by omega) wl
  refine Con.of (C := ⟨Try.prog, tc, Try.f58.ntmps⟩) [1000000000, 1000000001, 1000000002] tcok Try.func58 rfl rfl (by kernel_rfl) (by kernel_rfl) ?_
  refine xe1 (os := [(3 : Int) ≠ (0 : Int), u16 (IntKind.wrap IntKind.u16 (Int.tdiv v 3)) = u16 (v / 3), (4 : Int) ≠ (0 : Int), u16 (Int.tmod (v / 3) 4) = u16 (v / 3 % 4)]) [(1, ⟨some (u16 (v / 3)), none⟩), (2, ⟨some (u16 (v / 3 % 4)), none⟩)] [1, 2, 8] [1000000000, 1000000001, 1000000002] (by kernel_rfl) ⟨(by omega), (wtd (by omega) (wr_u16 (by omega) (by omega))), (by omega), (tm_ (by omega)), trivial⟩ ?_
  refine AWP.cond (b := v / 3 % 4 == w) (by kernel_rfl) (fun hq1 => ?_) (fun hq1 => ?_)
  · simp only [beq_iff_eq] at hq1
    refine AWP.region tcok hmix [(2, ⟨some (u16 (v % 3)), none⟩), (3, ⟨some (i64 0), none⟩), (5, ⟨some (u16 (v / 12)), none⟩), (6, ⟨some (i64 (v / 12)), none⟩), (7, ⟨some (i64 (v / 12 % 8)), none⟩), (9, ⟨some (u16 (v / 100)), none⟩), (10, ⟨some (u16 (v / 100 % 8)), none⟩), (11, ⟨some (u8 (ishl IntKind.u8 1 (v / 100 % 8))), none⟩), (12, ⟨some (V.tup [V.sl 1000000000 1000000002 0]), some ⟨i64 0, [(1000000000, Blk.mk [B8 x, B8 b, B8 c, nilS] true 4 none)], []⟩⟩)] (os := [(3 : Int) ≠ (0 : Int), u16 (Int.tmod v 3) = u16 (v % 3), i64 (IntKind.wrap IntKind.i64 (v % 3)) = i64 0, (12 : Int) ≠ (0 : Int), u16 (IntKind.wrap IntKind.u16 (Int.tdiv v 12)) = u16 (v / 12), i64 (IntKind.wrap IntKind.i64 (v / 12)) = i64 (v / 12), (8 : Int) ≠ (0 : Int), i64 (Int.tmod (v / 12) 8) = i64 (v / 12 % 8), (100 : Int) ≠ (0 : Int), u16 (IntKind.wrap IntKind.u16 (Int.tdiv v 100)) = u16 (v / 100), (8 : Int) ≠ (0 : Int), u16 (Int.tmod (v / 100) 8) = u16 (v / 100 % 8), (0 : Int) ≤ v / (100 : Int) % (8 : Int), u8 (ishl IntKind.u8 1 (v / 100 % 8)) = u8 (ishl IntKind.u8 1 (v / 100 % 8)), Con Try.prog 51 [(1000000000, Blk.mk [B8 a, B8 b, B8 c, V.val (Value.slice none 0 0)] true 4 none)] [V.ptr 1000000000 0, i64 0, i64 (v / 12 % 8), u8 (ishl IntKind.u8 1 (v / 100 % 8))] [(1000000000, Blk.mk [B8 x, B8 b, B8 c, V.val (Value.slice none 0 0)] true 4 none)] (i64 0)]) (sf := St.mk [(1, tp (V.ptr 1000000001 0)), (2, tp (V.ptr 1000000000 0)), (8, tp (vb (v / 3 % 4 == w))), (9, tp (V.ptr 1000000002 0)), (10, tp (u16 v)), (11, tp (u16 (v % 3))), (12, tp (i64 0)), (13, tp (u16 v)), (14, tp (u16 (v / 12))), (15, tp (i64 (v / 12))), (16, tp (i64 (v / 12 % 8))), (17, tp (u16 v)), (18, tp (u16 (v / 100))), (19, tp (u16 (v / 100 % 8))), (20, tp (u8 (ishl IntKind.u8 1 (v / 100 % 8)))), (21, tp (i64 0))] [(1000000000, Blk.mk [V.ptr 1000000002 0] false 1 none), (1000000001, Blk.mk [u16 v] true 1 none), (1000000002, Blk.mk [B8 x, B8 b, B8 c, V.val (Value.slice none 0 0)] true 4 none)]) (by kernel_rfl) ⟨(by omega), (tm_ (by omega)), (wr_eq wfk rfl), (by omega), (wtd (by omega) (wr_u16 (by omega) (by omega))), (wr_i64 (by omega) (by omega)), (by omega), (tm_ (by omega)), (by omega), (wtd (by omega) (wr_u16 (by omega) (by omega))), (by omega), (tm_ (by omega)), (by omega), rfl, (g ), trivial⟩ ?_
    refine ⟨Or.inl rfl, Eq.trans (b := some ([(1000000000, Blk.mk [V.ptr 1000000002 0] false 1 none), (1000000001, Blk.mk [u16 v] true 1 none), (1000000002, Blk.mk [B8 x, B8 b, B8 c, V.val (Value.slice none 0 0)] true 4 none)], V.tup [])) (by kernel_rfl) ?_⟩
    rfl
  simp only [beq_eq_false_iff_ne] at hq1
  (exfalso; omega)
theorem con_hit_0p (w v : Int) (a b c x nx : List Int) (hv : 0 ≤ v ∧ v < 65536) (hw : v / 3 % 4 = w) (wfk : v % 3 = 0) (h8 : 8 ≤ a.length ∧ a.length ≤ 1000) (wl : a.set (0 + (v / 12 % 8).toNat * 1) (ixor .u8 (a.getD (0 + (v / 12 % 8).toNat * 1) 0) (ishl .u8 1 (v / 100 % 8))) = x) : Con Try.prog 58 [(1000000000, ⟨[.ptr 1000000002 0], false, 1, none⟩), (1000000001, ⟨[u16 v], true, 1, none⟩), (1000000002, ⟨[B8 a, B8 b, B8 c, B8 nx], true, 4, none⟩)] [u16 w, .ptr 1000000001 0, .ptr 1000000000 0] [(1000000000, ⟨[.ptr 1000000002 0], false, 1, none⟩), (1000000001, ⟨[u16 v], true, 1, none⟩), (1000000002, ⟨[B8 x, B8 b, B8 c, B8 nx], true, 4, none⟩)] (.tup []) := by
  have g := con_gflip0p a b c x nx (v / 12 % 8) (ishl .u8 1 (v / 100 % 8)) (by omega) (by omega) wl
  refine Con.of (C := ⟨Try.prog, tc, Try.f58.ntmps⟩) [1000000000, 1000000001, 1000000002] tcok Try.func58 rfl rfl (by kernel_rfl) (by kernel_rfl) ?_
  refine xe1 (os := [(3 : Int) ≠ (0 : Int), u16 (IntKind.wrap IntKind.u16 (Int.tdiv v 3)) = u16 (v / 3), (4 : Int) ≠ (0 : Int), u16 (Int.tmod (v / 3) 4) = u16 (v / 3 % 4)]) [(1, ⟨some (u16 (v / 3)), none⟩), (2, ⟨some (u16 (v / 3 % 4)), none⟩)] [1, 2, 8] [1000000000, 1000000001, 1000000002] (by kernel_rfl) ⟨(by omega), (wtd (by omega) (wr_u16 (by omega) (by omega))), (by omega), (tm_ (by omega)), trivial⟩ ?_
  refine AWP.cond (b := v / 3 % 4 == w) (by kernel_rfl) (fun hq2 => ?_) (fun hq2 => ?_)
  · simp only [beq_iff_eq] at hq2
    refine AWP.region tcok hmix [(2, ⟨some (u16 (v % 3)), none⟩), (3, ⟨some (i64 0), none⟩), (5, ⟨some (u16 (v / 12)), none⟩), (6, ⟨some (i64 (v / 12)), none⟩), (7, ⟨some (i64 (v / 12 % 8)), none⟩), (9, ⟨some (u16 (v / 100)), none⟩), (10, ⟨some (u16 (v / 100 % 8)), none⟩), (11, ⟨some (u8 (ishl IntKind.u8 1 (v / 100 % 8))), none⟩), (12, ⟨some (V.tup [V.sl 1000000000 1000000002 0]), some ⟨i64 0, [(1000000000, Blk.mk [B8 x, B8 b, B8 c, B8 nx] true 4 none)], []⟩⟩)] (os := [(3 : Int) ≠ (0 : Int), u16 (Int.tmod v 3) = u16 (v % 3), i64 (IntKind.wrap IntKind.i64 (v % 3)) = i64 0, (12 : Int) ≠ (0 : Int), u16 (IntKind.wrap IntKind.u16 (Int.tdiv v 12)) = u16 (v / 12), i64 (IntKind.wrap IntKind.i64 (v / 12)) = i64 (v / 12), (8 : Int) ≠ (0 : Int), i64 (Int.tmod (v / 12) 8) = i64 (v / 12 % 8), (100 : Int) ≠ (0 : Int), u16 (IntKind.wrap IntKind.u16 (Int.tdiv v 100)) = u16 (v / 100), (8 : Int) ≠ (0 : Int), u16 (Int.tmod (v / 100) 8) = u16 (v / 100 % 8), (0 : Int) ≤ v / (100 : Int) % (8 : Int), u8 (ishl IntKind.u8 1 (v / 100 % 8)) = u8 (ishl IntKind.u8 1 (v / 100 % 8)), Con Try.prog 51 [(1000000000, Blk.mk [B8 a, B8 b, B8 c, B8 nx] true 4 none)] [V.ptr 1000000000 0, i64 0, i64 (v / 12 % 8), u8 (ishl IntKind.u8 1 (v / 100 % 8))] [(1000000000, Blk.mk [B8 x, B8 b, B8 c, B8 nx] true 4 none)] (i64 0)]) (sf := St.mk [(1, tp (V.ptr 1000000001 0)), (2, tp (V.ptr 1000000000 0)), (8, tp (vb (v / 3 % 4 == w))), (9, tp (V.ptr 1000000002 0)), (10, tp (u16 v)), (11, tp (u16 (v % 3))), (12, tp (i64 0)), (13, tp (u16 v)), (14, tp (u16 (v / 12))), (15, tp (i64 (v / 12))), (16, tp (i64 (v / 12 % 8))), (17, tp (u16 v)), (18, tp (u16 (v / 100))), (19, tp (u16 (v / 100 % 8))), (20, tp (u8 (ishl IntKind.u8 1 (v / 100 % 8)))), (21, tp (i64 0))] [(1000000000, Blk.mk [V.ptr 1000000002 0] false 1 none), (1000000001, Blk.mk [u16 v] true 1 none), (1000000002, Blk.mk [B8 x, B8 b, B8 c, B8 nx] true 4 none)]) (by kernel_rfl) ⟨(by omega), (tm_ (by omega)), (wr_eq wfk rfl), (by omega), (wtd (by omega) (wr_u16 (by omega) (by omega))), (wr_i64 (by omega) (by omega)), (by omega), (tm_ (by omega)), (by omega), (wtd (by omega) (wr_u16 (by omega) (by omega))), (by omega), (tm_ (by omega)), (by omega), rfl, (g ), trivial⟩ ?_
    refine ⟨Or.inl rfl, Eq.trans (b := some ([(1000000000, Blk.mk [V.ptr 1000000002 0] false 1 none), (1000000001, Blk.mk [u16 v] true 1 none), (1000000002, Blk.mk [B8 x, B8 b, B8 c, B8 nx] true 4 none)], V.tup [])) (by kernel_rfl) ?_⟩
    rfl
  simp only [beq_eq_false_iff_ne] at hq2
  (exfalso; omega)
theorem con_hit_1n (w v : Int) (a b c x : List Int) (hv : 0 ≤ v ∧ v < 65536) (hw : v / 3 % 4 = w) (wfk : v % 3 = 1) (h8 : 8 ≤ b.length ∧ b.length ≤ 1000) (wl : b.set (0 + (v / 12 % 8).toNat * 1) (ixor .u8 (b.getD (0 + (v / 12 % 8).toNat * 1) 0) (ishl .u8 1 (v / 100 % 8))) = x) : Con Try.prog 58 [(1000000000, ⟨[.ptr 1000000002 0], false, 1, none⟩), (1000000001, ⟨[u16 v], true, 1, none⟩), (1000000002, ⟨[B8 a, B8 b, B8 c, nilS], true, 4, none⟩)] [u16 w, .ptr 1000000001 0, .ptr 1000000000 0] [(1000000000, ⟨[.ptr 1000000002 0], false, 1, none⟩), (1000000001, ⟨[u16 v], true, 1, none⟩), (1000000002, ⟨[B8 a, B8 x, B8 c, nilS], true, 4, none⟩)] (.tup []) := by
  have g := con_gflip1n a b c x (v / 12 % 8) (ishl .u8 1 (v / 100 % 8)) (by omega) (by omega) wl
  refine Con.of (C := ⟨Try.prog, tc, Try.f58.ntmps⟩) [1000000000, 1000000001, 1000000002] tcok Try.func58 rfl rfl (by kernel_rfl) (by kernel_rfl) ?_
  refine xe1 (os := [(3 : Int) ≠ (0 : Int), u16 (IntKind.wrap IntKind.u16 (Int.tdiv v 3)) = u16 (v / 3), (4 : Int) ≠ (0 : Int), u16 (Int.tmod (v / 3) 4) = u16 (v / 3 % 4)]) [(1, ⟨some (u16 (v / 3)), none⟩), (2, ⟨some (u16 (v / 3 % 4)), none⟩)] [1, 2, 8] [1000000000, 1000000001, 1000000002] (by kernel_rfl) ⟨(by omega), (wtd (by omega) (wr_u16 (by omega) (by omega))), (by omega), (tm_ (by omega)), trivial⟩ ?_
  refine AWP.cond (b := v / 3 % 4 == w) (by kernel_rfl) (fun hq3 => ?_) (fun hq3 => ?_)
  · simp only [beq_iff_eq] at hq3
    refine AWP.region tcok hmix [(2, ⟨some (u16 (v % 3)), none⟩), (3, ⟨some (i64 1), none⟩), (5, ⟨some (u16 (v / 12)), none⟩), (6, ⟨some (i64 (v / 12)), none⟩), (7, ⟨some (i64 (v / 12 % 8)), none⟩), (9, ⟨some (u16 (v / 100)), none⟩), (10, ⟨some (u16 (v / 100 % 8)), none⟩), (11, ⟨some (u8 (ishl IntKind.u8 1 (v / 100 % 8))), none⟩), (12, ⟨some (V.tup [V.sl 1000000000 1000000002 0]), some ⟨i64 0, [(1000000000, Blk.mk [B8 a, B8 x, B8 c, nilS] true 4 none)], []⟩⟩)] (os := [(3 : Int) ≠ (0 : Int), u16 (Int.tmod v 3) = u16 (v % 3), i64 (IntKind.wrap IntKind.i64 (v % 3)) = i64 1, (12 : Int) ≠ (0 : Int), u16 (IntKind.wrap IntKind.u16 (Int.tdiv v 12)) = u16 (v / 12), i64 (IntKind.wrap IntKind.i64 (v / 12)) = i64 (v / 12), (8 : Int) ≠ (0 : Int), i64 (Int.tmod (v / 12) 8) = i64 (v / 12 % 8), (100 : Int) ≠ (0 : Int), u16 (IntKind.wrap IntKind.u16 (Int.tdiv v 100)) = u16 (v / 100), (8 : Int) ≠ (0 : Int), u16 (Int.tmod (v / 100) 8) = u16 (v / 100 % 8), (0 : Int) ≤ v / (100 : Int) % (8 : Int), u8 (ishl IntKind.u8 1 (v / 100 % 8)) = u8 (ishl IntKind.u8 1 (v / 100 % 8)), Con Try.prog 51 [(1000000000, Blk.mk [B8 a, B8 b, B8 c, V.val (Value.slice none 0 0)] true 4 none)] [V.ptr 1000000000 0, i64 1, i64 (v / 12 % 8), u8 (ishl IntKind.u8 1 (v / 100 % 8))] [(1000000000, Blk.mk [B8 a, B8 x, B8 c, V.val (Value.slice none 0 0)] true 4 none)] (i64 0)]) (sf := St.mk [(1, tp (V.ptr 1000000001 0)), (2, tp (V.ptr 1000000000 0)), (8, tp (vb (v / 3 % 4 == w))), (9, tp (V.ptr 1000000002 0)), (10, tp (u16 v)), (11, tp (u16 (v % 3))), (12, tp (i64 1)), (13, tp (u16 v)), (14, tp (u16 (v / 12))), (15, tp (i64 (v / 12))), (16, tp (i64 (v / 12 % 8))), (17, tp (u16 v)), (18, tp (u16 (v / 100))), (19, tp (u16 (v / 100 % 8))), (20, tp (u8 (ishl IntKind.u8 1 (v / 100 % 8)))), (21, tp (i64 0))] [(1000000000, Blk.mk [V.ptr 1000000002 0] false 1 none), (1000000001, Blk.mk [u16 v] true 1 none), (1000000002, Blk.mk [B8 a, B8 x, B8 c, V.val (Value.slice none 0 0)] true 4 none)]) (by kernel_rfl) ⟨(by omega), (tm_ (by omega)), (wr_eq wfk rfl), (by omega), (wtd (by omega) (wr_u16 (by omega) (by omega))), (wr_i64 (by omega) (by omega)), (by omega), (tm_ (by omega)), (by omega), (wtd (by omega) (wr_u16 (by omega) (by omega))), (by omega), (tm_ (by omega)), (by omega), rfl, (g ), trivial⟩ ?_
    refine ⟨Or.inl rfl, Eq.trans (b := some ([(1000000000, Blk.mk [V.ptr 1000000002 0] false 1 none), (1000000001, Blk.mk [u16 v] true 1 none), (1000000002, Blk.mk [B8 a, B8 x, B8 c, V.val (Value.slice none 0 0)] true 4 none)], V.tup [])) (by kernel_rfl) ?_⟩
    rfl
  simp only [beq_eq_false_iff_ne] at hq3
  (exfalso; omega)
theorem con_hit_1p (w v : Int) (a b c x nx : List Int) (hv : 0 ≤ v ∧ v < 65536) (hw : v / 3 % 4 = w) (wfk : v % 3 = 1) (h8 : 8 ≤ b.length ∧ b.length ≤ 1000) (wl : b.set (0 + (v / 12 % 8).toNat * 1) (ixor .u8 (b.getD (0 + (v / 12 % 8).toNat * 1) 0) (ishl .u8 1 (v / 100 % 8))) = x) : Con Try.prog 58 [(1000000000, ⟨[.ptr 1000000002 0], false, 1, none⟩), (1000000001, ⟨[u16 v], true, 1, none⟩), (1000000002, ⟨[B8 a, B8 b, B8 c, B8 nx], true, 4, none⟩)] [u16 w, .ptr 1000000001 0, .ptr 1000000000 0] [(1000000000, ⟨[.ptr 1000000002 0], false, 1, none⟩), (1000000001, ⟨[u16 v], true, 1, none⟩), (1000000002, ⟨[B8 a, B8 x, B8 c, B8 nx], true, 4, none⟩)] (.tup []) := by
  have g := con_gflip1p a b c x nx (v / 12 % 8) (ishl .u8 1 (v / 100 % 8)) (by omega) (by omega) wl
  refine Con.of (C := ⟨Try.prog, tc, Try.f58.ntmps⟩) [1000000000, 1000000001, 1000000002] tcok Try.func58 rfl rfl (by kernel_rfl) (by kernel_rfl) ?_
  refine xe1 (os := [(3 : Int) ≠ (0 : Int), u16 (IntKind.wrap IntKind.u16 (Int.tdiv v 3)) = u16 (v / 3), (4 : Int) ≠ (0 : Int), u16 (Int.tmod (v / 3) 4) = u16 (v / 3 % 4)]) [(1, ⟨some (u16 (v / 3)), none⟩), (2, ⟨some (u16 (v / 3 % 4)), none⟩)] [1, 2, 8] [1000000000, 1000000001, 1000000002] (by kernel_rfl) ⟨(by omega), (wtd (by omega) (wr_u16 (by omega) (by omega))), (by omega), (tm_ (by omega)), trivial⟩ ?_
  refine AWP.cond (b := v / 3 % 4 == w) (by kernel_rfl) (fun hq4 => ?_) (fun hq4 => ?_)
  · simp only [beq_iff_eq] at hq4
    refine AWP.region tcok hmix [(2, ⟨some (u16 (v % 3)), none⟩), (3, ⟨some (i64 1), none⟩), (5, ⟨some (u16 (v / 12)), none⟩), (6, ⟨some (i64 (v / 12)), none⟩), (7, ⟨some (i64 (v / 12 % 8)), none⟩), (9, ⟨some (u16 (v / 100)), none⟩), (10, ⟨some (u16 (v / 100 % 8)), none⟩), (11, ⟨some (u8 (ishl IntKind.u8 1 (v / 100 % 8))), none⟩), (12, ⟨some (V.tup [V.sl 1000000000 1000000002 0]), some ⟨i64 0, [(1000000000, Blk.mk [B8 a, B8 x, B8 c, B8 nx] true 4 none)], []⟩⟩)] (os := [(3 : Int) ≠ (0 : Int), u16 (Int.tmod v 3) = u16 (v % 3), i64 (IntKind.wrap IntKind.i64 (v % 3)) = i64 1, (12 : Int) ≠ (0 : Int), u16 (IntKind.wrap IntKind.u16 (Int.tdiv v 12)) = u16 (v / 12), i64 (IntKind.wrap IntKind.i64 (v / 12)) = i64 (v / 12), (8 : Int) ≠ (0 : Int), i64 (Int.tmod (v / 12) 8) = i64 (v / 12 % 8), (100 : Int) ≠ (0 : Int), u16 (IntKind.wrap IntKind.u16 (Int.tdiv v 100)) = u16 (v / 100), (8 : Int) ≠ (0 : Int), u16 (Int.tmod (v / 100) 8) = u16 (v / 100 % 8), (0 : Int) ≤ v / (100 : Int) % (8 : Int), u8 (ishl IntKind.u8 1 (v / 100 % 8)) = u8 (ishl IntKind.u8 1 (v / 100 % 8)), Con Try.prog 51 [(1000000000, Blk.mk [B8 a, B8 b, B8 c, B8 nx] true 4 none)] [V.ptr 1000000000 0, i64 1, i64 (v / 12 % 8), u8 (ishl IntKind.u8 1 (v / 100 % 8))] [(1000000000, Blk.mk [B8 a, B8 x, B8 c, B8 nx] true 4 none)] (i64 0)]) (sf := St.mk [(1, tp (V.ptr 1000000001 0)), (2, tp (V.ptr 1000000000 0)), (8, tp (vb (v / 3 % 4 == w))), (9, tp (V.ptr 1000000002 0)), (10, tp (u16 v)), (11, tp (u16 (v % 3))), (12, tp (i64 1)), (13, tp (u16 v)), (14, tp (u16 (v / 12))), (15, tp (i64 (v / 12))), (16, tp (i64 (v / 12 % 8))), (17, tp (u16 v)), (18, tp (u16 (v / 100))), (19, tp (u16 (v / 100 % 8))), (20, tp (u8 (ishl IntKind.u8 1 (v / 100 % 8)))), (21, tp (i64 0))] [(1000000000, Blk.mk [V.ptr 1000000002 0] false 1 none), (1000000001, Blk.mk [u16 v] true 1 none), (1000000002, Blk.mk [B8 a, B8 x, B8 c, B8 nx] true 4 none)]) (by kernel_rfl) ⟨(by omega), (tm_ (by omega)), (wr_eq wfk rfl), (by omega), (wtd (by omega) (wr_u16 (by omega) (by omega))), (wr_i64 (by omega) (by omega)), (by omega), (tm_ (by omega)), (by omega), (wtd (by omega) (wr_u16 (by omega) (by omega))), (by omega), (tm_ (by omega)), (by omega), rfl, (g ), trivial⟩ ?_
    refine ⟨Or.inl rfl, Eq.trans (b := some ([(1000000000, Blk.mk [V.ptr 1000000002 0] false 1 none), (1000000001, Blk.mk [u16 v] true 1 none), (1000000002, Blk.mk [B8 a, B8 x, B8 c, B8 nx] true 4 none)], V.tup [])) (by kernel_rfl) ?_⟩
    rfl
  simp only [beq_eq_false_iff_ne] at hq4
  (exfalso; omega)
theorem con_hit_2n (w v : Int) (a b c x : List Int) (hv : 0 ≤ v ∧ v < 65536) (hw : v / 3 % 4 = w) (wfk : v % 3 = 2) (h8 : 8 ≤ c.length ∧ c.length ≤ 1000) (wl : c.set (0 + (v / 12 % 8).toNat * 1) (ixor .u8 (c.getD (0 + (v / 12 % 8).toNat * 1) 0) (ishl .u8 1 (v / 100 % 8))) = x) : Con Try.prog 58 [(1000000000, ⟨[.ptr 1000000002 0], false, 1, none⟩), (1000000001, ⟨[u16 v], true, 1, none⟩), (1000000002, ⟨[B8 a, B8 b, B8 c, nilS], true, 4, none⟩)] [u16 w, .ptr 1000000001 0, .ptr 1000000000 0] [(1000000000, ⟨[.ptr 1000000002 0], false, 1, none⟩), (1000000001, ⟨[u16 v], true, 1, none⟩), (1000000002, ⟨[B8 a, B8 b, B8 x, nilS], true, 4, none⟩)] (.tup []) := by
  have g := con_gflip2n a b c x (v / 12 % 8) (ishl .u8 1 (v / 100 % 8)) (by omega) (by omega) wl
  refine Con.of (C := ⟨Try.prog, tc, Try.f58.ntmps⟩) [1000000000, 1000000001, 1000000002] tcok Try.func58 rfl rfl (by kernel_rfl) (by kernel_rfl) ?_
  refine xe1 (os := [(3 : Int) ≠ (0 : Int), u16 (IntKind.wrap IntKind.u16 (Int.tdiv v 3)) = u16 (v / 3), (4 : Int) ≠ (0 : Int), u16 (Int.tmod (v / 3) 4) = u16 (v / 3 % 4)]) [(1, ⟨some (u16 (v / 3)), none⟩), (2, ⟨some (u16 (v / 3 % 4)), none⟩)] [1, 2, 8] [1000000000, 1000000001, 1000000002] (by kernel_rfl) ⟨(by omega), (wtd (by omega) (wr_u16 (by omega) (by omega))), (by omega), (tm_ (by omega)), trivial⟩ ?_
  refine AWP.cond (b := v / 3 % 4 == w) (by kernel_rfl) (fun hq5 => ?_) (fun hq5 => ?_)
  · simp only [beq_iff_eq] at hq5
    refine AWP.region tcok hmix [(2, ⟨some (u16 (v % 3)), none⟩), (3, ⟨some (i64 2), none⟩), (5, ⟨some (u16 (v / 12)), none⟩), (6, ⟨some (i64 (v / 12)), none⟩), (7, ⟨some (i64 (v / 12 % 8)), none⟩), (9, ⟨some (u16 (v / 100)), none⟩), (10, ⟨some (u16 (v / 100 % 8)), none⟩), (11, ⟨some (u8 (ishl IntKind.u8 1 (v / 100 % 8))), none⟩), (12, ⟨some (V.tup [V.sl 1000000000 1000000002 0]), some ⟨i64 0, [(1000000000, Blk.mk [B8 a, B8 b, B8 x, nilS] true 4 none)], []⟩⟩)] (os := [(3 : Int) ≠ (0 : Int), u16 (Int.tmod v 3) = u16 (v % 3), i64 (IntKind.wrap IntKind.i64 (v % 3)) = i64 2, (12 : Int) ≠ (0 : Int), u16 (IntKind.wrap IntKind.u16 (Int.tdiv v 12)) = u16 (v / 12), i64 (IntKind.wrap IntKind.i64 (v / 12)) = i64 (v / 12), (8 : Int) ≠ (0 : Int), i64 (Int.tmod (v / 12) 8) = i64 (v / 12 % 8), (100 : Int) ≠ (0 : Int), u16 (IntKind.wrap IntKind.u16 (Int.tdiv v 100)) = u16 (v / 100), (8 : Int) ≠ (0 : Int), u16 (Int.tmod (v / 100) 8) = u16 (v / 100 % 8), (0 : Int) ≤ v / (100 : Int) % (8 : Int), u8 (ishl IntKind.u8 1 (v / 100 % 8)) = u8 (ishl IntKind.u8 1 (v / 100 % 8)), Con Try.prog 51 [(1000000000, Blk.mk [B8 a, B8 b, B8 c, V.val (Value.slice none 0 0)] true 4 none)] [V.ptr 1000000000 0, i64 2, i64 (v / 12 % 8), u8 (ishl IntKind.u8 1 (v / 100 % 8))] [(1000000000, Blk.mk [B8 a, B8 b, B8 x, V.val (Value.slice none 0 0)] true 4 none)] (i64 0)]) (sf := St.mk [(1, tp (V.ptr 1000000001 0)), (2, tp (V.ptr 1000000000 0)), (8, tp (vb (v / 3 % 4 == w))), (9, tp (V.ptr 1000000002 0)), (10, tp (u16 v)), (11, tp (u16 (v % 3))), (12, tp (i64 2)), (13, tp (u16 v)), (14, tp (u16 (v / 12))), (15, tp (i64 (v / 12))), (16, tp (i64 (v / 12 % 8))), (17, tp (u16 v)), (18, tp (u16 (v / 100))), (19, tp (u16 (v / 100 % 8))), (20, tp (u8 (ishl IntKind.u8 1 (v / 100 % 8)))), (21, tp (i64 0))] [(1000000000, Blk.mk [V.ptr 1000000002 0] false 1 none), (1000000001, Blk.mk [u16 v] true 1 none), (1000000002, Blk.mk [B8 a, B8 b, B8 x, V.val (Value.slice none 0 0)] true 4 none)]) (by kernel_rfl) ⟨(by omega), (tm_ (by omega)), (wr_eq wfk rfl), (by omega), (wtd (by omega) (wr_u16 (by omega) (by omega))), (wr_i64 (by omega) (by omega)), (by omega), (tm_ (by omega)), (by omega), (wtd (by omega) (wr_u16 (by omega) (by omega))), (by omega), (tm_ (by omega)), (by omega), rfl, (g ), trivial⟩ ?_
    refine ⟨Or.inl rfl, Eq.trans (b := some ([(1000000000, Blk.mk [V.ptr 1000000002 0] false 1 none), (1000000001, Blk.mk [u16 v] true 1 none), (1000000002, Blk.mk [B8 a, B8 b, B8 x, V.val (Value.slice none 0 0)] true 4 none)], V.tup [])) (by kernel_rfl) ?_⟩
    rfl
  simp only [beq_eq_false_iff_ne] at hq5
  (exfalso; omega)
theorem con_hit_2p (w v : Int) (a b c x nx : List Int) (hv : 0 ≤ v ∧ v < 65536) (hw : v / 3 % 4 = w) (wfk : v % 3 = 2) (h8 : 8 ≤ c.length ∧ c.length ≤ 1000) (wl : c.set (0 + (v / 12 % 8).toNat * 1) (ixor .u8 (c.getD (0 + (v / 12 % 8).toNat * 1) 0) (ishl .u8 1 (v / 100 % 8))) = x) : Con Try.prog 58 [(1000000000, ⟨[.ptr 1000000002 0], false, 1, none⟩), (1000000001, ⟨[u16 v], true, 1, none⟩), (1000000002, ⟨[B8 a, B8 b, B8 c, B8 nx], true, 4, none⟩)] [u16 w, .ptr 1000000001 0, .ptr 1000000000 0] [(1000000000, ⟨[.ptr 1000000002 0], false, 1, none⟩), (1000000001, ⟨[u16 v], true, 1, none⟩), (1000000002, ⟨[B8 a, B8 b, B8 x, B8 nx], true, 4, none⟩)] (.tup []) := by
  have g := con_gflip2p a b c x nx (v / 12 % 8) (ishl .u8 1 (v / 100 % 8)) (by omega) (by omega) wl
  refine Con.of (C := ⟨Try.prog, tc, Try.f58.ntmps⟩) [1000000000, 1000000001, 1000000002] tcok Try.func58 rfl rfl (by kernel_rfl) (by kernel_rfl) ?_
  refine xe1 (os := [(3 : Int) ≠ (0 : Int), u16 (IntKind.wrap IntKind.u16 (Int.tdiv v 3)) = u16 (v / 3), (4 : Int) ≠ (0 : Int), u16 (Int.tmod (v / 3) 4) = u16 (v / 3 % 4)]) [(1, ⟨some (u16 (v / 3)), none⟩), (2, ⟨some (u16 (v / 3 % 4)), none⟩)] [1, 2, 8] [1000000000, 1000000001, 1000000002] (by kernel_rfl) ⟨(by omega), (wtd (by omega) (wr_u16 (by omega) (by omega))), (by omega), (tm_ (by omega)), trivial⟩ ?_
  refine AWP.cond (b := v / 3 % 4 == w) (by kernel_rfl) (fun hq6 => ?_) (fun hq6 => ?_)
  · simp only [beq_iff_eq] at hq6
    refine AWP.region tcok hmix [(2, ⟨some (u16 (v % 3)), none⟩), (3, ⟨some (i64 2), none⟩), (5, ⟨some (u16 (v / 12)), none⟩), (6, ⟨some (i64 (v / 12)), none⟩), (7, ⟨some (i64 (v / 12 % 8)), none⟩), (9, ⟨some (u16 (v / 100)), none⟩), (10, ⟨some (u16 (v / 100 % 8)), none⟩), (11, ⟨some (u8 (ishl IntKind.u8 1 (v / 100 % 8))), none⟩), (12, ⟨some (V.tup [V.sl 1000000000 1000000002 0]), some ⟨i64 0, [(1000000000, Blk.mk [B8 a, B8 b, B8 x, B8 nx] true 4 none)], []⟩⟩)] (os := [(3 : Int) ≠ (0 : Int), u16 (Int.tmod v 3) = u16 (v % 3), i64 (IntKind.wrap IntKind.i64 (v % 3)) = i64 2, (12 : Int) ≠ (0 : Int), u16 (IntKind.wrap IntKind.u16 (Int.tdiv v 12)) = u16 (v / 12), i64 (IntKind.wrap IntKind.i64 (v / 12)) = i64 (v / 12), (8 : Int) ≠ (0 : Int), i64 (Int.tmod (v / 12) 8) = i64 (v / 12 % 8), (100 : Int) ≠ (0 : Int), u16 (IntKind.wrap IntKind.u16 (Int.tdiv v 100)) = u16 (v / 100), (8 : Int) ≠ (0 : Int), u16 (Int.tmod (v / 100) 8) = u16 (v / 100 % 8), (0 : Int) ≤ v / (100 : Int) % (8 : Int), u8 (ishl IntKind.u8 1 (v / 100 % 8)) = u8 (ishl IntKind.u8 1 (v / 100 % 8)), Con Try.prog 51 [(1000000000, Blk.mk [B8 a, B8 b, B8 c, B8 nx] true 4 none)] [V.ptr 1000000000 0, i64 2, i64 (v / 12 % 8), u8 (ishl IntKind.u8 1 (v / 100 % 8))] [(1000000000, Blk.mk [B8 a, B8 b, B8 x, B8 nx] true 4 none)] (i64 0)]) (sf := St.mk [(1, tp (V.ptr 1000000001 0)), (2, tp (V.ptr 1000000000 0)), (8, tp (vb (v / 3 % 4 == w))), (9, tp (V.ptr 1000000002 0)), (10, tp (u16 v)), (11, tp (u16 (v % 3))), (12, tp (i64 2)), (13, tp (u16 v)), (14, tp (u16 (v / 12))), (15, tp (i64 (v / 12))), (16, tp (i64 (v / 12 % 8))), (17, tp (u16 v)), (18, tp (u16 (v / 100))), (19, tp (u16 (v / 100 % 8))), (20, tp (u8 (ishl IntKind.u8 1 (v / 100 % 8)))), (21, tp (i64 0))] [(1000000000, Blk.mk [V.ptr 1000000002 0] false 1 none), (1000000001, Blk.mk [u16 v] true 1 none), (1000000002, Blk.mk [B8 a, B8 b, B8 x, B8 nx] true 4 none)]) (by kernel_rfl) ⟨(by omega), (tm_ (by omega)), (wr_eq wfk rfl), (by omega), (wtd (by omega) (wr_u16 (by omega) (by omega))), (wr_i64 (by omega) (by omega)), (by omega), (tm_ (by omega)), (by omega), (wtd (by omega) (wr_u16 (by omega) (by omega))), (by omega), (tm_ (by omega)), (by omega), rfl, (g ), trivial⟩ ?_
    refine ⟨Or.inl rfl, Eq.trans (b := some ([(1000000000, Blk.mk [V.ptr 1000000002 0] false 1 none), (1000000001, Blk.mk [u16 v] true 1 none), (1000000002, Blk.mk [B8 a, B8 b, B8 x, B8 nx] true 4 none)], V.tup [])) (by kernel_rfl) ?_⟩
    rfl
  simp only [beq_eq_false_iff_ne] at hq6
  (exfalso; omega)
theorem spoil {A : List Int} {v : Int} (hA : cE A = 0) (hB : BL A) (hv : 0 ≤ v) (h8 : 8 ≤ A.length) : ∃ X, A.set (0 + (v / 12 % 8).toNat * 1) (ixor .u8 (A.getD (0 + (v / 12 % 8).toNat * 1) 0) (ishl .u8 1 (v / 100 % 8))) = X ∧ cE X ≠ 0 ∧ BL X ∧ X.length = A.length ∧ cNo X = 0 := by
  have hx : cE (A.set (0 + (v / 12 % 8).toNat * 1) (ixor .u8 (A.getD (0 + (v / 12 % 8).toNat * 1) 0) (ishl .u8 1 (v / 100 % 8)))) ≠ 0 := spoilt hA hB (by omega) (ixor_u8_bd _ _) (xor_ne (hB.at_ _) (bit_bd (by omega)))
  refine ⟨_, rfl, hx, BL.set hB (ixor_u8_bd _ _), by rw [List.length_set], ?_⟩
  unfold cNo
  rw [if_neg (fun h => hx (cE_ok.2 h))]
/-- The byte that is spoilt. -/
def sp (v : Int) (a : List Int) : List Int := a.set (0 + (v / 12 % 8).toNat * 1) (ixor .u8 (a.getD (0 + (v / 12 % 8).toNat * 1) 0) (ishl .u8 1 (v / 100 % 8)))
/-- What a hit leaves. -/
def hitT (v w : Int) (a b c : List Int) : List Int × List Int × List Int := if v / 3 % 4 = w then (if v % 3 = 0 then (sp v a, b, c) else if v % 3 = 1 then (a, sp v b, c) else (a, b, sp v c)) else (a, b, c)
def G (x : List Int) : Prop := BL x ∧ 8 ≤ x.length ∧ x.length ≤ 200
theorem sp_ok {A : List Int} {v : Int} (hA : cE A = 0) (hB : BL A) (hv : 0 ≤ v) (h8 : 8 ≤ A.length) : cE (sp v A) ≠ 0 ∧ BL (sp v A) ∧ (sp v A).length = A.length ∧ cNo (sp v A) = 0 := by
  obtain ⟨X, e, h1, h2, h3, h4⟩ := spoil (v := v) hA hB hv h8
  unfold sp
  rw [e]
  exact ⟨h1, h2, h3, h4⟩
theorem con_hitn (w v : Int) (a b c A B C : List Int) (hv : 0 ≤ v ∧ v < 65536) (ha : G a) (hb : G b) (hc : G c) (h : hitT v w a b c = (A, B, C)) : Con Try.prog 58 [(1000000000, ⟨[.ptr 1000000002 0], false, 1, none⟩), (1000000001, ⟨[u16 v], true, 1, none⟩), (1000000002, ⟨[B8 a, B8 b, B8 c, nilS], true, 4, none⟩)] [u16 w, .ptr 1000000001 0, .ptr 1000000000 0] [(1000000000, ⟨[.ptr 1000000002 0], false, 1, none⟩), (1000000001, ⟨[u16 v], true, 1, none⟩), (1000000002, ⟨[B8 A, B8 B, B8 C, nilS], true, 4, none⟩)] (.tup []) := by
  obtain ⟨_, ha1, ha2⟩ := ha
  obtain ⟨_, hb1, hb2⟩ := hb
  obtain ⟨_, hc1, hc2⟩ := hc
  unfold hitT at h
  split at h
  · rename_i hw
    split at h
    · rename_i hk
      simp only [Prod.mk.injEq] at h
      obtain ⟨rfl, rfl, rfl⟩ := h
      exact con_hit_0n w v a b c _ hv hw hk (by omega) rfl
    · split at h
      · rename_i hk
        simp only [Prod.mk.injEq] at h
        obtain ⟨rfl, rfl, rfl⟩ := h
        exact con_hit_1n w v a b c _ hv hw hk (by omega) rfl
      · simp only [Prod.mk.injEq] at h
        obtain ⟨rfl, rfl, rfl⟩ := h
        exact con_hit_2n w v a b c _ hv hw (by omega) (by omega) rfl
  · rename_i hw
    simp only [Prod.mk.injEq] at h
    obtain ⟨rfl, rfl, rfl⟩ := h
    exact con_hit_no w v (B8 a) (B8 b) (B8 c) nilS hv hw
theorem con_hitp (w v : Int) (a b c A B C nx : List Int) (hv : 0 ≤ v ∧ v < 65536) (ha : G a) (hb : G b) (hc : G c) (h : hitT v w a b c = (A, B, C)) : Con Try.prog 58 [(1000000000, ⟨[.ptr 1000000002 0], false, 1, none⟩), (1000000001, ⟨[u16 v], true, 1, none⟩), (1000000002, ⟨[B8 a, B8 b, B8 c, B8 nx], true, 4, none⟩)] [u16 w, .ptr 1000000001 0, .ptr 1000000000 0] [(1000000000, ⟨[.ptr 1000000002 0], false, 1, none⟩), (1000000001, ⟨[u16 v], true, 1, none⟩), (1000000002, ⟨[B8 A, B8 B, B8 C, B8 nx], true, 4, none⟩)] (.tup []) := by
  obtain ⟨_, ha1, ha2⟩ := ha
  obtain ⟨_, hb1, hb2⟩ := hb
  obtain ⟨_, hc1, hc2⟩ := hc
  unfold hitT at h
  split at h
  · rename_i hw
    split at h
    · rename_i hk
      simp only [Prod.mk.injEq] at h
      obtain ⟨rfl, rfl, rfl⟩ := h
      exact con_hit_0p w v a b c _ nx hv hw hk (by omega) rfl
    · split at h
      · rename_i hk
        simp only [Prod.mk.injEq] at h
        obtain ⟨rfl, rfl, rfl⟩ := h
        exact con_hit_1p w v a b c _ nx hv hw hk (by omega) rfl
      · simp only [Prod.mk.injEq] at h
        obtain ⟨rfl, rfl, rfl⟩ := h
        exact con_hit_2p w v a b c _ nx hv hw (by omega) (by omega) rfl
  · rename_i hw
    simp only [Prod.mk.injEq] at h
    obtain ⟨rfl, rfl, rfl⟩ := h
    exact con_hit_no w v (B8 a) (B8 b) (B8 c) (B8 nx) hv hw
theorem hold_a {D E : List Int} {v : Int} (hv : 0 ≤ v ∧ v < 65536) (gD : G D) (gE : G E) (dE : cE D = 0) (eE : cE E = 0) (hgt : cNo D < cNo E) : ∃ A1 B1 C1 A2 B2 C2, hitT v 1 D D D = (A1, B1, C1) ∧ G A1 ∧ G B1 ∧ G C1 ∧ top3 A1 B1 C1 = cNo D ∧ hitT v 2 E B1 C1 = (A2, B2, C2) ∧ G A2 ∧ G B2 ∧ G C2 ∧ (∃ A3 B3 C3 k, hitT v 3 A2 E E = (A3, B3, C3) ∧ G A3 ∧ G B3 ∧ G C3 ∧ vst [A3, B3, C3] = (k, E) ∧ 2 ≤ k) ∧ ∃ A3 B3 C3 k m, hitT v 3 A2 B2 C2 = (A3, B3, C3) ∧ G A3 ∧ G B3 ∧ G C3 ∧ vst [A3, B3, C3] = (k, m) ∧ 2 ≤ k ∧ (m = E ∨ m = D) := by
  have hlt : ¬ cNo E < cNo D := by omega
  have d0 := (cNo_bd gD.1).1
  obtain ⟨xD, bX, lX, nX⟩ := sp_ok (v := v) dE gD.1 hv.1 gD.2.1
  obtain ⟨xE, bY, lY, nY⟩ := sp_ok (v := v) eE gE.1 hv.1 gE.2.1
  have gX : G (sp v D) := ⟨bX, by rw [lX]; exact gD.2⟩
  have gY : G (sp v E) := ⟨bY, by rw [lY]; exact gE.2⟩
  rcases (by omega : v / 3 % 4 = 0 ∨ v / 3 % 4 = 1 ∨ v / 3 % 4 = 2 ∨ v / 3 % 4 = 3) with hw | hw | hw | hw <;> rcases (by omega : v % 3 = 0 ∨ v % 3 = 1 ∨ v % 3 = 2) with hk | hk | hk
  · exact ⟨D, D, D, E, D, D, by simp [hitT, hw, hk], gD, gD, gD, by (unfold top3 imax; (repeat' split) <;> omega), by simp [hitT, hw, hk], gE, gD, gD, ⟨E, E, E, 3, by simp [hitT, hw, hk], gE, gE, gE, by simp [vst, vnx, newer, dE, eE, xD, xE, hgt, hlt], by omega⟩, E, D, D, 3, E, by simp [hitT, hw, hk], gE, gD, gD, by simp [vst, vnx, newer, dE, eE, xD, xE, hgt, hlt], by omega, .inl rfl⟩
  · exact ⟨D, D, D, E, D, D, by simp [hitT, hw, hk], gD, gD, gD, by (unfold top3 imax; (repeat' split) <;> omega), by simp [hitT, hw, hk], gE, gD, gD, ⟨E, E, E, 3, by simp [hitT, hw, hk], gE, gE, gE, by simp [vst, vnx, newer, dE, eE, xD, xE, hgt, hlt], by omega⟩, E, D, D, 3, E, by simp [hitT, hw, hk], gE, gD, gD, by simp [vst, vnx, newer, dE, eE, xD, xE, hgt, hlt], by omega, .inl rfl⟩
  · exact ⟨D, D, D, E, D, D, by simp [hitT, hw, hk], gD, gD, gD, by (unfold top3 imax; (repeat' split) <;> omega), by simp [hitT, hw, hk], gE, gD, gD, ⟨E, E, E, 3, by simp [hitT, hw, hk], gE, gE, gE, by simp [vst, vnx, newer, dE, eE, xD, xE, hgt, hlt], by omega⟩, E, D, D, 3, E, by simp [hitT, hw, hk], gE, gD, gD, by simp [vst, vnx, newer, dE, eE, xD, xE, hgt, hlt], by omega, .inl rfl⟩
  · exact ⟨(sp v D), D, D, E, D, D, by simp [hitT, hw, hk], gX, gD, gD, by (unfold top3 imax; (repeat' split) <;> omega), by simp [hitT, hw, hk], gE, gD, gD, ⟨E, E, E, 3, by simp [hitT, hw, hk], gE, gE, gE, by simp [vst, vnx, newer, dE, eE, xD, xE, hgt, hlt], by omega⟩, E, D, D, 3, E, by simp [hitT, hw, hk], gE, gD, gD, by simp [vst, vnx, newer, dE, eE, xD, xE, hgt, hlt], by omega, .inl rfl⟩
  · exact ⟨D, (sp v D), D, E, (sp v D), D, by simp [hitT, hw, hk], gD, gX, gD, by (unfold top3 imax; (repeat' split) <;> omega), by simp [hitT, hw, hk], gE, gX, gD, ⟨E, E, E, 3, by simp [hitT, hw, hk], gE, gE, gE, by simp [vst, vnx, newer, dE, eE, xD, xE, hgt, hlt], by omega⟩, E, (sp v D), D, 2, E, by simp [hitT, hw, hk], gE, gX, gD, by simp [vst, vnx, newer, dE, eE, xD, xE, hgt, hlt], by omega, .inl rfl⟩
  · exact ⟨D, D, (sp v D), E, D, (sp v D), by simp [hitT, hw, hk], gD, gD, gX, by (unfold top3 imax; (repeat' split) <;> omega), by simp [hitT, hw, hk], gE, gD, gX, ⟨E, E, E, 3, by simp [hitT, hw, hk], gE, gE, gE, by simp [vst, vnx, newer, dE, eE, xD, xE, hgt, hlt], by omega⟩, E, D, (sp v D), 2, E, by simp [hitT, hw, hk], gE, gD, gX, by simp [vst, vnx, newer, dE, eE, xD, xE, hgt, hlt], by omega, .inl rfl⟩
  · exact ⟨D, D, D, (sp v E), D, D, by simp [hitT, hw, hk], gD, gD, gD, by (unfold top3 imax; (repeat' split) <;> omega), by simp [hitT, hw, hk], gY, gD, gD, ⟨(sp v E), E, E, 2, by simp [hitT, hw, hk], gY, gE, gE, by simp [vst, vnx, newer, dE, eE, xD, xE, hgt, hlt], by omega⟩, (sp v E), D, D, 2, D, by simp [hitT, hw, hk], gY, gD, gD, by simp [vst, vnx, newer, dE, eE, xD, xE, hgt, hlt], by omega, .inr rfl⟩
  · exact ⟨D, D, D, E, (sp v D), D, by simp [hitT, hw, hk], gD, gD, gD, by (unfold top3 imax; (repeat' split) <;> omega), by simp [hitT, hw, hk], gE, gX, gD, ⟨E, E, E, 3, by simp [hitT, hw, hk], gE, gE, gE, by simp [vst, vnx, newer, dE, eE, xD, xE, hgt, hlt], by omega⟩, E, (sp v D), D, 2, E, by simp [hitT, hw, hk], gE, gX, gD, by simp [vst, vnx, newer, dE, eE, xD, xE, hgt, hlt], by omega, .inl rfl⟩
  · exact ⟨D, D, D, E, D, (sp v D), by simp [hitT, hw, hk], gD, gD, gD, by (unfold top3 imax; (repeat' split) <;> omega), by simp [hitT, hw, hk], gE, gD, gX, ⟨E, E, E, 3, by simp [hitT, hw, hk], gE, gE, gE, by simp [vst, vnx, newer, dE, eE, xD, xE, hgt, hlt], by omega⟩, E, D, (sp v D), 2, E, by simp [hitT, hw, hk], gE, gD, gX, by simp [vst, vnx, newer, dE, eE, xD, xE, hgt, hlt], by omega, .inl rfl⟩
  · exact ⟨D, D, D, E, D, D, by simp [hitT, hw, hk], gD, gD, gD, by (unfold top3 imax; (repeat' split) <;> omega), by simp [hitT, hw, hk], gE, gD, gD, ⟨(sp v E), E, E, 2, by simp [hitT, hw, hk], gY, gE, gE, by simp [vst, vnx, newer, dE, eE, xD, xE, hgt, hlt], by omega⟩, (sp v E), D, D, 2, D, by simp [hitT, hw, hk], gY, gD, gD, by simp [vst, vnx, newer, dE, eE, xD, xE, hgt, hlt], by omega, .inr rfl⟩
  · exact ⟨D, D, D, E, D, D, by simp [hitT, hw, hk], gD, gD, gD, by (unfold top3 imax; (repeat' split) <;> omega), by simp [hitT, hw, hk], gE, gD, gD, ⟨E, (sp v E), E, 2, by simp [hitT, hw, hk], gE, gY, gE, by simp [vst, vnx, newer, dE, eE, xD, xE, hgt, hlt], by omega⟩, E, (sp v D), D, 2, E, by simp [hitT, hw, hk], gE, gX, gD, by simp [vst, vnx, newer, dE, eE, xD, xE, hgt, hlt], by omega, .inl rfl⟩
  · exact ⟨D, D, D, E, D, D, by simp [hitT, hw, hk], gD, gD, gD, by (unfold top3 imax; (repeat' split) <;> omega), by simp [hitT, hw, hk], gE, gD, gD, ⟨E, E, (sp v E), 2, by simp [hitT, hw, hk], gE, gE, gY, by simp [vst, vnx, newer, dE, eE, xD, xE, hgt, hlt], by omega⟩, E, D, (sp v D), 2, E, by simp [hitT, hw, hk], gE, gD, gX, by simp [vst, vnx, newer, dE, eE, xD, xE, hgt, hlt], by omega, .inl rfl⟩
theorem hold_b {D E : List Int} {v : Int} (hv : 0 ≤ v ∧ v < 65536) (gD : G D) (gE : G E) (dE : cE D = 0) (eE : cE E = 0) (hgt : cNo D < cNo E) : ∃ A1 B1 C1 A2 B2 C2 A3 B3 C3 k, hitT v 1 D D D = (A1, B1, C1) ∧ G A1 ∧ G B1 ∧ G C1 ∧ hitT v 2 A1 B1 C1 = (A2, B2, C2) ∧ G A2 ∧ G B2 ∧ G C2 ∧ hitT v 3 A2 B2 C2 = (A3, B3, C3) ∧ G A3 ∧ G B3 ∧ G C3 ∧ vst [A3, B3, C3] = (k, D) ∧ 2 ≤ k := by
  have hlt : ¬ cNo E < cNo D := by omega
  have d0 := (cNo_bd gD.1).1
  obtain ⟨xD, bX, lX, nX⟩ := sp_ok (v := v) dE gD.1 hv.1 gD.2.1
  obtain ⟨xE, bY, lY, nY⟩ := sp_ok (v := v) eE gE.1 hv.1 gE.2.1
  have gX : G (sp v D) := ⟨bX, by rw [lX]; exact gD.2⟩
  have gY : G (sp v E) := ⟨bY, by rw [lY]; exact gE.2⟩
  rcases (by omega : v / 3 % 4 = 0 ∨ v / 3 % 4 = 1 ∨ v / 3 % 4 = 2 ∨ v / 3 % 4 = 3) with hw | hw | hw | hw <;> rcases (by omega : v % 3 = 0 ∨ v % 3 = 1 ∨ v % 3 = 2) with hk | hk | hk
  · exact ⟨D, D, D, D, D, D, D, D, D, 3, by simp [hitT, hw, hk], gD, gD, gD, by simp [hitT, hw, hk], gD, gD, gD, by simp [hitT, hw, hk], gD, gD, gD, by simp [vst, vnx, newer, dE, eE, xD, xE, hgt, hlt], by omega⟩
  · exact ⟨D, D, D, D, D, D, D, D, D, 3, by simp [hitT, hw, hk], gD, gD, gD, by simp [hitT, hw, hk], gD, gD, gD, by simp [hitT, hw, hk], gD, gD, gD, by simp [vst, vnx, newer, dE, eE, xD, xE, hgt, hlt], by omega⟩
  · exact ⟨D, D, D, D, D, D, D, D, D, 3, by simp [hitT, hw, hk], gD, gD, gD, by simp [hitT, hw, hk], gD, gD, gD, by simp [hitT, hw, hk], gD, gD, gD, by simp [vst, vnx, newer, dE, eE, xD, xE, hgt, hlt], by omega⟩
  · exact ⟨(sp v D), D, D, (sp v D), D, D, (sp v D), D, D, 2, by simp [hitT, hw, hk], gX, gD, gD, by simp [hitT, hw, hk], gX, gD, gD, by simp [hitT, hw, hk], gX, gD, gD, by simp [vst, vnx, newer, dE, eE, xD, xE, hgt, hlt], by omega⟩
  · exact ⟨D, (sp v D), D, D, (sp v D), D, D, (sp v D), D, 2, by simp [hitT, hw, hk], gD, gX, gD, by simp [hitT, hw, hk], gD, gX, gD, by simp [hitT, hw, hk], gD, gX, gD, by simp [vst, vnx, newer, dE, eE, xD, xE, hgt, hlt], by omega⟩
  · exact ⟨D, D, (sp v D), D, D, (sp v D), D, D, (sp v D), 2, by simp [hitT, hw, hk], gD, gD, gX, by simp [hitT, hw, hk], gD, gD, gX, by simp [hitT, hw, hk], gD, gD, gX, by simp [vst, vnx, newer, dE, eE, xD, xE, hgt, hlt], by omega⟩
  · exact ⟨D, D, D, (sp v D), D, D, (sp v D), D, D, 2, by simp [hitT, hw, hk], gD, gD, gD, by simp [hitT, hw, hk], gX, gD, gD, by simp [hitT, hw, hk], gX, gD, gD, by simp [vst, vnx, newer, dE, eE, xD, xE, hgt, hlt], by omega⟩
  · exact ⟨D, D, D, D, (sp v D), D, D, (sp v D), D, 2, by simp [hitT, hw, hk], gD, gD, gD, by simp [hitT, hw, hk], gD, gX, gD, by simp [hitT, hw, hk], gD, gX, gD, by simp [vst, vnx, newer, dE, eE, xD, xE, hgt, hlt], by omega⟩
  · exact ⟨D, D, D, D, D, (sp v D), D, D, (sp v D), 2, by simp [hitT, hw, hk], gD, gD, gD, by simp [hitT, hw, hk], gD, gD, gX, by simp [hitT, hw, hk], gD, gD, gX, by simp [vst, vnx, newer, dE, eE, xD, xE, hgt, hlt], by omega⟩
  · exact ⟨D, D, D, D, D, D, (sp v D), D, D, 2, by simp [hitT, hw, hk], gD, gD, gD, by simp [hitT, hw, hk], gD, gD, gD, by simp [hitT, hw, hk], gX, gD, gD, by simp [vst, vnx, newer, dE, eE, xD, xE, hgt, hlt], by omega⟩
  · exact ⟨D, D, D, D, D, D, D, (sp v D), D, 2, by simp [hitT, hw, hk], gD, gD, gD, by simp [hitT, hw, hk], gD, gD, gD, by simp [hitT, hw, hk], gD, gX, gD, by simp [vst, vnx, newer, dE, eE, xD, xE, hgt, hlt], by omega⟩
  · exact ⟨D, D, D, D, D, D, D, D, (sp v D), 2, by simp [hitT, hw, hk], gD, gD, gD, by simp [hitT, hw, hk], gD, gD, gD, by simp [hitT, hw, hk], gD, gD, gX, by simp [vst, vnx, newer, dE, eE, xD, xE, hgt, hlt], by omega⟩
theorem holds7 (l : List Int) (xs cs ss : List V) (n nc ns : Nat) (hl : BL l) (hll : l.length ≤ 9223372036854775807) (hn : n ≤ 9223372036854775807) (hnc : nc ≤ 9223372036854775807) (hns : ns ≤ 9223372036854775807) (kx : ∀ i : Nat, i < n → ∃ (l : List Int) (r : List V), xs.drop (i * 1) = .vs (u8s l) l.length :: r ∧ BL l ∧ l.length ≤ 9223372036854775807) (kc : ∀ i : Nat, ∃ (x : Int) (r : List V), (0 ≤ x ∧ x < 256) ∧ (i < nc → cs.drop (i * 1) = u8 x :: r)) (ks : ∀ i : Nat, ∃ (x : Int) (r : List V), (0 ≤ x ∧ x < 65536) ∧ (i < ns → ss.drop (i * 1) = u16 x :: r)) : Con Try.prog 14 [] [.vs (u8s l) l.length, .vs xs n, .vs cs nc, .vs ss ns] [] (vb true) := by
  have haw := con_awake7
  obtain ⟨P, hP⟩ : ∃ P, l.take 100 = P := ⟨_, rfl⟩
  have hPb : BL P := by rw [← hP]; exact BL.take hl _
  have hPl : P.length ≤ 100 := by rw [← hP, List.length_take]; omega
  have hcut : Con Try.prog 18 [] [.vs (u8s l) l.length, i64 100] [(5, ⟨u8s P, true, 0, some (5, 1)⟩)] (.sl 5 0 P.length) := by
    rw [← hP]
    exact con_cut l 100 (by omega) (by omega) hll
  obtain ⟨C, hC⟩ : ∃ C, mk 1 P = C := ⟨_, rfl⟩
  have cf := con_gfill_0 P P.length hPb rfl (by omega) C hC
  refine Con.of (C := ⟨Try.prog, tc, Try.f14.ntmps⟩) [] tcok Try.func14 rfl rfl (by kernel_rfl) (by kernel_rfl) ?_
  refine xe0 [0, 1, 2, 3, 8] [] (by kernel_rfl) ?_
  refine AWP.seq ?_
  refine xe1 (os := [Con Try.prog 43 [] [] [] (vb true)]) [(0, ⟨none, some ⟨vb true, [], []⟩⟩)] [0, 1, 2, 3, 8, 22] [] (by kernel_rfl) ⟨(haw ), trivial⟩ ?_
  refine AWP.condF (by kernel_rfl) ?_
  refine AWP.skip ?_
  refine xe1 [(0, ⟨none, some ⟨V.ptr 2 0, [(2, Blk.mk [nilS, nilS, nilS, nilS] true 4 none)], []⟩⟩)] [0, 1, 2, 3, 8, 9] [9, 240002] (by kernel_rfl) (AllP.c (con_gnew ) AllP.n) ?_
  refine xe1 (os := [Con Try.prog 18 [] [B8 l, i64 100] [(5, Blk.mk (u8s P) true 0 (some (5, 1)))] (V.sl 5 0 (List.length P))]) [(1, ⟨none, some ⟨V.sl 5 0 (List.length P), [(5, Blk.mk (u8s P) true 0 (some (5, 1)))], []⟩⟩)] [1, 2, 3, 8, 9, 10] [9, 260005, 240002] (by kernel_rfl) ⟨(hcut ), trivial⟩ ?_
  refine AWP.seq ?_
  refine AWP.seq ?_
  refine AWP.frz 260005 (s' := St.mk [(1, tp (V.vs xs n)), (2, tp (V.vs cs nc)), (3, tp (V.vs ss ns)), (8, tp (vb false)), (9, tp (V.ptr 9 0)), (10, tp (B8 P))] [(9, Blk.mk [V.ptr 240002 0] false 1 none), (240002, Blk.mk [V.val (Value.slice none 0 0), V.val (Value.slice none 0 0), V.val (Value.slice none 0 0), V.val (Value.slice none 0 0)] true 4 none)]) (by kernel_rfl) ?_
  refine xg1 (os := [Con Try.prog 46 [(1000000000, Blk.mk [V.val (Value.slice none 0 0), V.val (Value.slice none 0 0), V.val (Value.slice none 0 0), V.val (Value.slice none 0 0)] true 4 none)] [V.ptr 1000000000 0, B8 P] [(1000000000, Blk.mk [B8 C, B8 C, B8 C, V.val (Value.slice none 0 0)] true 4 none)] (i64 0)]) [(2, ⟨some (V.tup [V.sl 1000000000 240002 0]), some ⟨i64 0, [(1000000000, Blk.mk [B8 C, B8 C, B8 C, nilS] true 4 none)], []⟩⟩)] [1, 2, 3, 8, 9, 10, 29] [9, 240002] (by kernel_rfl) ⟨(cf ), trivial⟩ ?_
  refine AWP.condF (by kernel_rfl) ?_
  refine AWP.skip ?_
  refine AWP.seq ?_
  refine xe0 [2, 3, 8, 9, 10, 30, 31, 32] [9, 240002] (by kernel_rfl) ?_
  refine AWP.block ?_
  refine AWP.loopI [2, 3, 8, 9, 10, 30, 31, 32] [9, 240002] (fun N s' => ∃ (i s : Int) (L D : List Int), s' = St.mk [(2, tp (V.vs cs nc)), (3, tp (V.vs ss ns)), (8, tp (vb false)), (9, tp (V.ptr 9 0)), (10, tp (B8 L)), (30, tp (V.vs xs n)), (31, tp (i64 (n : Int))), (32, tp (i64 i))] [(9, Blk.mk [V.ptr 240002 0] false 1 none), (240002, Blk.mk [B8 D, B8 D, B8 D, nilS] true 4 none)]
      ∧ mk s L = D ∧ BL L ∧ L.length ≤ 100 ∧ (1 ≤ s ∧ s ≤ 1 + i) ∧ 0 ≤ i ∧ i ≤ 12 ∧ i ≤ n ∧ (N : Int) = n - i) n (s0 := St.mk [(2, tp (V.vs cs nc)), (3, tp (V.vs ss ns)), (8, tp (vb false)), (9, tp (V.ptr 9 0)), (10, tp (B8 P)), (30, tp (V.vs xs n)), (31, tp (i64 (n : Int))), (32, tp (i64 0))] [(9, Blk.mk [V.ptr 240002 0] false 1 none), (240002, Blk.mk [B8 C, B8 C, B8 C, nilS] true 4 none)]) (by kernel_rfl) ?_ ?_
  · exact ⟨0, 1, P, C, rfl, hC, hPb, hPl, by omega, by omega, by omega, by omega, by omega⟩
  clear hC cf hP hPb hPl hcut P
  rintro N s' ⟨i, s, L, D, rfl, hD, hLb, hLl, hs, hi, hi12, hin, hN⟩
  have dB : BL D := by rw [← hD]; exact mk_bl (by omega) hLb (by omega)
  have dL : D.length = L.length + 8 := by rw [← hD]; exact mk_len
  have dE : cE D = 0 := by rw [← hD]; exact mk_cE (by omega)
  have dN : cNo D = s := by rw [← hD]; exact mk_cNo (by omega) (by omega)
  have dP : cPo D = L := by rw [← hD]; exact mk_cPo (by omega)
  by_cases hx : i < n ∧ i < 12
  case neg =>
    have cg := con_ggood3 D D D nilS dB dB dB (by omega) (by omega) (by omega) dE dE dE
    rcases (by omega : n ≤ i ∨ (i < n ∧ 12 ≤ i)) with h | h
    · refine AWP.seq ?_
      refine xg0 [2, 3, 8, 9, 10, 30, 31, 32, 33] [9, 240002] (by kernel_rfl) ?_
      refine AWP.seq ?_
      refine AWP.cond (b := decide (i < (↑n : Int))) (by kernel_rfl) (fun hq9 => ?_) (fun hq9 => ?_)
      · simp only [decide_eq_true_eq] at hq9
        (exfalso; omega)
      simp only [decide_eq_false_iff_not] at hq9
      refine AWP.exit ?_
      refine xe1 (os := [VO (u16 (7 : Int)), VOH [], Con Try.prog 56 [] [V.vp [B8 D, B8 D, B8 D, V.val (Value.slice none 0 0)]] [] (u16 7), Con Try.prog 57 [] [u16 7] [] (i64 3)]) [(1, ⟨none, some ⟨u16 7, [], [(240002, true)]⟩⟩), (2, ⟨none, some ⟨i64 3, [], []⟩⟩)] [8] [] (by kernel_rfl) ⟨(VO.val _), trivial, (cg ), (con_count7 ), trivial⟩ ?_
      refine AWP.ret ?_
      refine ⟨Or.inr rfl, Eq.trans (b := some ([], vb true)) (by kernel_rfl) ?_⟩
      rfl
    · obtain ⟨c, r, kx1, hc, hcl⟩ := kx i.toNat (by omega)
      refine xe0 [2, 3, 8, 9, 10, 30, 31, 32, 33] [9, 240002] (by kernel_rfl) ?_
      refine AWP.seq ?_
      refine AWP.cond (b := decide (i < (↑n : Int))) (by kernel_rfl) (fun hq10 => ?_) (fun hq10 => ?_)
      · simp only [decide_eq_true_eq] at hq10
        refine AWP.skip ?_
        refine AWP.seq ?_
        refine AWP.block ?_
        refine xe1 (os := [(0 : Int) ≤ i ∧ i < (↑n : Int), V.vp (List.drop (Int.toNat i * 1) xs) = V.vp (B8 c :: r)]) [(1, ⟨some (V.vp (B8 c :: r)), none⟩)] [2, 3, 8, 9, 10, 11, 12, 30, 31, 32] [9, 240002] (by kernel_rfl) ⟨(by omega), (congrArg V.vp kx1), trivial⟩ ?_
        refine AWP.seq ?_
        refine xe0 [2, 3, 8, 9, 10, 11, 12, 30, 31, 32, 38] [9, 240002] (by kernel_rfl) ?_
        refine AWP.cond (b := decide (i ≥ 12)) (by kernel_rfl) (fun hq11 => ?_) (fun hq11 => ?_)
        · simp only [decide_eq_true_eq] at hq11
          refine AWP.exit ?_
          refine xe1 (os := [VO (u16 (7 : Int)), VOH [], Con Try.prog 56 [] [V.vp [B8 D, B8 D, B8 D, V.val (Value.slice none 0 0)]] [] (u16 7), Con Try.prog 57 [] [u16 7] [] (i64 3)]) [(1, ⟨none, some ⟨u16 7, [], [(240002, true)]⟩⟩), (2, ⟨none, some ⟨i64 3, [], []⟩⟩)] [8] [] (by kernel_rfl) ⟨(VO.val _), trivial, (cg ), (con_count7 ), trivial⟩ ?_
          refine AWP.ret ?_
          refine ⟨Or.inr rfl, Eq.trans (b := some ([], vb true)) (by kernel_rfl) ?_⟩
          rfl
        simp only [decide_eq_false_iff_not] at hq11
        (exfalso; omega)
      simp only [decide_eq_false_iff_not] at hq10
      (exfalso; omega)
  obtain ⟨c, r, kx1, hc, hcl⟩ := kx i.toNat (by omega)
  obtain ⟨u, ru, hu, ku⟩ := kc i.toNat
  obtain ⟨v, rv, hv, kv⟩ := ks i.toNat
  obtain ⟨P, hP⟩ : ∃ P, c.take 100 = P := ⟨_, rfl⟩
  have hPb : BL P := by rw [← hP]; exact BL.take hc _
  have hPl : P.length ≤ 100 := by rw [← hP, List.length_take]; omega
  have hcut : Con Try.prog 18 [] [.vs (u8s c) c.length, i64 100] [(5, ⟨u8s P, true, 0, some (5, 1)⟩)] (.sl 5 0 P.length) := by
    rw [← hP]
    exact con_cut c 100 (by omega) (by omega) hcl
  obtain ⟨E, hE⟩ : ∃ E, mk (s + 1) P = E := ⟨_, rfl⟩
  have eB : BL E := by rw [← hE]; exact mk_bl (by omega) hPb (by omega)
  have eL : E.length = P.length + 8 := by rw [← hE]; exact mk_len
  have eE : cE E = 0 := by rw [← hE]; exact mk_cE (by omega)
  have eN : cNo E = s + 1 := by rw [← hE]; exact mk_cNo (by omega) (by omega)
  have eP : cPo E = P := by rw [← hE]; exact mk_cPo (by omega)
  have hgt : cNo D < cNo E := by omega
  have hlt : ¬ cNo E < cNo D := by omega
  have gD : G D := ⟨dB, by omega, by omega⟩
  have gE : G E := ⟨eB, by omega, by omega⟩
  by_cases h1 : i < nc <;> by_cases h2 : i < ns
  · rcases (by omega : u % 4 = 0 ∨ u % 4 = 1 ∨ u % 4 = 2 ∨ u % 4 = 3) with wfu | wfu | wfu | wfu
    · obtain ⟨A1, B1, C1, A2, B2, C2, h1t, gA1, gB1, gC1, ht, h2t, gA2, gB2, gC2, q1, q2⟩ := hold_a (v := v) hv gD gE dE eE hgt
      rw [dN] at ht
      have ch1 := con_hitn 1 v _ _ _ _ _ _ hv gD gD gD h1t
      have cb := con_gbegin_y A1 B1 C1 gA1.1 gB1.1 gC1.1 (by have := gA1.2.2; omega) (by have := gB1.2.2; omega) (by have := gC1.2.2; omega) P P.length hPb rfl E (by rw [ht]; exact hE) (by omega) (by omega)
      have ch2 := con_hitp 2 v _ _ _ _ _ _ E hv gE gB1 gC1 h2t
      have cfi := con_gfinish A2 B2 C2 E (by omega) (by omega)
      obtain ⟨A3, B3, C3, k, h3t, gA3, gB3, gC3, hv2, hk⟩ := q1
      have ch3 := con_hitn 3 v _ _ _ _ _ _ hv gA2 gE gE h3t
      have cr := (con_gread_y A3 B3 C3 gA3.1 gB3.1 gC3.1 (by have := gA3.2.2; omega) (by have := gB3.2.2; omega) (by have := gC3.2.2; omega) nilS _ k hv2 hk)
      rw [eP] at cr
      have cs2 := con_gscrub_y A3 B3 C3 gA3.1 gB3.1 gC3.1 (by have := gA3.2.2; omega) (by have := gB3.2.2; omega) (by have := gC3.2.2; omega) _ k hv2 hk
      refine xe0 [2, 3, 8, 9, 10, 30, 31, 32, 33] [9, 240002] (by kernel_rfl) ?_
      refine AWP.seq ?_
      refine AWP.cond (b := decide (i < (↑n : Int))) (by kernel_rfl) (fun hq12 => ?_) (fun hq12 => ?_)
      · simp only [decide_eq_true_eq] at hq12
        refine AWP.skip ?_
        refine AWP.seq ?_
        refine AWP.block ?_
        refine xe1 (os := [(0 : Int) ≤ i ∧ i < (↑n : Int), V.vp (List.drop (Int.toNat i * 1) xs) = V.vp (B8 c :: r)]) [(1, ⟨some (V.vp (B8 c :: r)), none⟩)] [2, 3, 8, 9, 10, 11, 12, 30, 31, 32] [9, 240002] (by kernel_rfl) ⟨(by omega), (congrArg V.vp kx1), trivial⟩ ?_
        refine AWP.seq ?_
        refine xe0 [2, 3, 8, 9, 10, 11, 12, 30, 31, 32, 38] [9, 240002] (by kernel_rfl) ?_
        refine AWP.cond (b := decide (i ≥ 12)) (by kernel_rfl) (fun hq13 => ?_) (fun hq13 => ?_)
        · simp only [decide_eq_true_eq] at hq13
          (exfalso; omega)
        simp only [decide_eq_false_iff_not] at hq13
        refine AWP.skip ?_
        refine xe1 (os := [Con Try.prog 18 [] [B8 c, i64 100] [(5, Blk.mk (u8s P) true 0 (some (5, 1)))] (V.sl 5 0 (List.length P))]) [(1, ⟨none, some ⟨V.sl 5 0 (List.length P), [(5, Blk.mk (u8s P) true 0 (some (5, 1)))], []⟩⟩)] [2, 3, 8, 9, 10, 11, 12, 30, 31, 32] [9, 410005, 240002] (by kernel_rfl) ⟨(hcut ), trivial⟩ ?_
        refine xe0 [2, 3, 8, 9, 10, 11, 12, 13, 30, 31, 32] [9, 240002, 410005] (by kernel_rfl) ?_
        refine AWP.seq ?_
        refine xe0 [2, 3, 8, 9, 10, 11, 12, 13, 30, 31, 32, 44] [9, 410005, 240002] (by kernel_rfl) ?_
        refine AWP.cond (b := decide (i < (↑nc : Int))) (by kernel_rfl) (fun hq14 => ?_) (fun hq14 => ?_)
        · simp only [decide_eq_true_eq] at hq14
          refine xg1 (os := [(0 : Int) ≤ i ∧ i < (↑nc : Int), V.vp (List.drop (Int.toNat i * 1) cs) = V.vp (u8 u :: ru), (4 : Int) ≠ (0 : Int), u8 (Int.tmod u 4) = u8 (u % 4), u8 (u % 4) = u8 0]) [(2, ⟨some (V.vp (u8 u :: ru)), none⟩), (4, ⟨some (u8 (u % 4)), none⟩), (5, ⟨some (u8 0), none⟩)] [2, 3, 8, 9, 10, 11, 12, 13, 30, 31, 32] [9, 410005, 240002] (by kernel_rfl) ⟨(by omega), (congrArg V.vp (ku (by omega))), (by omega), (tm_ (by omega)), (in_eq wfu), trivial⟩ ?_
          refine xe0 [2, 3, 8, 9, 10, 11, 12, 13, 14, 30, 31, 32] [9, 14, 240002, 410005] (by kernel_rfl) ?_
          refine AWP.seq ?_
          refine xe0 [2, 3, 8, 9, 10, 11, 12, 13, 14, 30, 31, 32, 53] [9, 410005, 14, 240002] (by kernel_rfl) ?_
          refine AWP.cond (b := decide (i < (↑ns : Int))) (by kernel_rfl) (fun hq15 => ?_) (fun hq15 => ?_)
          · simp only [decide_eq_true_eq] at hq15
            refine xg1 (os := [(0 : Int) ≤ i ∧ i < (↑ns : Int), V.vp (List.drop (Int.toNat i * 1) ss) = V.vp (u16 v :: rv)]) [(2, ⟨some (V.vp (u16 v :: rv)), none⟩)] [2, 3, 8, 9, 10, 12, 13, 14, 30, 31, 32] [9, 410005, 14, 240002] (by kernel_rfl) ⟨(by omega), (congrArg V.vp (kv (by omega))), trivial⟩ ?_
            refine xe0 [2, 3, 8, 9, 10, 12, 13, 15, 30, 31, 32] [9, 410005, 14, 240002] (by kernel_rfl) ?_
            refine xe1 (os := [Con Try.prog 58 [(1000000000, Blk.mk [V.ptr 1000000002 0] false 1 none), (1000000001, Blk.mk [u16 v] true 1 none), (1000000002, Blk.mk [B8 D, B8 D, B8 D, V.val (Value.slice none 0 0)] true 4 none)] [u16 1, V.ptr 1000000001 0, V.ptr 1000000000 0] [(1000000000, Blk.mk [V.ptr 1000000002 0] false 1 none), (1000000001, Blk.mk [u16 v] true 1 none), (1000000002, Blk.mk [B8 A1, B8 B1, B8 C1, V.val (Value.slice none 0 0)] true 4 none)] (V.tup [])]) [(1, ⟨some (V.tup [V.sl 1000000000 9 0, V.sl 1000000001 14 0, V.sl 1000000002 240002 0]), some ⟨V.tup [], [(1000000000, Blk.mk [V.ptr 1000000002 0] false 1 none), (1000000001, Blk.mk [u16 v] true 1 none), (1000000002, Blk.mk [B8 A1, B8 B1, B8 C1, nilS] true 4 none)], []⟩⟩)] [2, 3, 8, 9, 10, 12, 13, 15, 30, 31, 32] [9, 410005, 14, 240002] (by kernel_rfl) ⟨(ch1 ), trivial⟩ ?_
            refine AWP.seq ?_
            refine AWP.seq ?_
            refine AWP.frz 410005 (s' := St.mk [(2, tp (V.vs cs nc)), (3, tp (V.vs ss ns)), (8, tp (vb false)), (9, tp (V.ptr 9 0)), (10, tp (B8 L)), (12, tp (B8 P)), (13, tp (u8 0)), (15, tp (V.clo (Fn.func 58) [] [V.ptr 14 0, V.ptr 9 0])), (30, tp (V.vs xs n)), (31, tp (i64 (↑n : Int))), (32, tp (i64 i))] [(9, Blk.mk [V.ptr 240002 0] false 1 none), (14, Blk.mk [u16 v] true 1 none), (240002, Blk.mk [B8 A1, B8 B1, B8 C1, V.val (Value.slice none 0 0)] true 4 none)]) (by kernel_rfl) ?_
            refine xg1 (os := [Con Try.prog 45 [(1000000000, Blk.mk [B8 A1, B8 B1, B8 C1, V.val (Value.slice none 0 0)] true 4 none)] [V.ptr 1000000000 0, B8 P] [(1000000000, Blk.mk [B8 E, B8 B1, B8 C1, B8 E] true 4 none)] (i64 0)]) [(5, ⟨some (V.tup [V.sl 1000000000 240002 0]), some ⟨i64 0, [(1000000000, Blk.mk [B8 E, B8 B1, B8 C1, B8 E] true 4 none)], []⟩⟩)] [2, 3, 8, 9, 10, 12, 13, 15, 30, 31, 32, 68] [9, 14, 240002] (by kernel_rfl) ⟨(cb ), trivial⟩ ?_
            refine AWP.condF (by kernel_rfl) ?_
            refine AWP.skip ?_
            refine xe1 (os := [Con Try.prog 58 [(1000000000, Blk.mk [V.ptr 1000000002 0] false 1 none), (1000000001, Blk.mk [u16 v] true 1 none), (1000000002, Blk.mk [B8 E, B8 B1, B8 C1, B8 E] true 4 none)] [u16 2, V.ptr 1000000001 0, V.ptr 1000000000 0] [(1000000000, Blk.mk [V.ptr 1000000002 0] false 1 none), (1000000001, Blk.mk [u16 v] true 1 none), (1000000002, Blk.mk [B8 A2, B8 B2, B8 C2, B8 E] true 4 none)] (V.tup [])]) [(1, ⟨some (V.tup [V.sl 1000000000 9 0, V.sl 1000000001 14 0, V.sl 1000000002 240002 0]), some ⟨V.tup [], [(1000000000, Blk.mk [V.ptr 1000000002 0] false 1 none), (1000000001, Blk.mk [u16 v] true 1 none), (1000000002, Blk.mk [B8 A2, B8 B2, B8 C2, B8 E] true 4 none)], []⟩⟩)] [2, 3, 8, 9, 10, 12, 13, 15, 30, 31, 32] [9, 14, 240002] (by kernel_rfl) ⟨(ch2 ), trivial⟩ ?_
            refine AWP.seq ?_
            refine xe1 (os := [Con Try.prog 55 [(1000000000, Blk.mk [B8 A2, B8 B2, B8 C2, B8 E] true 4 none)] [V.ptr 1000000000 0] [(1000000000, Blk.mk [B8 A2, B8 E, B8 E, V.val (Value.slice none 0 0)] true 4 none)] (i64 0)]) [(4, ⟨some (V.tup [V.sl 1000000000 240002 0]), some ⟨i64 0, [(1000000000, Blk.mk [B8 A2, B8 E, B8 E, nilS] true 4 none)], []⟩⟩)] [2, 3, 8, 9, 10, 12, 13, 15, 30, 31, 32, 77] [9, 14, 240002] (by kernel_rfl) ⟨(cfi ), trivial⟩ ?_
            refine AWP.condF (by kernel_rfl) ?_
            refine AWP.skip ?_
            refine xe1 (os := [Con Try.prog 58 [(1000000000, Blk.mk [V.ptr 1000000002 0] false 1 none), (1000000001, Blk.mk [u16 v] true 1 none), (1000000002, Blk.mk [B8 A2, B8 E, B8 E, V.val (Value.slice none 0 0)] true 4 none)] [u16 3, V.ptr 1000000001 0, V.ptr 1000000000 0] [(1000000000, Blk.mk [V.ptr 1000000002 0] false 1 none), (1000000001, Blk.mk [u16 v] true 1 none), (1000000002, Blk.mk [B8 A3, B8 B3, B8 C3, V.val (Value.slice none 0 0)] true 4 none)] (V.tup [])]) [(1, ⟨some (V.tup [V.sl 1000000000 9 0, V.sl 1000000001 14 0, V.sl 1000000002 240002 0]), some ⟨V.tup [], [(1000000000, Blk.mk [V.ptr 1000000002 0] false 1 none), (1000000001, Blk.mk [u16 v] true 1 none), (1000000002, Blk.mk [B8 A3, B8 B3, B8 C3, nilS] true 4 none)], []⟩⟩)] [2, 3, 8, 9, 10, 12, 13, 30, 31, 32] [9, 240002] (by kernel_rfl) ⟨(ch3 ), trivial⟩ ?_
            refine xe1 [(1, ⟨some (V.tup [V.sl 1000000000 240002 0]), some ⟨V.tup [], [(1000000000, Blk.mk [B8 A3, B8 B3, B8 C3, nilS] true 4 none)], []⟩⟩)] [2, 3, 8, 9, 10, 12, 13, 30, 31, 32] [9, 240002] (by kernel_rfl) (AllP.c (con_greset (B8 A3) (B8 B3) (B8 C3) (V.val (Value.slice none 0 0))) AllP.n) ?_
            refine xe1 (os := [VO (V.tup [u32 (cNo E), V.sl (1210005 : Nat) (0 : Nat) (List.length P), i64 (0 : Int)]), VOH [((1210005 : Nat), Blk.mk (u8s P) true (0 : Nat) (some ((5 : Nat), (1 : Nat))))], Con Try.prog 47 [] [V.vp [B8 A3, B8 B3, B8 C3, V.val (Value.slice none 0 0)]] [(1210005, Blk.mk (u8s P) true 0 (some (5, 1)))] (V.tup [u32 (cNo E), V.sl 1210005 0 (List.length P), i64 0])]) [(1, ⟨none, some ⟨V.tup [u32 (cNo E), V.sl 1210005 0 (List.length P), i64 0], [(1210005, Blk.mk (u8s P) true 0 (some (5, 1)))], [(240002, true)]⟩⟩)] [2, 3, 8, 9, 10, 12, 13, 17, 18, 30, 31, 32] [9, 2060005, 240002] (by kernel_rfl) ⟨(VO.tup (VOL.cons (VO.val _) (VOL.cons (VO.sl _ _ _) (VOL.cons (VO.val _) VOL.nil)))), ⟨(VOL.u8s _), trivial⟩, (cr ), trivial⟩ ?_
            refine AWP.seq ?_
            refine xe1 (os := [false = false → VO (vb (decide (P = L))) ∧ VOH [] ∧ Con Try.prog (23 : Nat) [] [B8 P, B8 L] [] (vb (decide (P = L))) ∧ (0 : Nat) = (0 : Nat) ∧ List.length P * (1 : Nat) = List.length (u8s P) ∧ True, false = false → (!decide (P = L)) = true → false = false → VO (vb (decide (P = P))) ∧ VOH [] ∧ Con Try.prog (23 : Nat) [] [B8 P, B8 P] [] (vb (decide (P = P))) ∧ (0 : Nat) = (0 : Nat) ∧ List.length P * (1 : Nat) = List.length (u8s P) ∧ True, true = true → (false || !decide (P = L) && (false || !decide (P = P))) = false → VO (vb (decide (P = P))) ∧ VOH [] ∧ Con Try.prog (23 : Nat) [] [B8 P, B8 P] [] (vb (decide (P = P))) ∧ (0 : Nat) = (0 : Nat) ∧ List.length P * (1 : Nat) = List.length (u8s P) ∧ True]) [(5, ⟨none, some ⟨vb (decide (P = L)), [], [(2060005, true)]⟩⟩), (13, ⟨none, some ⟨vb (decide (P = P)), [], [(2060005, true)]⟩⟩), (24, ⟨none, some ⟨vb (decide (P = P)), [], [(2060005, true)]⟩⟩)] [2, 3, 8, 9, 10, 17, 30, 31, 32, 115] [9, 2060005, 240002] (by kernel_rfl) ⟨(by intro hc0; first | (cases hc0; done) | ((try simp only [Bool.or_false, Bool.false_or, Bool.true_and, Bool.and_true, decide_eq_true_eq, decide_eq_false_iff_not, Bool.and_eq_true, Bool.or_eq_true, Bool.or_eq_false_iff, Bool.not_eq_true', Bool.and_eq_false_iff, beq_iff_eq, bne_iff_ne, bne_eq_false_iff_eq, beq_eq_false_iff_ne, Bool.not_eq_false'] at hc0); exact ⟨(VO.val _), trivial, (con_samen (P) (L) (List.length P) (List.length L) (by omega) (by omega) (by omega) (by omega)), (by omega), (by (simp [len_u8s]; done)), trivial⟩)), (by intro hc0 hc1 hc2; first | (cases hc0; done) | ((try simp only [Bool.or_false, Bool.false_or, Bool.true_and, Bool.and_true, decide_eq_true_eq, decide_eq_false_iff_not, Bool.and_eq_true, Bool.or_eq_true, Bool.or_eq_false_iff, Bool.not_eq_true', Bool.and_eq_false_iff, beq_iff_eq, bne_iff_ne, bne_eq_false_iff_eq, beq_eq_false_iff_ne, Bool.not_eq_false'] at hc0 hc1 hc2); exact ⟨(VO.val _), trivial, (con_samen (P) (P) (List.length P) (List.length P) (by omega) (by omega) (by omega) (by omega)), (by omega), (by (simp [len_u8s]; done)), trivial⟩)), (by intro hc0 hc1; first | (cases hc0; done) | ((try simp only [Bool.or_false, Bool.false_or, Bool.true_and, Bool.and_true, decide_eq_true_eq, decide_eq_false_iff_not, Bool.and_eq_true, Bool.or_eq_true, Bool.or_eq_false_iff, Bool.not_eq_true', Bool.and_eq_false_iff, beq_iff_eq, bne_iff_ne, bne_eq_false_iff_eq, beq_eq_false_iff_ne, Bool.not_eq_false'] at hc0 hc1); exact ⟨(VO.val _), trivial, (con_samen (P) (P) (List.length P) (List.length P) (by omega) (by omega) (by omega) (by omega)), (by omega), (by (simp [len_u8s]; done)), trivial⟩)), trivial⟩ ?_
            refine AWP.cond (b := false || !decide (P = L) && (false || !decide (P = P)) || true && !decide (P = P)) (by kernel_rfl) (fun hq18 => ?_) (fun hq18 => ?_)
            · simp only [Bool.false_or, Bool.true_and, decide_eq_false_iff_not, Bool.and_eq_true, Bool.or_eq_true, Bool.not_eq_true'] at hq18
              (simp [bl] at hq18; done)
            simp only [Bool.false_or, Bool.true_and, decide_eq_true_eq, Bool.or_eq_false_iff, Bool.and_eq_false_iff, Bool.not_eq_false'] at hq18
            refine AWP.skip ?_
            refine xe0 [2, 3, 8, 9, 10, 30, 31, 32] [9, 2060005, 240002] (by kernel_rfl) ?_
            refine xe1 (os := [Con Try.prog 48 [(1000000000, Blk.mk [B8 A3, B8 B3, B8 C3, V.val (Value.slice none 0 0)] true 4 none)] [V.ptr 1000000000 0] [(1000000000, Blk.mk [B8 E, B8 E, B8 E, V.val (Value.slice none 0 0)] true 4 none)] (V.tup [i64 (nq A3 E + nq B3 E + nq C3 E), i64 0])]) [(1, ⟨some (V.tup [V.sl 1000000000 240002 0]), some ⟨V.tup [i64 (nq A3 E + nq B3 E + nq C3 E), i64 0], [(1000000000, Blk.mk [B8 E, B8 E, B8 E, nilS] true 4 none)], []⟩⟩)] [2, 3, 8, 9, 10, 20, 30, 31, 32] [9, 2060005, 240002] (by kernel_rfl) ⟨(cs2 ), trivial⟩ ?_
            refine xe0 [2, 3, 8, 9, 10, 30, 31, 32, 123] [9, 2060005, 240002] (by kernel_rfl) ?_
            refine AWP.condF (by kernel_rfl) ?_
            refine AWP.skip ?_
            refine AWP.frz 2060005 (s' := St.mk [(2, tp (V.vs cs nc)), (3, tp (V.vs ss ns)), (8, tp (vb false)), (9, tp (V.ptr 9 0)), (10, tp (B8 P)), (30, tp (V.vs xs n)), (31, tp (i64 (↑n : Int))), (32, tp (i64 i)), (123, tp (vb false))] [(9, Blk.mk [V.ptr 240002 0] false 1 none), (240002, Blk.mk [B8 E, B8 E, B8 E, V.val (Value.slice none 0 0)] true 4 none)]) (by kernel_rfl) ?_
            refine AWP.region tcok hmix [(0, ⟨some (i64 (i + 1)), none⟩)] (os := [i64 (IntKind.wrap IntKind.i64 (i + 1)) = i64 (i + 1)]) (sf := St.mk [(2, tp (V.vs cs nc)), (3, tp (V.vs ss ns)), (8, tp (vb false)), (9, tp (V.ptr 9 0)), (10, tp (B8 P)), (30, tp (V.vs xs n)), (31, tp (i64 (↑n : Int))), (32, tp (i64 (i + 1))), (123, tp (vb false)), (124, tp (i64 (i + 1)))] [(9, Blk.mk [V.ptr 240002 0] false 1 none), (240002, Blk.mk [B8 E, B8 E, B8 E, V.val (Value.slice none 0 0)] true 4 none)]) (by kernel_rfl) ⟨(wr_i64 (by omega) (by omega)), trivial⟩ ?_
            refine ⟨St.mk [(2, tp (V.vs cs nc)), (3, tp (V.vs ss ns)), (8, tp (vb false)), (9, tp (V.ptr 9 0)), (10, tp (B8 P)), (30, tp (V.vs xs n)), (31, tp (i64 (↑n : Int))), (32, tp (i64 (i + 1)))] [(9, Blk.mk [V.ptr 240002 0] false 1 none), (240002, Blk.mk [B8 E, B8 E, B8 E, V.val (Value.slice none 0 0)] true 4 none)], by kernel_rfl, ?_⟩
            (exact ⟨(n - (i + 1)).toNat, (by omega), i + 1, s + 1, P, E, rfl, hE, hPb, hPl, (by omega), (by omega), (by omega), (by omega), (by omega)⟩)
          simp only [decide_eq_false_iff_not] at hq15
          (exfalso; omega)
        simp only [decide_eq_false_iff_not] at hq14
        (exfalso; omega)
      simp only [decide_eq_false_iff_not] at hq12
      (exfalso; omega)
    · obtain ⟨A1, B1, C1, A2, B2, C2, h1t, gA1, gB1, gC1, ht, h2t, gA2, gB2, gC2, q1, q2⟩ := hold_a (v := v) hv gD gE dE eE hgt
      rw [dN] at ht
      have ch1 := con_hitn 1 v _ _ _ _ _ _ hv gD gD gD h1t
      have cb := con_gbegin_y A1 B1 C1 gA1.1 gB1.1 gC1.1 (by have := gA1.2.2; omega) (by have := gB1.2.2; omega) (by have := gC1.2.2; omega) P P.length hPb rfl E (by rw [ht]; exact hE) (by omega) (by omega)
      have ch2 := con_hitp 2 v _ _ _ _ _ _ E hv gE gB1 gC1 h2t
      obtain ⟨A3, B3, C3, k, m, h3t, gA3, gB3, gC3, hv2, hk, hm⟩ := q2
      have ch3 := con_hitp 3 v _ _ _ _ _ _ E hv gA2 gB2 gC2 h3t
      rcases hm with hm | hm
      · rw [hm] at hv2
        have cr := (con_gread_y A3 B3 C3 gA3.1 gB3.1 gC3.1 (by have := gA3.2.2; omega) (by have := gB3.2.2; omega) (by have := gC3.2.2; omega) nilS _ k hv2 hk)
        rw [eP] at cr
        have cs2 := con_gscrub_y A3 B3 C3 gA3.1 gB3.1 gC3.1 (by have := gA3.2.2; omega) (by have := gB3.2.2; omega) (by have := gC3.2.2; omega) _ k hv2 hk
        refine xe0 [2, 3, 8, 9, 10, 30, 31, 32, 33] [9, 240002] (by kernel_rfl) ?_
        refine AWP.seq ?_
        refine AWP.cond (b := decide (i < (↑n : Int))) (by kernel_rfl) (fun hq20 => ?_) (fun hq20 => ?_)
        · simp only [decide_eq_true_eq] at hq20
          refine AWP.skip ?_
          refine AWP.seq ?_
          refine AWP.block ?_
          refine xe1 (os := [(0 : Int) ≤ i ∧ i < (↑n : Int), V.vp (List.drop (Int.toNat i * 1) xs) = V.vp (B8 c :: r)]) [(1, ⟨some (V.vp (B8 c :: r)), none⟩)] [2, 3, 8, 9, 10, 11, 12, 30, 31, 32] [9, 240002] (by kernel_rfl) ⟨(by omega), (congrArg V.vp kx1), trivial⟩ ?_
          refine AWP.seq ?_
          refine xe0 [2, 3, 8, 9, 10, 11, 12, 30, 31, 32, 38] [9, 240002] (by kernel_rfl) ?_
          refine AWP.cond (b := decide (i ≥ 12)) (by kernel_rfl) (fun hq21 => ?_) (fun hq21 => ?_)
          · simp only [decide_eq_true_eq] at hq21
            (exfalso; omega)
          simp only [decide_eq_false_iff_not] at hq21
          refine AWP.skip ?_
          refine xe1 (os := [Con Try.prog 18 [] [B8 c, i64 100] [(5, Blk.mk (u8s P) true 0 (some (5, 1)))] (V.sl 5 0 (List.length P))]) [(1, ⟨none, some ⟨V.sl 5 0 (List.length P), [(5, Blk.mk (u8s P) true 0 (some (5, 1)))], []⟩⟩)] [2, 3, 8, 9, 10, 11, 12, 30, 31, 32] [9, 410005, 240002] (by kernel_rfl) ⟨(hcut ), trivial⟩ ?_
          refine xe0 [2, 3, 8, 9, 10, 11, 12, 13, 30, 31, 32] [9, 240002, 410005] (by kernel_rfl) ?_
          refine AWP.seq ?_
          refine xe0 [2, 3, 8, 9, 10, 11, 12, 13, 30, 31, 32, 44] [9, 410005, 240002] (by kernel_rfl) ?_
          refine AWP.cond (b := decide (i < (↑nc : Int))) (by kernel_rfl) (fun hq22 => ?_) (fun hq22 => ?_)
          · simp only [decide_eq_true_eq] at hq22
            refine xg1 (os := [(0 : Int) ≤ i ∧ i < (↑nc : Int), V.vp (List.drop (Int.toNat i * 1) cs) = V.vp (u8 u :: ru), (4 : Int) ≠ (0 : Int), u8 (Int.tmod u 4) = u8 (u % 4), u8 (u % 4) = u8 1]) [(2, ⟨some (V.vp (u8 u :: ru)), none⟩), (4, ⟨some (u8 (u % 4)), none⟩), (5, ⟨some (u8 1), none⟩)] [2, 3, 8, 9, 10, 11, 12, 13, 30, 31, 32] [9, 410005, 240002] (by kernel_rfl) ⟨(by omega), (congrArg V.vp (ku (by omega))), (by omega), (tm_ (by omega)), (in_eq wfu), trivial⟩ ?_
            refine xe0 [2, 3, 8, 9, 10, 11, 12, 13, 14, 30, 31, 32] [9, 14, 240002, 410005] (by kernel_rfl) ?_
            refine AWP.seq ?_
            refine xe0 [2, 3, 8, 9, 10, 11, 12, 13, 14, 30, 31, 32, 53] [9, 410005, 14, 240002] (by kernel_rfl) ?_
            refine AWP.cond (b := decide (i < (↑ns : Int))) (by kernel_rfl) (fun hq23 => ?_) (fun hq23 => ?_)
            · simp only [decide_eq_true_eq] at hq23
              refine xg1 (os := [(0 : Int) ≤ i ∧ i < (↑ns : Int), V.vp (List.drop (Int.toNat i * 1) ss) = V.vp (u16 v :: rv)]) [(2, ⟨some (V.vp (u16 v :: rv)), none⟩)] [2, 3, 8, 9, 10, 12, 13, 14, 30, 31, 32] [9, 410005, 14, 240002] (by kernel_rfl) ⟨(by omega), (congrArg V.vp (kv (by omega))), trivial⟩ ?_
              refine xe0 [2, 3, 8, 9, 10, 12, 13, 15, 30, 31, 32] [9, 410005, 14, 240002] (by kernel_rfl) ?_
              refine xe1 (os := [Con Try.prog 58 [(1000000000, Blk.mk [V.ptr 1000000002 0] false 1 none), (1000000001, Blk.mk [u16 v] true 1 none), (1000000002, Blk.mk [B8 D, B8 D, B8 D, V.val (Value.slice none 0 0)] true 4 none)] [u16 1, V.ptr 1000000001 0, V.ptr 1000000000 0] [(1000000000, Blk.mk [V.ptr 1000000002 0] false 1 none), (1000000001, Blk.mk [u16 v] true 1 none), (1000000002, Blk.mk [B8 A1, B8 B1, B8 C1, V.val (Value.slice none 0 0)] true 4 none)] (V.tup [])]) [(1, ⟨some (V.tup [V.sl 1000000000 9 0, V.sl 1000000001 14 0, V.sl 1000000002 240002 0]), some ⟨V.tup [], [(1000000000, Blk.mk [V.ptr 1000000002 0] false 1 none), (1000000001, Blk.mk [u16 v] true 1 none), (1000000002, Blk.mk [B8 A1, B8 B1, B8 C1, nilS] true 4 none)], []⟩⟩)] [2, 3, 8, 9, 10, 12, 13, 15, 30, 31, 32] [9, 410005, 14, 240002] (by kernel_rfl) ⟨(ch1 ), trivial⟩ ?_
              refine AWP.seq ?_
              refine AWP.seq ?_
              refine AWP.frz 410005 (s' := St.mk [(2, tp (V.vs cs nc)), (3, tp (V.vs ss ns)), (8, tp (vb false)), (9, tp (V.ptr 9 0)), (10, tp (B8 L)), (12, tp (B8 P)), (13, tp (u8 1)), (15, tp (V.clo (Fn.func 58) [] [V.ptr 14 0, V.ptr 9 0])), (30, tp (V.vs xs n)), (31, tp (i64 (↑n : Int))), (32, tp (i64 i))] [(9, Blk.mk [V.ptr 240002 0] false 1 none), (14, Blk.mk [u16 v] true 1 none), (240002, Blk.mk [B8 A1, B8 B1, B8 C1, V.val (Value.slice none 0 0)] true 4 none)]) (by kernel_rfl) ?_
              refine xg1 (os := [Con Try.prog 45 [(1000000000, Blk.mk [B8 A1, B8 B1, B8 C1, V.val (Value.slice none 0 0)] true 4 none)] [V.ptr 1000000000 0, B8 P] [(1000000000, Blk.mk [B8 E, B8 B1, B8 C1, B8 E] true 4 none)] (i64 0)]) [(5, ⟨some (V.tup [V.sl 1000000000 240002 0]), some ⟨i64 0, [(1000000000, Blk.mk [B8 E, B8 B1, B8 C1, B8 E] true 4 none)], []⟩⟩)] [2, 3, 8, 9, 10, 12, 13, 15, 30, 31, 32, 68] [9, 14, 240002] (by kernel_rfl) ⟨(cb ), trivial⟩ ?_
              refine AWP.condF (by kernel_rfl) ?_
              refine AWP.skip ?_
              refine xe1 (os := [Con Try.prog 58 [(1000000000, Blk.mk [V.ptr 1000000002 0] false 1 none), (1000000001, Blk.mk [u16 v] true 1 none), (1000000002, Blk.mk [B8 E, B8 B1, B8 C1, B8 E] true 4 none)] [u16 2, V.ptr 1000000001 0, V.ptr 1000000000 0] [(1000000000, Blk.mk [V.ptr 1000000002 0] false 1 none), (1000000001, Blk.mk [u16 v] true 1 none), (1000000002, Blk.mk [B8 A2, B8 B2, B8 C2, B8 E] true 4 none)] (V.tup [])]) [(1, ⟨some (V.tup [V.sl 1000000000 9 0, V.sl 1000000001 14 0, V.sl 1000000002 240002 0]), some ⟨V.tup [], [(1000000000, Blk.mk [V.ptr 1000000002 0] false 1 none), (1000000001, Blk.mk [u16 v] true 1 none), (1000000002, Blk.mk [B8 A2, B8 B2, B8 C2, B8 E] true 4 none)], []⟩⟩)] [2, 3, 8, 9, 10, 12, 13, 15, 30, 31, 32] [9, 14, 240002] (by kernel_rfl) ⟨(ch2 ), trivial⟩ ?_
              refine AWP.seq ?_
              refine xe1 (os := [false = true → False]) [(5, ⟨some (V.tup [vb false]), none⟩)] [2, 3, 8, 9, 10, 12, 13, 15, 30, 31, 32, 77] [9, 14, 240002] (by kernel_rfl) ⟨(by (intro hc0; first | (cases hc0; done) | (exfalso; simp_all; done) | ((try simp only [Bool.or_false, Bool.false_or, Bool.true_and, Bool.and_true, decide_eq_true_eq, decide_eq_false_iff_not, Bool.and_eq_true, Bool.or_eq_true, Bool.or_eq_false_iff, Bool.not_eq_true', Bool.and_eq_false_iff, beq_iff_eq, bne_iff_ne, bne_eq_false_iff_eq, beq_eq_false_iff_ne, Bool.not_eq_false'] at hc0); omega))), trivial⟩ ?_
              refine AWP.condF (by kernel_rfl) ?_
              refine AWP.skip ?_
              refine xe1 (os := [Con Try.prog 58 [(1000000000, Blk.mk [V.ptr 1000000002 0] false 1 none), (1000000001, Blk.mk [u16 v] true 1 none), (1000000002, Blk.mk [B8 A2, B8 B2, B8 C2, B8 E] true 4 none)] [u16 3, V.ptr 1000000001 0, V.ptr 1000000000 0] [(1000000000, Blk.mk [V.ptr 1000000002 0] false 1 none), (1000000001, Blk.mk [u16 v] true 1 none), (1000000002, Blk.mk [B8 A3, B8 B3, B8 C3, B8 E] true 4 none)] (V.tup [])]) [(1, ⟨some (V.tup [V.sl 1000000000 9 0, V.sl 1000000001 14 0, V.sl 1000000002 240002 0]), some ⟨V.tup [], [(1000000000, Blk.mk [V.ptr 1000000002 0] false 1 none), (1000000001, Blk.mk [u16 v] true 1 none), (1000000002, Blk.mk [B8 A3, B8 B3, B8 C3, B8 E] true 4 none)], []⟩⟩)] [2, 3, 8, 9, 10, 12, 13, 30, 31, 32] [9, 240002] (by kernel_rfl) ⟨(ch3 ), trivial⟩ ?_
              refine xe1 [(1, ⟨some (V.tup [V.sl 1000000000 240002 0]), some ⟨V.tup [], [(1000000000, Blk.mk [B8 A3, B8 B3, B8 C3, nilS] true 4 none)], []⟩⟩)] [2, 3, 8, 9, 10, 12, 13, 30, 31, 32] [9, 240002] (by kernel_rfl) (AllP.c (con_greset (B8 A3) (B8 B3) (B8 C3) (B8 E)) AllP.n) ?_
              refine xe1 (os := [VO (V.tup [u32 (cNo E), V.sl (1210005 : Nat) (0 : Nat) (List.length P), i64 (0 : Int)]), VOH [((1210005 : Nat), Blk.mk (u8s P) true (0 : Nat) (some ((5 : Nat), (1 : Nat))))], Con Try.prog 47 [] [V.vp [B8 A3, B8 B3, B8 C3, V.val (Value.slice none 0 0)]] [(1210005, Blk.mk (u8s P) true 0 (some (5, 1)))] (V.tup [u32 (cNo E), V.sl 1210005 0 (List.length P), i64 0])]) [(1, ⟨none, some ⟨V.tup [u32 (cNo E), V.sl 1210005 0 (List.length P), i64 0], [(1210005, Blk.mk (u8s P) true 0 (some (5, 1)))], [(240002, true)]⟩⟩)] [2, 3, 8, 9, 10, 12, 13, 17, 18, 30, 31, 32] [9, 2060005, 240002] (by kernel_rfl) ⟨(VO.tup (VOL.cons (VO.val _) (VOL.cons (VO.sl _ _ _) (VOL.cons (VO.val _) VOL.nil)))), ⟨(VOL.u8s _), trivial⟩, (cr ), trivial⟩ ?_
              refine AWP.seq ?_
              refine xe1 (os := [false = false → VO (vb (decide (P = L))) ∧ VOH [] ∧ Con Try.prog (23 : Nat) [] [B8 P, B8 L] [] (vb (decide (P = L))) ∧ (0 : Nat) = (0 : Nat) ∧ List.length P * (1 : Nat) = List.length (u8s P) ∧ True, false = false → (!decide (P = L)) = true → false = false → VO (vb (decide (P = P))) ∧ VOH [] ∧ Con Try.prog (23 : Nat) [] [B8 P, B8 P] [] (vb (decide (P = P))) ∧ (0 : Nat) = (0 : Nat) ∧ List.length P * (1 : Nat) = List.length (u8s P) ∧ True, false = true → (false || !decide (P = L) && (false || !decide (P = P))) = false → VO (vb (decide (P = P))) ∧ VOH [] ∧ Con Try.prog (23 : Nat) [] [B8 P, B8 P] [] (vb (decide (P = P))) ∧ (0 : Nat) = (0 : Nat) ∧ List.length P * (1 : Nat) = List.length (u8s P) ∧ True]) [(5, ⟨none, some ⟨vb (decide (P = L)), [], [(2060005, true)]⟩⟩), (13, ⟨none, some ⟨vb (decide (P = P)), [], [(2060005, true)]⟩⟩), (24, ⟨none, some ⟨vb (decide (P = P)), [], [(2060005, true)]⟩⟩)] [2, 3, 8, 9, 10, 17, 30, 31, 32, 115] [9, 2060005, 240002] (by kernel_rfl) ⟨(by intro hc0; first | (cases hc0; done) | ((try simp only [Bool.or_false, Bool.false_or, Bool.true_and, Bool.and_true, decide_eq_true_eq, decide_eq_false_iff_not, Bool.and_eq_true, Bool.or_eq_true, Bool.or_eq_false_iff, Bool.not_eq_true', Bool.and_eq_false_iff, beq_iff_eq, bne_iff_ne, bne_eq_false_iff_eq, beq_eq_false_iff_ne, Bool.not_eq_false'] at hc0); exact ⟨(VO.val _), trivial, (con_samen (P) (L) (List.length P) (List.length L) (by omega) (by omega) (by omega) (by omega)), (by omega), (by (simp [len_u8s]; done)), trivial⟩)), (by intro hc0 hc1 hc2; first | (cases hc0; done) | ((try simp only [Bool.or_false, Bool.false_or, Bool.true_and, Bool.and_true, decide_eq_true_eq, decide_eq_false_iff_not, Bool.and_eq_true, Bool.or_eq_true, Bool.or_eq_false_iff, Bool.not_eq_true', Bool.and_eq_false_iff, beq_iff_eq, bne_iff_ne, bne_eq_false_iff_eq, beq_eq_false_iff_ne, Bool.not_eq_false'] at hc0 hc1 hc2); exact ⟨(VO.val _), trivial, (con_samen (P) (P) (List.length P) (List.length P) (by omega) (by omega) (by omega) (by omega)), (by omega), (by (simp [len_u8s]; done)), trivial⟩)), (by intro hc0 hc1; first | (cases hc0; done) | ((try simp only [Bool.or_false, Bool.false_or, Bool.true_and, Bool.and_true, decide_eq_true_eq, decide_eq_false_iff_not, Bool.and_eq_true, Bool.or_eq_true, Bool.or_eq_false_iff, Bool.not_eq_true', Bool.and_eq_false_iff, beq_iff_eq, bne_iff_ne, bne_eq_false_iff_eq, beq_eq_false_iff_ne, Bool.not_eq_false'] at hc0 hc1); exact ⟨(VO.val _), trivial, (con_samen (P) (P) (List.length P) (List.length P) (by omega) (by omega) (by omega) (by omega)), (by omega), (by (simp [len_u8s]; done)), trivial⟩)), trivial⟩ ?_
              refine AWP.cond (b := false || !decide (P = L) && (false || !decide (P = P)) || false) (by kernel_rfl) (fun hq26 => ?_) (fun hq26 => ?_)
              · simp only [Bool.or_false, Bool.false_or, decide_eq_false_iff_not, Bool.and_eq_true, Bool.not_eq_true'] at hq26
                (simp [bl] at hq26; done)
              simp only [Bool.or_false, Bool.false_or, decide_eq_true_eq, Bool.and_eq_false_iff, Bool.not_eq_false'] at hq26
              refine AWP.skip ?_
              refine xe0 [2, 3, 8, 9, 10, 30, 31, 32] [9, 2060005, 240002] (by kernel_rfl) ?_
              refine xe1 (os := [Con Try.prog 48 [(1000000000, Blk.mk [B8 A3, B8 B3, B8 C3, V.val (Value.slice none 0 0)] true 4 none)] [V.ptr 1000000000 0] [(1000000000, Blk.mk [B8 E, B8 E, B8 E, V.val (Value.slice none 0 0)] true 4 none)] (V.tup [i64 (nq A3 E + nq B3 E + nq C3 E), i64 0])]) [(1, ⟨some (V.tup [V.sl 1000000000 240002 0]), some ⟨V.tup [i64 (nq A3 E + nq B3 E + nq C3 E), i64 0], [(1000000000, Blk.mk [B8 E, B8 E, B8 E, nilS] true 4 none)], []⟩⟩)] [2, 3, 8, 9, 10, 20, 30, 31, 32] [9, 2060005, 240002] (by kernel_rfl) ⟨(cs2 ), trivial⟩ ?_
              refine xe0 [2, 3, 8, 9, 10, 30, 31, 32, 123] [9, 2060005, 240002] (by kernel_rfl) ?_
              refine AWP.condF (by kernel_rfl) ?_
              refine AWP.skip ?_
              refine AWP.frz 2060005 (s' := St.mk [(2, tp (V.vs cs nc)), (3, tp (V.vs ss ns)), (8, tp (vb false)), (9, tp (V.ptr 9 0)), (10, tp (B8 P)), (30, tp (V.vs xs n)), (31, tp (i64 (↑n : Int))), (32, tp (i64 i)), (123, tp (vb false))] [(9, Blk.mk [V.ptr 240002 0] false 1 none), (240002, Blk.mk [B8 E, B8 E, B8 E, V.val (Value.slice none 0 0)] true 4 none)]) (by kernel_rfl) ?_
              refine AWP.region tcok hmix [(0, ⟨some (i64 (i + 1)), none⟩)] (os := [i64 (IntKind.wrap IntKind.i64 (i + 1)) = i64 (i + 1)]) (sf := St.mk [(2, tp (V.vs cs nc)), (3, tp (V.vs ss ns)), (8, tp (vb false)), (9, tp (V.ptr 9 0)), (10, tp (B8 P)), (30, tp (V.vs xs n)), (31, tp (i64 (↑n : Int))), (32, tp (i64 (i + 1))), (123, tp (vb false)), (124, tp (i64 (i + 1)))] [(9, Blk.mk [V.ptr 240002 0] false 1 none), (240002, Blk.mk [B8 E, B8 E, B8 E, V.val (Value.slice none 0 0)] true 4 none)]) (by kernel_rfl) ⟨(wr_i64 (by omega) (by omega)), trivial⟩ ?_
              refine ⟨St.mk [(2, tp (V.vs cs nc)), (3, tp (V.vs ss ns)), (8, tp (vb false)), (9, tp (V.ptr 9 0)), (10, tp (B8 P)), (30, tp (V.vs xs n)), (31, tp (i64 (↑n : Int))), (32, tp (i64 (i + 1)))] [(9, Blk.mk [V.ptr 240002 0] false 1 none), (240002, Blk.mk [B8 E, B8 E, B8 E, V.val (Value.slice none 0 0)] true 4 none)], by kernel_rfl, ?_⟩
              (exact ⟨(n - (i + 1)).toNat, (by omega), i + 1, s + 1, P, E, rfl, hE, hPb, hPl, (by omega), (by omega), (by omega), (by omega), (by omega)⟩)
            simp only [decide_eq_false_iff_not] at hq23
            (exfalso; omega)
          simp only [decide_eq_false_iff_not] at hq22
          (exfalso; omega)
        simp only [decide_eq_false_iff_not] at hq20
        (exfalso; omega)
      · rw [hm] at hv2
        have cr := (con_gread_y A3 B3 C3 gA3.1 gB3.1 gC3.1 (by have := gA3.2.2; omega) (by have := gB3.2.2; omega) (by have := gC3.2.2; omega) nilS _ k hv2 hk)
        rw [dP] at cr
        have cs2 := con_gscrub_y A3 B3 C3 gA3.1 gB3.1 gC3.1 (by have := gA3.2.2; omega) (by have := gB3.2.2; omega) (by have := gC3.2.2; omega) _ k hv2 hk
        refine xe0 [2, 3, 8, 9, 10, 30, 31, 32, 33] [9, 240002] (by kernel_rfl) ?_
        refine AWP.seq ?_
        refine AWP.cond (b := decide (i < (↑n : Int))) (by kernel_rfl) (fun hq28 => ?_) (fun hq28 => ?_)
        · simp only [decide_eq_true_eq] at hq28
          refine AWP.skip ?_
          refine AWP.seq ?_
          refine AWP.block ?_
          refine xe1 (os := [(0 : Int) ≤ i ∧ i < (↑n : Int), V.vp (List.drop (Int.toNat i * 1) xs) = V.vp (B8 c :: r)]) [(1, ⟨some (V.vp (B8 c :: r)), none⟩)] [2, 3, 8, 9, 10, 11, 12, 30, 31, 32] [9, 240002] (by kernel_rfl) ⟨(by omega), (congrArg V.vp kx1), trivial⟩ ?_
          refine AWP.seq ?_
          refine xe0 [2, 3, 8, 9, 10, 11, 12, 30, 31, 32, 38] [9, 240002] (by kernel_rfl) ?_
          refine AWP.cond (b := decide (i ≥ 12)) (by kernel_rfl) (fun hq29 => ?_) (fun hq29 => ?_)
          · simp only [decide_eq_true_eq] at hq29
            (exfalso; omega)
          simp only [decide_eq_false_iff_not] at hq29
          refine AWP.skip ?_
          refine xe1 (os := [Con Try.prog 18 [] [B8 c, i64 100] [(5, Blk.mk (u8s P) true 0 (some (5, 1)))] (V.sl 5 0 (List.length P))]) [(1, ⟨none, some ⟨V.sl 5 0 (List.length P), [(5, Blk.mk (u8s P) true 0 (some (5, 1)))], []⟩⟩)] [2, 3, 8, 9, 10, 11, 12, 30, 31, 32] [9, 410005, 240002] (by kernel_rfl) ⟨(hcut ), trivial⟩ ?_
          refine xe0 [2, 3, 8, 9, 10, 11, 12, 13, 30, 31, 32] [9, 240002, 410005] (by kernel_rfl) ?_
          refine AWP.seq ?_
          refine xe0 [2, 3, 8, 9, 10, 11, 12, 13, 30, 31, 32, 44] [9, 410005, 240002] (by kernel_rfl) ?_
          refine AWP.cond (b := decide (i < (↑nc : Int))) (by kernel_rfl) (fun hq30 => ?_) (fun hq30 => ?_)
          · simp only [decide_eq_true_eq] at hq30
            refine xg1 (os := [(0 : Int) ≤ i ∧ i < (↑nc : Int), V.vp (List.drop (Int.toNat i * 1) cs) = V.vp (u8 u :: ru), (4 : Int) ≠ (0 : Int), u8 (Int.tmod u 4) = u8 (u % 4), u8 (u % 4) = u8 1]) [(2, ⟨some (V.vp (u8 u :: ru)), none⟩), (4, ⟨some (u8 (u % 4)), none⟩), (5, ⟨some (u8 1), none⟩)] [2, 3, 8, 9, 10, 11, 12, 13, 30, 31, 32] [9, 410005, 240002] (by kernel_rfl) ⟨(by omega), (congrArg V.vp (ku (by omega))), (by omega), (tm_ (by omega)), (in_eq wfu), trivial⟩ ?_
            refine xe0 [2, 3, 8, 9, 10, 11, 12, 13, 14, 30, 31, 32] [9, 14, 240002, 410005] (by kernel_rfl) ?_
            refine AWP.seq ?_
            refine xe0 [2, 3, 8, 9, 10, 11, 12, 13, 14, 30, 31, 32, 53] [9, 410005, 14, 240002] (by kernel_rfl) ?_
            refine AWP.cond (b := decide (i < (↑ns : Int))) (by kernel_rfl) (fun hq31 => ?_) (fun hq31 => ?_)
            · simp only [decide_eq_true_eq] at hq31
              refine xg1 (os := [(0 : Int) ≤ i ∧ i < (↑ns : Int), V.vp (List.drop (Int.toNat i * 1) ss) = V.vp (u16 v :: rv)]) [(2, ⟨some (V.vp (u16 v :: rv)), none⟩)] [2, 3, 8, 9, 10, 12, 13, 14, 30, 31, 32] [9, 410005, 14, 240002] (by kernel_rfl) ⟨(by omega), (congrArg V.vp (kv (by omega))), trivial⟩ ?_
              refine xe0 [2, 3, 8, 9, 10, 12, 13, 15, 30, 31, 32] [9, 410005, 14, 240002] (by kernel_rfl) ?_
              refine xe1 (os := [Con Try.prog 58 [(1000000000, Blk.mk [V.ptr 1000000002 0] false 1 none), (1000000001, Blk.mk [u16 v] true 1 none), (1000000002, Blk.mk [B8 D, B8 D, B8 D, V.val (Value.slice none 0 0)] true 4 none)] [u16 1, V.ptr 1000000001 0, V.ptr 1000000000 0] [(1000000000, Blk.mk [V.ptr 1000000002 0] false 1 none), (1000000001, Blk.mk [u16 v] true 1 none), (1000000002, Blk.mk [B8 A1, B8 B1, B8 C1, V.val (Value.slice none 0 0)] true 4 none)] (V.tup [])]) [(1, ⟨some (V.tup [V.sl 1000000000 9 0, V.sl 1000000001 14 0, V.sl 1000000002 240002 0]), some ⟨V.tup [], [(1000000000, Blk.mk [V.ptr 1000000002 0] false 1 none), (1000000001, Blk.mk [u16 v] true 1 none), (1000000002, Blk.mk [B8 A1, B8 B1, B8 C1, nilS] true 4 none)], []⟩⟩)] [2, 3, 8, 9, 10, 12, 13, 15, 30, 31, 32] [9, 410005, 14, 240002] (by kernel_rfl) ⟨(ch1 ), trivial⟩ ?_
              refine AWP.seq ?_
              refine AWP.seq ?_
              refine AWP.frz 410005 (s' := St.mk [(2, tp (V.vs cs nc)), (3, tp (V.vs ss ns)), (8, tp (vb false)), (9, tp (V.ptr 9 0)), (10, tp (B8 L)), (12, tp (B8 P)), (13, tp (u8 1)), (15, tp (V.clo (Fn.func 58) [] [V.ptr 14 0, V.ptr 9 0])), (30, tp (V.vs xs n)), (31, tp (i64 (↑n : Int))), (32, tp (i64 i))] [(9, Blk.mk [V.ptr 240002 0] false 1 none), (14, Blk.mk [u16 v] true 1 none), (240002, Blk.mk [B8 A1, B8 B1, B8 C1, V.val (Value.slice none 0 0)] true 4 none)]) (by kernel_rfl) ?_
              refine xg1 (os := [Con Try.prog 45 [(1000000000, Blk.mk [B8 A1, B8 B1, B8 C1, V.val (Value.slice none 0 0)] true 4 none)] [V.ptr 1000000000 0, B8 P] [(1000000000, Blk.mk [B8 E, B8 B1, B8 C1, B8 E] true 4 none)] (i64 0)]) [(5, ⟨some (V.tup [V.sl 1000000000 240002 0]), some ⟨i64 0, [(1000000000, Blk.mk [B8 E, B8 B1, B8 C1, B8 E] true 4 none)], []⟩⟩)] [2, 3, 8, 9, 10, 12, 13, 15, 30, 31, 32, 68] [9, 14, 240002] (by kernel_rfl) ⟨(cb ), trivial⟩ ?_
              refine AWP.condF (by kernel_rfl) ?_
              refine AWP.skip ?_
              refine xe1 (os := [Con Try.prog 58 [(1000000000, Blk.mk [V.ptr 1000000002 0] false 1 none), (1000000001, Blk.mk [u16 v] true 1 none), (1000000002, Blk.mk [B8 E, B8 B1, B8 C1, B8 E] true 4 none)] [u16 2, V.ptr 1000000001 0, V.ptr 1000000000 0] [(1000000000, Blk.mk [V.ptr 1000000002 0] false 1 none), (1000000001, Blk.mk [u16 v] true 1 none), (1000000002, Blk.mk [B8 A2, B8 B2, B8 C2, B8 E] true 4 none)] (V.tup [])]) [(1, ⟨some (V.tup [V.sl 1000000000 9 0, V.sl 1000000001 14 0, V.sl 1000000002 240002 0]), some ⟨V.tup [], [(1000000000, Blk.mk [V.ptr 1000000002 0] false 1 none), (1000000001, Blk.mk [u16 v] true 1 none), (1000000002, Blk.mk [B8 A2, B8 B2, B8 C2, B8 E] true 4 none)], []⟩⟩)] [2, 3, 8, 9, 10, 12, 13, 15, 30, 31, 32] [9, 14, 240002] (by kernel_rfl) ⟨(ch2 ), trivial⟩ ?_
              refine AWP.seq ?_
              refine xe1 (os := [false = true → False]) [(5, ⟨some (V.tup [vb false]), none⟩)] [2, 3, 8, 9, 10, 12, 13, 15, 30, 31, 32, 77] [9, 14, 240002] (by kernel_rfl) ⟨(by (intro hc0; first | (cases hc0; done) | (exfalso; simp_all; done) | ((try simp only [Bool.or_false, Bool.false_or, Bool.true_and, Bool.and_true, decide_eq_true_eq, decide_eq_false_iff_not, Bool.and_eq_true, Bool.or_eq_true, Bool.or_eq_false_iff, Bool.not_eq_true', Bool.and_eq_false_iff, beq_iff_eq, bne_iff_ne, bne_eq_false_iff_eq, beq_eq_false_iff_ne, Bool.not_eq_false'] at hc0); omega))), trivial⟩ ?_
              refine AWP.condF (by kernel_rfl) ?_
              refine AWP.skip ?_
              refine xe1 (os := [Con Try.prog 58 [(1000000000, Blk.mk [V.ptr 1000000002 0] false 1 none), (1000000001, Blk.mk [u16 v] true 1 none), (1000000002, Blk.mk [B8 A2, B8 B2, B8 C2, B8 E] true 4 none)] [u16 3, V.ptr 1000000001 0, V.ptr 1000000000 0] [(1000000000, Blk.mk [V.ptr 1000000002 0] false 1 none), (1000000001, Blk.mk [u16 v] true 1 none), (1000000002, Blk.mk [B8 A3, B8 B3, B8 C3, B8 E] true 4 none)] (V.tup [])]) [(1, ⟨some (V.tup [V.sl 1000000000 9 0, V.sl 1000000001 14 0, V.sl 1000000002 240002 0]), some ⟨V.tup [], [(1000000000, Blk.mk [V.ptr 1000000002 0] false 1 none), (1000000001, Blk.mk [u16 v] true 1 none), (1000000002, Blk.mk [B8 A3, B8 B3, B8 C3, B8 E] true 4 none)], []⟩⟩)] [2, 3, 8, 9, 10, 12, 13, 30, 31, 32] [9, 240002] (by kernel_rfl) ⟨(ch3 ), trivial⟩ ?_
              refine xe1 [(1, ⟨some (V.tup [V.sl 1000000000 240002 0]), some ⟨V.tup [], [(1000000000, Blk.mk [B8 A3, B8 B3, B8 C3, nilS] true 4 none)], []⟩⟩)] [2, 3, 8, 9, 10, 12, 13, 30, 31, 32] [9, 240002] (by kernel_rfl) (AllP.c (con_greset (B8 A3) (B8 B3) (B8 C3) (B8 E)) AllP.n) ?_
              refine xe1 (os := [VO (V.tup [u32 (cNo D), V.sl (1210005 : Nat) (0 : Nat) (List.length L), i64 (0 : Int)]), VOH [((1210005 : Nat), Blk.mk (u8s L) true (0 : Nat) (some ((5 : Nat), (1 : Nat))))], Con Try.prog 47 [] [V.vp [B8 A3, B8 B3, B8 C3, V.val (Value.slice none 0 0)]] [(1210005, Blk.mk (u8s L) true 0 (some (5, 1)))] (V.tup [u32 (cNo D), V.sl 1210005 0 (List.length L), i64 0])]) [(1, ⟨none, some ⟨V.tup [u32 (cNo D), V.sl 1210005 0 (List.length L), i64 0], [(1210005, Blk.mk (u8s L) true 0 (some (5, 1)))], [(240002, true)]⟩⟩)] [2, 3, 8, 9, 10, 12, 13, 17, 18, 30, 31, 32] [9, 2060005, 240002] (by kernel_rfl) ⟨(VO.tup (VOL.cons (VO.val _) (VOL.cons (VO.sl _ _ _) (VOL.cons (VO.val _) VOL.nil)))), ⟨(VOL.u8s _), trivial⟩, (cr ), trivial⟩ ?_
              refine AWP.seq ?_
              refine xe1 (os := [false = false → VO (vb (decide (L = L))) ∧ VOH [] ∧ Con Try.prog (23 : Nat) [] [B8 L, B8 L] [] (vb (decide (L = L))) ∧ (0 : Nat) = (0 : Nat) ∧ List.length L * (1 : Nat) = List.length (u8s L) ∧ True, false = false → (!decide (L = L)) = true → false = false → VO (vb (decide (L = P))) ∧ VOH [] ∧ Con Try.prog (23 : Nat) [] [B8 L, B8 P] [] (vb (decide (L = P))) ∧ (0 : Nat) = (0 : Nat) ∧ List.length L * (1 : Nat) = List.length (u8s L) ∧ True, false = true → (false || !decide (L = L) && (false || !decide (L = P))) = false → VO (vb (decide (L = P))) ∧ VOH [] ∧ Con Try.prog (23 : Nat) [] [B8 L, B8 P] [] (vb (decide (L = P))) ∧ (0 : Nat) = (0 : Nat) ∧ List.length L * (1 : Nat) = List.length (u8s L) ∧ True]) [(5, ⟨none, some ⟨vb (decide (L = L)), [], [(2060005, true)]⟩⟩), (13, ⟨none, some ⟨vb (decide (L = P)), [], [(2060005, true)]⟩⟩), (24, ⟨none, some ⟨vb (decide (L = P)), [], [(2060005, true)]⟩⟩)] [2, 3, 8, 9, 10, 17, 30, 31, 32, 115] [9, 2060005, 240002] (by kernel_rfl) ⟨(by intro hc0; first | (cases hc0; done) | ((try simp only [Bool.or_false, Bool.false_or, Bool.true_and, Bool.and_true, decide_eq_true_eq, decide_eq_false_iff_not, Bool.and_eq_true, Bool.or_eq_true, Bool.or_eq_false_iff, Bool.not_eq_true', Bool.and_eq_false_iff, beq_iff_eq, bne_iff_ne, bne_eq_false_iff_eq, beq_eq_false_iff_ne, Bool.not_eq_false'] at hc0); exact ⟨(VO.val _), trivial, (con_samen (L) (L) (List.length L) (List.length L) (by omega) (by omega) (by omega) (by omega)), (by omega), (by (simp [len_u8s]; done)), trivial⟩)), (by intro hc0 hc1 hc2; first | (cases hc0; done) | ((try simp only [Bool.or_false, Bool.false_or, Bool.true_and, Bool.and_true, decide_eq_true_eq, decide_eq_false_iff_not, Bool.and_eq_true, Bool.or_eq_true, Bool.or_eq_false_iff, Bool.not_eq_true', Bool.and_eq_false_iff, beq_iff_eq, bne_iff_ne, bne_eq_false_iff_eq, beq_eq_false_iff_ne, Bool.not_eq_false'] at hc0 hc1 hc2); exact ⟨(VO.val _), trivial, (con_samen (L) (P) (List.length L) (List.length P) (by omega) (by omega) (by omega) (by omega)), (by omega), (by (simp [len_u8s]; done)), trivial⟩)), (by intro hc0 hc1; first | (cases hc0; done) | ((try simp only [Bool.or_false, Bool.false_or, Bool.true_and, Bool.and_true, decide_eq_true_eq, decide_eq_false_iff_not, Bool.and_eq_true, Bool.or_eq_true, Bool.or_eq_false_iff, Bool.not_eq_true', Bool.and_eq_false_iff, beq_iff_eq, bne_iff_ne, bne_eq_false_iff_eq, beq_eq_false_iff_ne, Bool.not_eq_false'] at hc0 hc1); exact ⟨(VO.val _), trivial, (con_samen (L) (P) (List.length L) (List.length P) (by omega) (by omega) (by omega) (by omega)), (by omega), (by (simp [len_u8s]; done)), trivial⟩)), trivial⟩ ?_
              refine AWP.cond (b := false || !decide (L = L) && (false || !decide (L = P)) || false) (by kernel_rfl) (fun hq34 => ?_) (fun hq34 => ?_)
              · simp only [Bool.or_false, Bool.false_or, decide_eq_false_iff_not, Bool.and_eq_true, Bool.not_eq_true'] at hq34
                (simp [bl] at hq34; done)
              simp only [Bool.or_false, Bool.false_or, decide_eq_true_eq, Bool.and_eq_false_iff, Bool.not_eq_false'] at hq34
              refine AWP.skip ?_
              refine xe0 [2, 3, 8, 9, 10, 30, 31, 32] [9, 2060005, 240002] (by kernel_rfl) ?_
              refine xe1 (os := [Con Try.prog 48 [(1000000000, Blk.mk [B8 A3, B8 B3, B8 C3, V.val (Value.slice none 0 0)] true 4 none)] [V.ptr 1000000000 0] [(1000000000, Blk.mk [B8 D, B8 D, B8 D, V.val (Value.slice none 0 0)] true 4 none)] (V.tup [i64 (nq A3 D + nq B3 D + nq C3 D), i64 0])]) [(1, ⟨some (V.tup [V.sl 1000000000 240002 0]), some ⟨V.tup [i64 (nq A3 D + nq B3 D + nq C3 D), i64 0], [(1000000000, Blk.mk [B8 D, B8 D, B8 D, nilS] true 4 none)], []⟩⟩)] [2, 3, 8, 9, 10, 20, 30, 31, 32] [9, 2060005, 240002] (by kernel_rfl) ⟨(cs2 ), trivial⟩ ?_
              refine xe0 [2, 3, 8, 9, 10, 30, 31, 32, 123] [9, 2060005, 240002] (by kernel_rfl) ?_
              refine AWP.condF (by kernel_rfl) ?_
              refine AWP.skip ?_
              refine AWP.frz 2060005 (s' := St.mk [(2, tp (V.vs cs nc)), (3, tp (V.vs ss ns)), (8, tp (vb false)), (9, tp (V.ptr 9 0)), (10, tp (B8 L)), (30, tp (V.vs xs n)), (31, tp (i64 (↑n : Int))), (32, tp (i64 i)), (123, tp (vb false))] [(9, Blk.mk [V.ptr 240002 0] false 1 none), (240002, Blk.mk [B8 D, B8 D, B8 D, V.val (Value.slice none 0 0)] true 4 none)]) (by kernel_rfl) ?_
              refine AWP.region tcok hmix [(0, ⟨some (i64 (i + 1)), none⟩)] (os := [i64 (IntKind.wrap IntKind.i64 (i + 1)) = i64 (i + 1)]) (sf := St.mk [(2, tp (V.vs cs nc)), (3, tp (V.vs ss ns)), (8, tp (vb false)), (9, tp (V.ptr 9 0)), (10, tp (B8 L)), (30, tp (V.vs xs n)), (31, tp (i64 (↑n : Int))), (32, tp (i64 (i + 1))), (123, tp (vb false)), (124, tp (i64 (i + 1)))] [(9, Blk.mk [V.ptr 240002 0] false 1 none), (240002, Blk.mk [B8 D, B8 D, B8 D, V.val (Value.slice none 0 0)] true 4 none)]) (by kernel_rfl) ⟨(wr_i64 (by omega) (by omega)), trivial⟩ ?_
              refine ⟨St.mk [(2, tp (V.vs cs nc)), (3, tp (V.vs ss ns)), (8, tp (vb false)), (9, tp (V.ptr 9 0)), (10, tp (B8 L)), (30, tp (V.vs xs n)), (31, tp (i64 (↑n : Int))), (32, tp (i64 (i + 1)))] [(9, Blk.mk [V.ptr 240002 0] false 1 none), (240002, Blk.mk [B8 D, B8 D, B8 D, V.val (Value.slice none 0 0)] true 4 none)], by kernel_rfl, ?_⟩
              (exact ⟨(n - (i + 1)).toNat, (by omega), i + 1, s, L, D, rfl, hD, hLb, hLl, (by omega), (by omega), (by omega), (by omega), (by omega)⟩)
            simp only [decide_eq_false_iff_not] at hq31
            (exfalso; omega)
          simp only [decide_eq_false_iff_not] at hq30
          (exfalso; omega)
        simp only [decide_eq_false_iff_not] at hq28
        (exfalso; omega)
    · obtain ⟨A1, B1, C1, A2, B2, C2, h1t, gA1, gB1, gC1, ht, h2t, gA2, gB2, gC2, q1, q2⟩ := hold_a (v := v) hv gD gE dE eE hgt
      rw [dN] at ht
      have ch1 := con_hitn 1 v _ _ _ _ _ _ hv gD gD gD h1t
      have cb := con_gbegin_y A1 B1 C1 gA1.1 gB1.1 gC1.1 (by have := gA1.2.2; omega) (by have := gB1.2.2; omega) (by have := gC1.2.2; omega) P P.length hPb rfl E (by rw [ht]; exact hE) (by omega) (by omega)
      have ch2 := con_hitp 2 v _ _ _ _ _ _ E hv gE gB1 gC1 h2t
      obtain ⟨A3, B3, C3, k, m, h3t, gA3, gB3, gC3, hv2, hk, hm⟩ := q2
      have ch3 := con_hitp 3 v _ _ _ _ _ _ E hv gA2 gB2 gC2 h3t
      rcases hm with hm | hm
      · rw [hm] at hv2
        have cr := (con_gread_y A3 B3 C3 gA3.1 gB3.1 gC3.1 (by have := gA3.2.2; omega) (by have := gB3.2.2; omega) (by have := gC3.2.2; omega) nilS _ k hv2 hk)
        rw [eP] at cr
        have cs2 := con_gscrub_y A3 B3 C3 gA3.1 gB3.1 gC3.1 (by have := gA3.2.2; omega) (by have := gB3.2.2; omega) (by have := gC3.2.2; omega) _ k hv2 hk
        refine xe0 [2, 3, 8, 9, 10, 30, 31, 32, 33] [9, 240002] (by kernel_rfl) ?_
        refine AWP.seq ?_
        refine AWP.cond (b := decide (i < (↑n : Int))) (by kernel_rfl) (fun hq36 => ?_) (fun hq36 => ?_)
        · simp only [decide_eq_true_eq] at hq36
          refine AWP.skip ?_
          refine AWP.seq ?_
          refine AWP.block ?_
          refine xe1 (os := [(0 : Int) ≤ i ∧ i < (↑n : Int), V.vp (List.drop (Int.toNat i * 1) xs) = V.vp (B8 c :: r)]) [(1, ⟨some (V.vp (B8 c :: r)), none⟩)] [2, 3, 8, 9, 10, 11, 12, 30, 31, 32] [9, 240002] (by kernel_rfl) ⟨(by omega), (congrArg V.vp kx1), trivial⟩ ?_
          refine AWP.seq ?_
          refine xe0 [2, 3, 8, 9, 10, 11, 12, 30, 31, 32, 38] [9, 240002] (by kernel_rfl) ?_
          refine AWP.cond (b := decide (i ≥ 12)) (by kernel_rfl) (fun hq37 => ?_) (fun hq37 => ?_)
          · simp only [decide_eq_true_eq] at hq37
            (exfalso; omega)
          simp only [decide_eq_false_iff_not] at hq37
          refine AWP.skip ?_
          refine xe1 (os := [Con Try.prog 18 [] [B8 c, i64 100] [(5, Blk.mk (u8s P) true 0 (some (5, 1)))] (V.sl 5 0 (List.length P))]) [(1, ⟨none, some ⟨V.sl 5 0 (List.length P), [(5, Blk.mk (u8s P) true 0 (some (5, 1)))], []⟩⟩)] [2, 3, 8, 9, 10, 11, 12, 30, 31, 32] [9, 410005, 240002] (by kernel_rfl) ⟨(hcut ), trivial⟩ ?_
          refine xe0 [2, 3, 8, 9, 10, 11, 12, 13, 30, 31, 32] [9, 240002, 410005] (by kernel_rfl) ?_
          refine AWP.seq ?_
          refine xe0 [2, 3, 8, 9, 10, 11, 12, 13, 30, 31, 32, 44] [9, 410005, 240002] (by kernel_rfl) ?_
          refine AWP.cond (b := decide (i < (↑nc : Int))) (by kernel_rfl) (fun hq38 => ?_) (fun hq38 => ?_)
          · simp only [decide_eq_true_eq] at hq38
            refine xg1 (os := [(0 : Int) ≤ i ∧ i < (↑nc : Int), V.vp (List.drop (Int.toNat i * 1) cs) = V.vp (u8 u :: ru), (4 : Int) ≠ (0 : Int), u8 (Int.tmod u 4) = u8 (u % 4), u8 (u % 4) = u8 2]) [(2, ⟨some (V.vp (u8 u :: ru)), none⟩), (4, ⟨some (u8 (u % 4)), none⟩), (5, ⟨some (u8 2), none⟩)] [2, 3, 8, 9, 10, 11, 12, 13, 30, 31, 32] [9, 410005, 240002] (by kernel_rfl) ⟨(by omega), (congrArg V.vp (ku (by omega))), (by omega), (tm_ (by omega)), (in_eq wfu), trivial⟩ ?_
            refine xe0 [2, 3, 8, 9, 10, 11, 12, 13, 14, 30, 31, 32] [9, 14, 240002, 410005] (by kernel_rfl) ?_
            refine AWP.seq ?_
            refine xe0 [2, 3, 8, 9, 10, 11, 12, 13, 14, 30, 31, 32, 53] [9, 410005, 14, 240002] (by kernel_rfl) ?_
            refine AWP.cond (b := decide (i < (↑ns : Int))) (by kernel_rfl) (fun hq39 => ?_) (fun hq39 => ?_)
            · simp only [decide_eq_true_eq] at hq39
              refine xg1 (os := [(0 : Int) ≤ i ∧ i < (↑ns : Int), V.vp (List.drop (Int.toNat i * 1) ss) = V.vp (u16 v :: rv)]) [(2, ⟨some (V.vp (u16 v :: rv)), none⟩)] [2, 3, 8, 9, 10, 12, 13, 14, 30, 31, 32] [9, 410005, 14, 240002] (by kernel_rfl) ⟨(by omega), (congrArg V.vp (kv (by omega))), trivial⟩ ?_
              refine xe0 [2, 3, 8, 9, 10, 12, 13, 15, 30, 31, 32] [9, 410005, 14, 240002] (by kernel_rfl) ?_
              refine xe1 (os := [Con Try.prog 58 [(1000000000, Blk.mk [V.ptr 1000000002 0] false 1 none), (1000000001, Blk.mk [u16 v] true 1 none), (1000000002, Blk.mk [B8 D, B8 D, B8 D, V.val (Value.slice none 0 0)] true 4 none)] [u16 1, V.ptr 1000000001 0, V.ptr 1000000000 0] [(1000000000, Blk.mk [V.ptr 1000000002 0] false 1 none), (1000000001, Blk.mk [u16 v] true 1 none), (1000000002, Blk.mk [B8 A1, B8 B1, B8 C1, V.val (Value.slice none 0 0)] true 4 none)] (V.tup [])]) [(1, ⟨some (V.tup [V.sl 1000000000 9 0, V.sl 1000000001 14 0, V.sl 1000000002 240002 0]), some ⟨V.tup [], [(1000000000, Blk.mk [V.ptr 1000000002 0] false 1 none), (1000000001, Blk.mk [u16 v] true 1 none), (1000000002, Blk.mk [B8 A1, B8 B1, B8 C1, nilS] true 4 none)], []⟩⟩)] [2, 3, 8, 9, 10, 12, 13, 15, 30, 31, 32] [9, 410005, 14, 240002] (by kernel_rfl) ⟨(ch1 ), trivial⟩ ?_
              refine AWP.seq ?_
              refine AWP.seq ?_
              refine AWP.frz 410005 (s' := St.mk [(2, tp (V.vs cs nc)), (3, tp (V.vs ss ns)), (8, tp (vb false)), (9, tp (V.ptr 9 0)), (10, tp (B8 L)), (12, tp (B8 P)), (13, tp (u8 2)), (15, tp (V.clo (Fn.func 58) [] [V.ptr 14 0, V.ptr 9 0])), (30, tp (V.vs xs n)), (31, tp (i64 (↑n : Int))), (32, tp (i64 i))] [(9, Blk.mk [V.ptr 240002 0] false 1 none), (14, Blk.mk [u16 v] true 1 none), (240002, Blk.mk [B8 A1, B8 B1, B8 C1, V.val (Value.slice none 0 0)] true 4 none)]) (by kernel_rfl) ?_
              refine xg1 (os := [Con Try.prog 45 [(1000000000, Blk.mk [B8 A1, B8 B1, B8 C1, V.val (Value.slice none 0 0)] true 4 none)] [V.ptr 1000000000 0, B8 P] [(1000000000, Blk.mk [B8 E, B8 B1, B8 C1, B8 E] true 4 none)] (i64 0)]) [(5, ⟨some (V.tup [V.sl 1000000000 240002 0]), some ⟨i64 0, [(1000000000, Blk.mk [B8 E, B8 B1, B8 C1, B8 E] true 4 none)], []⟩⟩)] [2, 3, 8, 9, 10, 12, 13, 15, 30, 31, 32, 68] [9, 14, 240002] (by kernel_rfl) ⟨(cb ), trivial⟩ ?_
              refine AWP.condF (by kernel_rfl) ?_
              refine AWP.skip ?_
              refine xe1 (os := [Con Try.prog 58 [(1000000000, Blk.mk [V.ptr 1000000002 0] false 1 none), (1000000001, Blk.mk [u16 v] true 1 none), (1000000002, Blk.mk [B8 E, B8 B1, B8 C1, B8 E] true 4 none)] [u16 2, V.ptr 1000000001 0, V.ptr 1000000000 0] [(1000000000, Blk.mk [V.ptr 1000000002 0] false 1 none), (1000000001, Blk.mk [u16 v] true 1 none), (1000000002, Blk.mk [B8 A2, B8 B2, B8 C2, B8 E] true 4 none)] (V.tup [])]) [(1, ⟨some (V.tup [V.sl 1000000000 9 0, V.sl 1000000001 14 0, V.sl 1000000002 240002 0]), some ⟨V.tup [], [(1000000000, Blk.mk [V.ptr 1000000002 0] false 1 none), (1000000001, Blk.mk [u16 v] true 1 none), (1000000002, Blk.mk [B8 A2, B8 B2, B8 C2, B8 E] true 4 none)], []⟩⟩)] [2, 3, 8, 9, 10, 12, 13, 15, 30, 31, 32] [9, 14, 240002] (by kernel_rfl) ⟨(ch2 ), trivial⟩ ?_
              refine AWP.seq ?_
              refine xe1 (os := [false = true → False]) [(5, ⟨some (V.tup [vb false]), none⟩)] [2, 3, 8, 9, 10, 12, 13, 15, 30, 31, 32, 77] [9, 14, 240002] (by kernel_rfl) ⟨(by (intro hc0; first | (cases hc0; done) | (exfalso; simp_all; done) | ((try simp only [Bool.or_false, Bool.false_or, Bool.true_and, Bool.and_true, decide_eq_true_eq, decide_eq_false_iff_not, Bool.and_eq_true, Bool.or_eq_true, Bool.or_eq_false_iff, Bool.not_eq_true', Bool.and_eq_false_iff, beq_iff_eq, bne_iff_ne, bne_eq_false_iff_eq, beq_eq_false_iff_ne, Bool.not_eq_false'] at hc0); omega))), trivial⟩ ?_
              refine AWP.condF (by kernel_rfl) ?_
              refine AWP.skip ?_
              refine xe1 (os := [Con Try.prog 58 [(1000000000, Blk.mk [V.ptr 1000000002 0] false 1 none), (1000000001, Blk.mk [u16 v] true 1 none), (1000000002, Blk.mk [B8 A2, B8 B2, B8 C2, B8 E] true 4 none)] [u16 3, V.ptr 1000000001 0, V.ptr 1000000000 0] [(1000000000, Blk.mk [V.ptr 1000000002 0] false 1 none), (1000000001, Blk.mk [u16 v] true 1 none), (1000000002, Blk.mk [B8 A3, B8 B3, B8 C3, B8 E] true 4 none)] (V.tup [])]) [(1, ⟨some (V.tup [V.sl 1000000000 9 0, V.sl 1000000001 14 0, V.sl 1000000002 240002 0]), some ⟨V.tup [], [(1000000000, Blk.mk [V.ptr 1000000002 0] false 1 none), (1000000001, Blk.mk [u16 v] true 1 none), (1000000002, Blk.mk [B8 A3, B8 B3, B8 C3, B8 E] true 4 none)], []⟩⟩)] [2, 3, 8, 9, 10, 12, 13, 30, 31, 32] [9, 240002] (by kernel_rfl) ⟨(ch3 ), trivial⟩ ?_
              refine xe1 [(1, ⟨some (V.tup [V.sl 1000000000 240002 0]), some ⟨V.tup [], [(1000000000, Blk.mk [B8 A3, B8 B3, B8 C3, nilS] true 4 none)], []⟩⟩)] [2, 3, 8, 9, 10, 12, 13, 30, 31, 32] [9, 240002] (by kernel_rfl) (AllP.c (con_greset (B8 A3) (B8 B3) (B8 C3) (B8 E)) AllP.n) ?_
              refine xe1 (os := [VO (V.tup [u32 (cNo E), V.sl (1210005 : Nat) (0 : Nat) (List.length P), i64 (0 : Int)]), VOH [((1210005 : Nat), Blk.mk (u8s P) true (0 : Nat) (some ((5 : Nat), (1 : Nat))))], Con Try.prog 47 [] [V.vp [B8 A3, B8 B3, B8 C3, V.val (Value.slice none 0 0)]] [(1210005, Blk.mk (u8s P) true 0 (some (5, 1)))] (V.tup [u32 (cNo E), V.sl 1210005 0 (List.length P), i64 0])]) [(1, ⟨none, some ⟨V.tup [u32 (cNo E), V.sl 1210005 0 (List.length P), i64 0], [(1210005, Blk.mk (u8s P) true 0 (some (5, 1)))], [(240002, true)]⟩⟩)] [2, 3, 8, 9, 10, 12, 13, 17, 18, 30, 31, 32] [9, 2060005, 240002] (by kernel_rfl) ⟨(VO.tup (VOL.cons (VO.val _) (VOL.cons (VO.sl _ _ _) (VOL.cons (VO.val _) VOL.nil)))), ⟨(VOL.u8s _), trivial⟩, (cr ), trivial⟩ ?_
              refine AWP.seq ?_
              refine xe1 (os := [false = false → VO (vb (decide (P = L))) ∧ VOH [] ∧ Con Try.prog (23 : Nat) [] [B8 P, B8 L] [] (vb (decide (P = L))) ∧ (0 : Nat) = (0 : Nat) ∧ List.length P * (1 : Nat) = List.length (u8s P) ∧ True, false = false → (!decide (P = L)) = true → false = false → VO (vb (decide (P = P))) ∧ VOH [] ∧ Con Try.prog (23 : Nat) [] [B8 P, B8 P] [] (vb (decide (P = P))) ∧ (0 : Nat) = (0 : Nat) ∧ List.length P * (1 : Nat) = List.length (u8s P) ∧ True, false = true → (false || !decide (P = L) && (false || !decide (P = P))) = false → VO (vb (decide (P = P))) ∧ VOH [] ∧ Con Try.prog (23 : Nat) [] [B8 P, B8 P] [] (vb (decide (P = P))) ∧ (0 : Nat) = (0 : Nat) ∧ List.length P * (1 : Nat) = List.length (u8s P) ∧ True]) [(5, ⟨none, some ⟨vb (decide (P = L)), [], [(2060005, true)]⟩⟩), (13, ⟨none, some ⟨vb (decide (P = P)), [], [(2060005, true)]⟩⟩), (24, ⟨none, some ⟨vb (decide (P = P)), [], [(2060005, true)]⟩⟩)] [2, 3, 8, 9, 10, 17, 30, 31, 32, 115] [9, 2060005, 240002] (by kernel_rfl) ⟨(by intro hc0; first | (cases hc0; done) | ((try simp only [Bool.or_false, Bool.false_or, Bool.true_and, Bool.and_true, decide_eq_true_eq, decide_eq_false_iff_not, Bool.and_eq_true, Bool.or_eq_true, Bool.or_eq_false_iff, Bool.not_eq_true', Bool.and_eq_false_iff, beq_iff_eq, bne_iff_ne, bne_eq_false_iff_eq, beq_eq_false_iff_ne, Bool.not_eq_false'] at hc0); exact ⟨(VO.val _), trivial, (con_samen (P) (L) (List.length P) (List.length L) (by omega) (by omega) (by omega) (by omega)), (by omega), (by (simp [len_u8s]; done)), trivial⟩)), (by intro hc0 hc1 hc2; first | (cases hc0; done) | ((try simp only [Bool.or_false, Bool.false_or, Bool.true_and, Bool.and_true, decide_eq_true_eq, decide_eq_false_iff_not, Bool.and_eq_true, Bool.or_eq_true, Bool.or_eq_false_iff, Bool.not_eq_true', Bool.and_eq_false_iff, beq_iff_eq, bne_iff_ne, bne_eq_false_iff_eq, beq_eq_false_iff_ne, Bool.not_eq_false'] at hc0 hc1 hc2); exact ⟨(VO.val _), trivial, (con_samen (P) (P) (List.length P) (List.length P) (by omega) (by omega) (by omega) (by omega)), (by omega), (by (simp [len_u8s]; done)), trivial⟩)), (by intro hc0 hc1; first | (cases hc0; done) | ((try simp only [Bool.or_false, Bool.false_or, Bool.true_and, Bool.and_true, decide_eq_true_eq, decide_eq_false_iff_not, Bool.and_eq_true, Bool.or_eq_true, Bool.or_eq_false_iff, Bool.not_eq_true', Bool.and_eq_false_iff, beq_iff_eq, bne_iff_ne, bne_eq_false_iff_eq, beq_eq_false_iff_ne, Bool.not_eq_false'] at hc0 hc1); exact ⟨(VO.val _), trivial, (con_samen (P) (P) (List.length P) (List.length P) (by omega) (by omega) (by omega) (by omega)), (by omega), (by (simp [len_u8s]; done)), trivial⟩)), trivial⟩ ?_
              refine AWP.cond (b := false || !decide (P = L) && (false || !decide (P = P)) || false) (by kernel_rfl) (fun hq42 => ?_) (fun hq42 => ?_)
              · simp only [Bool.or_false, Bool.false_or, decide_eq_false_iff_not, Bool.and_eq_true, Bool.not_eq_true'] at hq42
                (simp [bl] at hq42; done)
              simp only [Bool.or_false, Bool.false_or, decide_eq_true_eq, Bool.and_eq_false_iff, Bool.not_eq_false'] at hq42
              refine AWP.skip ?_
              refine xe0 [2, 3, 8, 9, 10, 30, 31, 32] [9, 2060005, 240002] (by kernel_rfl) ?_
              refine xe1 (os := [Con Try.prog 48 [(1000000000, Blk.mk [B8 A3, B8 B3, B8 C3, V.val (Value.slice none 0 0)] true 4 none)] [V.ptr 1000000000 0] [(1000000000, Blk.mk [B8 E, B8 E, B8 E, V.val (Value.slice none 0 0)] true 4 none)] (V.tup [i64 (nq A3 E + nq B3 E + nq C3 E), i64 0])]) [(1, ⟨some (V.tup [V.sl 1000000000 240002 0]), some ⟨V.tup [i64 (nq A3 E + nq B3 E + nq C3 E), i64 0], [(1000000000, Blk.mk [B8 E, B8 E, B8 E, nilS] true 4 none)], []⟩⟩)] [2, 3, 8, 9, 10, 20, 30, 31, 32] [9, 2060005, 240002] (by kernel_rfl) ⟨(cs2 ), trivial⟩ ?_
              refine xe0 [2, 3, 8, 9, 10, 30, 31, 32, 123] [9, 2060005, 240002] (by kernel_rfl) ?_
              refine AWP.condF (by kernel_rfl) ?_
              refine AWP.skip ?_
              refine AWP.frz 2060005 (s' := St.mk [(2, tp (V.vs cs nc)), (3, tp (V.vs ss ns)), (8, tp (vb false)), (9, tp (V.ptr 9 0)), (10, tp (B8 P)), (30, tp (V.vs xs n)), (31, tp (i64 (↑n : Int))), (32, tp (i64 i)), (123, tp (vb false))] [(9, Blk.mk [V.ptr 240002 0] false 1 none), (240002, Blk.mk [B8 E, B8 E, B8 E, V.val (Value.slice none 0 0)] true 4 none)]) (by kernel_rfl) ?_
              refine AWP.region tcok hmix [(0, ⟨some (i64 (i + 1)), none⟩)] (os := [i64 (IntKind.wrap IntKind.i64 (i + 1)) = i64 (i + 1)]) (sf := St.mk [(2, tp (V.vs cs nc)), (3, tp (V.vs ss ns)), (8, tp (vb false)), (9, tp (V.ptr 9 0)), (10, tp (B8 P)), (30, tp (V.vs xs n)), (31, tp (i64 (↑n : Int))), (32, tp (i64 (i + 1))), (123, tp (vb false)), (124, tp (i64 (i + 1)))] [(9, Blk.mk [V.ptr 240002 0] false 1 none), (240002, Blk.mk [B8 E, B8 E, B8 E, V.val (Value.slice none 0 0)] true 4 none)]) (by kernel_rfl) ⟨(wr_i64 (by omega) (by omega)), trivial⟩ ?_
              refine ⟨St.mk [(2, tp (V.vs cs nc)), (3, tp (V.vs ss ns)), (8, tp (vb false)), (9, tp (V.ptr 9 0)), (10, tp (B8 P)), (30, tp (V.vs xs n)), (31, tp (i64 (↑n : Int))), (32, tp (i64 (i + 1)))] [(9, Blk.mk [V.ptr 240002 0] false 1 none), (240002, Blk.mk [B8 E, B8 E, B8 E, V.val (Value.slice none 0 0)] true 4 none)], by kernel_rfl, ?_⟩
              (exact ⟨(n - (i + 1)).toNat, (by omega), i + 1, s + 1, P, E, rfl, hE, hPb, hPl, (by omega), (by omega), (by omega), (by omega), (by omega)⟩)
            simp only [decide_eq_false_iff_not] at hq39
            (exfalso; omega)
          simp only [decide_eq_false_iff_not] at hq38
          (exfalso; omega)
        simp only [decide_eq_false_iff_not] at hq36
        (exfalso; omega)
      · rw [hm] at hv2
        have cr := (con_gread_y A3 B3 C3 gA3.1 gB3.1 gC3.1 (by have := gA3.2.2; omega) (by have := gB3.2.2; omega) (by have := gC3.2.2; omega) nilS _ k hv2 hk)
        rw [dP] at cr
        have cs2 := con_gscrub_y A3 B3 C3 gA3.1 gB3.1 gC3.1 (by have := gA3.2.2; omega) (by have := gB3.2.2; omega) (by have := gC3.2.2; omega) _ k hv2 hk
        refine xe0 [2, 3, 8, 9, 10, 30, 31, 32, 33] [9, 240002] (by kernel_rfl) ?_
        refine AWP.seq ?_
        refine AWP.cond (b := decide (i < (↑n : Int))) (by kernel_rfl) (fun hq44 => ?_) (fun hq44 => ?_)
        · simp only [decide_eq_true_eq] at hq44
          refine AWP.skip ?_
          refine AWP.seq ?_
          refine AWP.block ?_
          refine xe1 (os := [(0 : Int) ≤ i ∧ i < (↑n : Int), V.vp (List.drop (Int.toNat i * 1) xs) = V.vp (B8 c :: r)]) [(1, ⟨some (V.vp (B8 c :: r)), none⟩)] [2, 3, 8, 9, 10, 11, 12, 30, 31, 32] [9, 240002] (by kernel_rfl) ⟨(by omega), (congrArg V.vp kx1), trivial⟩ ?_
          refine AWP.seq ?_
          refine xe0 [2, 3, 8, 9, 10, 11, 12, 30, 31, 32, 38] [9, 240002] (by kernel_rfl) ?_
          refine AWP.cond (b := decide (i ≥ 12)) (by kernel_rfl) (fun hq45 => ?_) (fun hq45 => ?_)
          · simp only [decide_eq_true_eq] at hq45
            (exfalso; omega)
          simp only [decide_eq_false_iff_not] at hq45
          refine AWP.skip ?_
          refine xe1 (os := [Con Try.prog 18 [] [B8 c, i64 100] [(5, Blk.mk (u8s P) true 0 (some (5, 1)))] (V.sl 5 0 (List.length P))]) [(1, ⟨none, some ⟨V.sl 5 0 (List.length P), [(5, Blk.mk (u8s P) true 0 (some (5, 1)))], []⟩⟩)] [2, 3, 8, 9, 10, 11, 12, 30, 31, 32] [9, 410005, 240002] (by kernel_rfl) ⟨(hcut ), trivial⟩ ?_
          refine xe0 [2, 3, 8, 9, 10, 11, 12, 13, 30, 31, 32] [9, 240002, 410005] (by kernel_rfl) ?_
          refine AWP.seq ?_
          refine xe0 [2, 3, 8, 9, 10, 11, 12, 13, 30, 31, 32, 44] [9, 410005, 240002] (by kernel_rfl) ?_
          refine AWP.cond (b := decide (i < (↑nc : Int))) (by kernel_rfl) (fun hq46 => ?_) (fun hq46 => ?_)
          · simp only [decide_eq_true_eq] at hq46
            refine xg1 (os := [(0 : Int) ≤ i ∧ i < (↑nc : Int), V.vp (List.drop (Int.toNat i * 1) cs) = V.vp (u8 u :: ru), (4 : Int) ≠ (0 : Int), u8 (Int.tmod u 4) = u8 (u % 4), u8 (u % 4) = u8 2]) [(2, ⟨some (V.vp (u8 u :: ru)), none⟩), (4, ⟨some (u8 (u % 4)), none⟩), (5, ⟨some (u8 2), none⟩)] [2, 3, 8, 9, 10, 11, 12, 13, 30, 31, 32] [9, 410005, 240002] (by kernel_rfl) ⟨(by omega), (congrArg V.vp (ku (by omega))), (by omega), (tm_ (by omega)), (in_eq wfu), trivial⟩ ?_
            refine xe0 [2, 3, 8, 9, 10, 11, 12, 13, 14, 30, 31, 32] [9, 14, 240002, 410005] (by kernel_rfl) ?_
            refine AWP.seq ?_
            refine xe0 [2, 3, 8, 9, 10, 11, 12, 13, 14, 30, 31, 32, 53] [9, 410005, 14, 240002] (by kernel_rfl) ?_
            refine AWP.cond (b := decide (i < (↑ns : Int))) (by kernel_rfl) (fun hq47 => ?_) (fun hq47 => ?_)
            · simp only [decide_eq_true_eq] at hq47
              refine xg1 (os := [(0 : Int) ≤ i ∧ i < (↑ns : Int), V.vp (List.drop (Int.toNat i * 1) ss) = V.vp (u16 v :: rv)]) [(2, ⟨some (V.vp (u16 v :: rv)), none⟩)] [2, 3, 8, 9, 10, 12, 13, 14, 30, 31, 32] [9, 410005, 14, 240002] (by kernel_rfl) ⟨(by omega), (congrArg V.vp (kv (by omega))), trivial⟩ ?_
              refine xe0 [2, 3, 8, 9, 10, 12, 13, 15, 30, 31, 32] [9, 410005, 14, 240002] (by kernel_rfl) ?_
              refine xe1 (os := [Con Try.prog 58 [(1000000000, Blk.mk [V.ptr 1000000002 0] false 1 none), (1000000001, Blk.mk [u16 v] true 1 none), (1000000002, Blk.mk [B8 D, B8 D, B8 D, V.val (Value.slice none 0 0)] true 4 none)] [u16 1, V.ptr 1000000001 0, V.ptr 1000000000 0] [(1000000000, Blk.mk [V.ptr 1000000002 0] false 1 none), (1000000001, Blk.mk [u16 v] true 1 none), (1000000002, Blk.mk [B8 A1, B8 B1, B8 C1, V.val (Value.slice none 0 0)] true 4 none)] (V.tup [])]) [(1, ⟨some (V.tup [V.sl 1000000000 9 0, V.sl 1000000001 14 0, V.sl 1000000002 240002 0]), some ⟨V.tup [], [(1000000000, Blk.mk [V.ptr 1000000002 0] false 1 none), (1000000001, Blk.mk [u16 v] true 1 none), (1000000002, Blk.mk [B8 A1, B8 B1, B8 C1, nilS] true 4 none)], []⟩⟩)] [2, 3, 8, 9, 10, 12, 13, 15, 30, 31, 32] [9, 410005, 14, 240002] (by kernel_rfl) ⟨(ch1 ), trivial⟩ ?_
              refine AWP.seq ?_
              refine AWP.seq ?_
              refine AWP.frz 410005 (s' := St.mk [(2, tp (V.vs cs nc)), (3, tp (V.vs ss ns)), (8, tp (vb false)), (9, tp (V.ptr 9 0)), (10, tp (B8 L)), (12, tp (B8 P)), (13, tp (u8 2)), (15, tp (V.clo (Fn.func 58) [] [V.ptr 14 0, V.ptr 9 0])), (30, tp (V.vs xs n)), (31, tp (i64 (↑n : Int))), (32, tp (i64 i))] [(9, Blk.mk [V.ptr 240002 0] false 1 none), (14, Blk.mk [u16 v] true 1 none), (240002, Blk.mk [B8 A1, B8 B1, B8 C1, V.val (Value.slice none 0 0)] true 4 none)]) (by kernel_rfl) ?_
              refine xg1 (os := [Con Try.prog 45 [(1000000000, Blk.mk [B8 A1, B8 B1, B8 C1, V.val (Value.slice none 0 0)] true 4 none)] [V.ptr 1000000000 0, B8 P] [(1000000000, Blk.mk [B8 E, B8 B1, B8 C1, B8 E] true 4 none)] (i64 0)]) [(5, ⟨some (V.tup [V.sl 1000000000 240002 0]), some ⟨i64 0, [(1000000000, Blk.mk [B8 E, B8 B1, B8 C1, B8 E] true 4 none)], []⟩⟩)] [2, 3, 8, 9, 10, 12, 13, 15, 30, 31, 32, 68] [9, 14, 240002] (by kernel_rfl) ⟨(cb ), trivial⟩ ?_
              refine AWP.condF (by kernel_rfl) ?_
              refine AWP.skip ?_
              refine xe1 (os := [Con Try.prog 58 [(1000000000, Blk.mk [V.ptr 1000000002 0] false 1 none), (1000000001, Blk.mk [u16 v] true 1 none), (1000000002, Blk.mk [B8 E, B8 B1, B8 C1, B8 E] true 4 none)] [u16 2, V.ptr 1000000001 0, V.ptr 1000000000 0] [(1000000000, Blk.mk [V.ptr 1000000002 0] false 1 none), (1000000001, Blk.mk [u16 v] true 1 none), (1000000002, Blk.mk [B8 A2, B8 B2, B8 C2, B8 E] true 4 none)] (V.tup [])]) [(1, ⟨some (V.tup [V.sl 1000000000 9 0, V.sl 1000000001 14 0, V.sl 1000000002 240002 0]), some ⟨V.tup [], [(1000000000, Blk.mk [V.ptr 1000000002 0] false 1 none), (1000000001, Blk.mk [u16 v] true 1 none), (1000000002, Blk.mk [B8 A2, B8 B2, B8 C2, B8 E] true 4 none)], []⟩⟩)] [2, 3, 8, 9, 10, 12, 13, 15, 30, 31, 32] [9, 14, 240002] (by kernel_rfl) ⟨(ch2 ), trivial⟩ ?_
              refine AWP.seq ?_
              refine xe1 (os := [false = true → False]) [(5, ⟨some (V.tup [vb false]), none⟩)] [2, 3, 8, 9, 10, 12, 13, 15, 30, 31, 32, 77] [9, 14, 240002] (by kernel_rfl) ⟨(by (intro hc0; first | (cases hc0; done) | (exfalso; simp_all; done) | ((try simp only [Bool.or_false, Bool.false_or, Bool.true_and, Bool.and_true, decide_eq_true_eq, decide_eq_false_iff_not, Bool.and_eq_true, Bool.or_eq_true, Bool.or_eq_false_iff, Bool.not_eq_true', Bool.and_eq_false_iff, beq_iff_eq, bne_iff_ne, bne_eq_false_iff_eq, beq_eq_false_iff_ne, Bool.not_eq_false'] at hc0); omega))), trivial⟩ ?_
              refine AWP.condF (by kernel_rfl) ?_
              refine AWP.skip ?_
              refine xe1 (os := [Con Try.prog 58 [(1000000000, Blk.mk [V.ptr 1000000002 0] false 1 none), (1000000001, Blk.mk [u16 v] true 1 none), (1000000002, Blk.mk [B8 A2, B8 B2, B8 C2, B8 E] true 4 none)] [u16 3, V.ptr 1000000001 0, V.ptr 1000000000 0] [(1000000000, Blk.mk [V.ptr 1000000002 0] false 1 none), (1000000001, Blk.mk [u16 v] true 1 none), (1000000002, Blk.mk [B8 A3, B8 B3, B8 C3, B8 E] true 4 none)] (V.tup [])]) [(1, ⟨some (V.tup [V.sl 1000000000 9 0, V.sl 1000000001 14 0, V.sl 1000000002 240002 0]), some ⟨V.tup [], [(1000000000, Blk.mk [V.ptr 1000000002 0] false 1 none), (1000000001, Blk.mk [u16 v] true 1 none), (1000000002, Blk.mk [B8 A3, B8 B3, B8 C3, B8 E] true 4 none)], []⟩⟩)] [2, 3, 8, 9, 10, 12, 13, 30, 31, 32] [9, 240002] (by kernel_rfl) ⟨(ch3 ), trivial⟩ ?_
              refine xe1 [(1, ⟨some (V.tup [V.sl 1000000000 240002 0]), some ⟨V.tup [], [(1000000000, Blk.mk [B8 A3, B8 B3, B8 C3, nilS] true 4 none)], []⟩⟩)] [2, 3, 8, 9, 10, 12, 13, 30, 31, 32] [9, 240002] (by kernel_rfl) (AllP.c (con_greset (B8 A3) (B8 B3) (B8 C3) (B8 E)) AllP.n) ?_
              refine xe1 (os := [VO (V.tup [u32 (cNo D), V.sl (1210005 : Nat) (0 : Nat) (List.length L), i64 (0 : Int)]), VOH [((1210005 : Nat), Blk.mk (u8s L) true (0 : Nat) (some ((5 : Nat), (1 : Nat))))], Con Try.prog 47 [] [V.vp [B8 A3, B8 B3, B8 C3, V.val (Value.slice none 0 0)]] [(1210005, Blk.mk (u8s L) true 0 (some (5, 1)))] (V.tup [u32 (cNo D), V.sl 1210005 0 (List.length L), i64 0])]) [(1, ⟨none, some ⟨V.tup [u32 (cNo D), V.sl 1210005 0 (List.length L), i64 0], [(1210005, Blk.mk (u8s L) true 0 (some (5, 1)))], [(240002, true)]⟩⟩)] [2, 3, 8, 9, 10, 12, 13, 17, 18, 30, 31, 32] [9, 2060005, 240002] (by kernel_rfl) ⟨(VO.tup (VOL.cons (VO.val _) (VOL.cons (VO.sl _ _ _) (VOL.cons (VO.val _) VOL.nil)))), ⟨(VOL.u8s _), trivial⟩, (cr ), trivial⟩ ?_
              refine AWP.seq ?_
              refine xe1 (os := [false = false → VO (vb (decide (L = L))) ∧ VOH [] ∧ Con Try.prog (23 : Nat) [] [B8 L, B8 L] [] (vb (decide (L = L))) ∧ (0 : Nat) = (0 : Nat) ∧ List.length L * (1 : Nat) = List.length (u8s L) ∧ True, false = false → (!decide (L = L)) = true → false = false → VO (vb (decide (L = P))) ∧ VOH [] ∧ Con Try.prog (23 : Nat) [] [B8 L, B8 P] [] (vb (decide (L = P))) ∧ (0 : Nat) = (0 : Nat) ∧ List.length L * (1 : Nat) = List.length (u8s L) ∧ True, false = true → (false || !decide (L = L) && (false || !decide (L = P))) = false → VO (vb (decide (L = P))) ∧ VOH [] ∧ Con Try.prog (23 : Nat) [] [B8 L, B8 P] [] (vb (decide (L = P))) ∧ (0 : Nat) = (0 : Nat) ∧ List.length L * (1 : Nat) = List.length (u8s L) ∧ True]) [(5, ⟨none, some ⟨vb (decide (L = L)), [], [(2060005, true)]⟩⟩), (13, ⟨none, some ⟨vb (decide (L = P)), [], [(2060005, true)]⟩⟩), (24, ⟨none, some ⟨vb (decide (L = P)), [], [(2060005, true)]⟩⟩)] [2, 3, 8, 9, 10, 17, 30, 31, 32, 115] [9, 2060005, 240002] (by kernel_rfl) ⟨(by intro hc0; first | (cases hc0; done) | ((try simp only [Bool.or_false, Bool.false_or, Bool.true_and, Bool.and_true, decide_eq_true_eq, decide_eq_false_iff_not, Bool.and_eq_true, Bool.or_eq_true, Bool.or_eq_false_iff, Bool.not_eq_true', Bool.and_eq_false_iff, beq_iff_eq, bne_iff_ne, bne_eq_false_iff_eq, beq_eq_false_iff_ne, Bool.not_eq_false'] at hc0); exact ⟨(VO.val _), trivial, (con_samen (L) (L) (List.length L) (List.length L) (by omega) (by omega) (by omega) (by omega)), (by omega), (by (simp [len_u8s]; done)), trivial⟩)), (by intro hc0 hc1 hc2; first | (cases hc0; done) | ((try simp only [Bool.or_false, Bool.false_or, Bool.true_and, Bool.and_true, decide_eq_true_eq, decide_eq_false_iff_not, Bool.and_eq_true, Bool.or_eq_true, Bool.or_eq_false_iff, Bool.not_eq_true', Bool.and_eq_false_iff, beq_iff_eq, bne_iff_ne, bne_eq_false_iff_eq, beq_eq_false_iff_ne, Bool.not_eq_false'] at hc0 hc1 hc2); exact ⟨(VO.val _), trivial, (con_samen (L) (P) (List.length L) (List.length P) (by omega) (by omega) (by omega) (by omega)), (by omega), (by (simp [len_u8s]; done)), trivial⟩)), (by intro hc0 hc1; first | (cases hc0; done) | ((try simp only [Bool.or_false, Bool.false_or, Bool.true_and, Bool.and_true, decide_eq_true_eq, decide_eq_false_iff_not, Bool.and_eq_true, Bool.or_eq_true, Bool.or_eq_false_iff, Bool.not_eq_true', Bool.and_eq_false_iff, beq_iff_eq, bne_iff_ne, bne_eq_false_iff_eq, beq_eq_false_iff_ne, Bool.not_eq_false'] at hc0 hc1); exact ⟨(VO.val _), trivial, (con_samen (L) (P) (List.length L) (List.length P) (by omega) (by omega) (by omega) (by omega)), (by omega), (by (simp [len_u8s]; done)), trivial⟩)), trivial⟩ ?_
              refine AWP.cond (b := false || !decide (L = L) && (false || !decide (L = P)) || false) (by kernel_rfl) (fun hq50 => ?_) (fun hq50 => ?_)
              · simp only [Bool.or_false, Bool.false_or, decide_eq_false_iff_not, Bool.and_eq_true, Bool.not_eq_true'] at hq50
                (simp [bl] at hq50; done)
              simp only [Bool.or_false, Bool.false_or, decide_eq_true_eq, Bool.and_eq_false_iff, Bool.not_eq_false'] at hq50
              refine AWP.skip ?_
              refine xe0 [2, 3, 8, 9, 10, 30, 31, 32] [9, 2060005, 240002] (by kernel_rfl) ?_
              refine xe1 (os := [Con Try.prog 48 [(1000000000, Blk.mk [B8 A3, B8 B3, B8 C3, V.val (Value.slice none 0 0)] true 4 none)] [V.ptr 1000000000 0] [(1000000000, Blk.mk [B8 D, B8 D, B8 D, V.val (Value.slice none 0 0)] true 4 none)] (V.tup [i64 (nq A3 D + nq B3 D + nq C3 D), i64 0])]) [(1, ⟨some (V.tup [V.sl 1000000000 240002 0]), some ⟨V.tup [i64 (nq A3 D + nq B3 D + nq C3 D), i64 0], [(1000000000, Blk.mk [B8 D, B8 D, B8 D, nilS] true 4 none)], []⟩⟩)] [2, 3, 8, 9, 10, 20, 30, 31, 32] [9, 2060005, 240002] (by kernel_rfl) ⟨(cs2 ), trivial⟩ ?_
              refine xe0 [2, 3, 8, 9, 10, 30, 31, 32, 123] [9, 2060005, 240002] (by kernel_rfl) ?_
              refine AWP.condF (by kernel_rfl) ?_
              refine AWP.skip ?_
              refine AWP.frz 2060005 (s' := St.mk [(2, tp (V.vs cs nc)), (3, tp (V.vs ss ns)), (8, tp (vb false)), (9, tp (V.ptr 9 0)), (10, tp (B8 L)), (30, tp (V.vs xs n)), (31, tp (i64 (↑n : Int))), (32, tp (i64 i)), (123, tp (vb false))] [(9, Blk.mk [V.ptr 240002 0] false 1 none), (240002, Blk.mk [B8 D, B8 D, B8 D, V.val (Value.slice none 0 0)] true 4 none)]) (by kernel_rfl) ?_
              refine AWP.region tcok hmix [(0, ⟨some (i64 (i + 1)), none⟩)] (os := [i64 (IntKind.wrap IntKind.i64 (i + 1)) = i64 (i + 1)]) (sf := St.mk [(2, tp (V.vs cs nc)), (3, tp (V.vs ss ns)), (8, tp (vb false)), (9, tp (V.ptr 9 0)), (10, tp (B8 L)), (30, tp (V.vs xs n)), (31, tp (i64 (↑n : Int))), (32, tp (i64 (i + 1))), (123, tp (vb false)), (124, tp (i64 (i + 1)))] [(9, Blk.mk [V.ptr 240002 0] false 1 none), (240002, Blk.mk [B8 D, B8 D, B8 D, V.val (Value.slice none 0 0)] true 4 none)]) (by kernel_rfl) ⟨(wr_i64 (by omega) (by omega)), trivial⟩ ?_
              refine ⟨St.mk [(2, tp (V.vs cs nc)), (3, tp (V.vs ss ns)), (8, tp (vb false)), (9, tp (V.ptr 9 0)), (10, tp (B8 L)), (30, tp (V.vs xs n)), (31, tp (i64 (↑n : Int))), (32, tp (i64 (i + 1)))] [(9, Blk.mk [V.ptr 240002 0] false 1 none), (240002, Blk.mk [B8 D, B8 D, B8 D, V.val (Value.slice none 0 0)] true 4 none)], by kernel_rfl, ?_⟩
              (exact ⟨(n - (i + 1)).toNat, (by omega), i + 1, s, L, D, rfl, hD, hLb, hLl, (by omega), (by omega), (by omega), (by omega), (by omega)⟩)
            simp only [decide_eq_false_iff_not] at hq47
            (exfalso; omega)
          simp only [decide_eq_false_iff_not] at hq46
          (exfalso; omega)
        simp only [decide_eq_false_iff_not] at hq44
        (exfalso; omega)
    · obtain ⟨A1, B1, C1, A2, B2, C2, A3, B3, C3, k, h1t, gA1, gB1, gC1, h2t, gA2, gB2, gC2, h3t, gA3, gB3, gC3, hv2, hk⟩ := hold_b (v := v) hv gD gE dE eE hgt
      have ch1 := con_hitn 1 v _ _ _ _ _ _ hv gD gD gD h1t
      have ch2 := con_hitn 2 v _ _ _ _ _ _ hv gA1 gB1 gC1 h2t
      have ch3 := con_hitn 3 v _ _ _ _ _ _ hv gA2 gB2 gC2 h3t
      have cr := (con_gread_y A3 B3 C3 gA3.1 gB3.1 gC3.1 (by have := gA3.2.2; omega) (by have := gB3.2.2; omega) (by have := gC3.2.2; omega) nilS _ k hv2 hk)
      rw [dP] at cr
      have cs2 := con_gscrub_y A3 B3 C3 gA3.1 gB3.1 gC3.1 (by have := gA3.2.2; omega) (by have := gB3.2.2; omega) (by have := gC3.2.2; omega) _ k hv2 hk
      refine xe0 [2, 3, 8, 9, 10, 30, 31, 32, 33] [9, 240002] (by kernel_rfl) ?_
      refine AWP.seq ?_
      refine AWP.cond (b := decide (i < (↑n : Int))) (by kernel_rfl) (fun hq52 => ?_) (fun hq52 => ?_)
      · simp only [decide_eq_true_eq] at hq52
        refine AWP.skip ?_
        refine AWP.seq ?_
        refine AWP.block ?_
        refine xe1 (os := [(0 : Int) ≤ i ∧ i < (↑n : Int), V.vp (List.drop (Int.toNat i * 1) xs) = V.vp (B8 c :: r)]) [(1, ⟨some (V.vp (B8 c :: r)), none⟩)] [2, 3, 8, 9, 10, 11, 12, 30, 31, 32] [9, 240002] (by kernel_rfl) ⟨(by omega), (congrArg V.vp kx1), trivial⟩ ?_
        refine AWP.seq ?_
        refine xe0 [2, 3, 8, 9, 10, 11, 12, 30, 31, 32, 38] [9, 240002] (by kernel_rfl) ?_
        refine AWP.cond (b := decide (i ≥ 12)) (by kernel_rfl) (fun hq53 => ?_) (fun hq53 => ?_)
        · simp only [decide_eq_true_eq] at hq53
          (exfalso; omega)
        simp only [decide_eq_false_iff_not] at hq53
        refine AWP.skip ?_
        refine xe1 (os := [Con Try.prog 18 [] [B8 c, i64 100] [(5, Blk.mk (u8s P) true 0 (some (5, 1)))] (V.sl 5 0 (List.length P))]) [(1, ⟨none, some ⟨V.sl 5 0 (List.length P), [(5, Blk.mk (u8s P) true 0 (some (5, 1)))], []⟩⟩)] [2, 3, 8, 9, 10, 11, 12, 30, 31, 32] [9, 410005, 240002] (by kernel_rfl) ⟨(hcut ), trivial⟩ ?_
        refine xe0 [2, 3, 8, 9, 10, 11, 12, 13, 30, 31, 32] [9, 240002, 410005] (by kernel_rfl) ?_
        refine AWP.seq ?_
        refine xe0 [2, 3, 8, 9, 10, 11, 12, 13, 30, 31, 32, 44] [9, 410005, 240002] (by kernel_rfl) ?_
        refine AWP.cond (b := decide (i < (↑nc : Int))) (by kernel_rfl) (fun hq54 => ?_) (fun hq54 => ?_)
        · simp only [decide_eq_true_eq] at hq54
          refine xg1 (os := [(0 : Int) ≤ i ∧ i < (↑nc : Int), V.vp (List.drop (Int.toNat i * 1) cs) = V.vp (u8 u :: ru), (4 : Int) ≠ (0 : Int), u8 (Int.tmod u 4) = u8 (u % 4), u8 (u % 4) = u8 3]) [(2, ⟨some (V.vp (u8 u :: ru)), none⟩), (4, ⟨some (u8 (u % 4)), none⟩), (5, ⟨some (u8 3), none⟩)] [2, 3, 8, 9, 10, 11, 12, 13, 30, 31, 32] [9, 410005, 240002] (by kernel_rfl) ⟨(by omega), (congrArg V.vp (ku (by omega))), (by omega), (tm_ (by omega)), (in_eq wfu), trivial⟩ ?_
          refine xe0 [2, 3, 8, 9, 10, 11, 12, 13, 14, 30, 31, 32] [9, 14, 240002, 410005] (by kernel_rfl) ?_
          refine AWP.seq ?_
          refine xe0 [2, 3, 8, 9, 10, 11, 12, 13, 14, 30, 31, 32, 53] [9, 410005, 14, 240002] (by kernel_rfl) ?_
          refine AWP.cond (b := decide (i < (↑ns : Int))) (by kernel_rfl) (fun hq55 => ?_) (fun hq55 => ?_)
          · simp only [decide_eq_true_eq] at hq55
            refine xg1 (os := [(0 : Int) ≤ i ∧ i < (↑ns : Int), V.vp (List.drop (Int.toNat i * 1) ss) = V.vp (u16 v :: rv)]) [(2, ⟨some (V.vp (u16 v :: rv)), none⟩)] [2, 3, 8, 9, 10, 12, 13, 14, 30, 31, 32] [9, 410005, 14, 240002] (by kernel_rfl) ⟨(by omega), (congrArg V.vp (kv (by omega))), trivial⟩ ?_
            refine xe0 [2, 3, 8, 9, 10, 12, 13, 15, 30, 31, 32] [9, 410005, 14, 240002] (by kernel_rfl) ?_
            refine xe1 (os := [Con Try.prog 58 [(1000000000, Blk.mk [V.ptr 1000000002 0] false 1 none), (1000000001, Blk.mk [u16 v] true 1 none), (1000000002, Blk.mk [B8 D, B8 D, B8 D, V.val (Value.slice none 0 0)] true 4 none)] [u16 1, V.ptr 1000000001 0, V.ptr 1000000000 0] [(1000000000, Blk.mk [V.ptr 1000000002 0] false 1 none), (1000000001, Blk.mk [u16 v] true 1 none), (1000000002, Blk.mk [B8 A1, B8 B1, B8 C1, V.val (Value.slice none 0 0)] true 4 none)] (V.tup [])]) [(1, ⟨some (V.tup [V.sl 1000000000 9 0, V.sl 1000000001 14 0, V.sl 1000000002 240002 0]), some ⟨V.tup [], [(1000000000, Blk.mk [V.ptr 1000000002 0] false 1 none), (1000000001, Blk.mk [u16 v] true 1 none), (1000000002, Blk.mk [B8 A1, B8 B1, B8 C1, nilS] true 4 none)], []⟩⟩)] [2, 3, 8, 9, 10, 12, 13, 15, 30, 31, 32] [9, 410005, 14, 240002] (by kernel_rfl) ⟨(ch1 ), trivial⟩ ?_
            refine AWP.seq ?_
            refine xe1 (os := [false = true → False]) [(6, ⟨some (V.tup [vb false]), none⟩)] [2, 3, 8, 9, 10, 12, 13, 15, 30, 31, 32, 68] [9, 410005, 14, 240002] (by kernel_rfl) ⟨(by (intro hc0; first | (cases hc0; done) | (exfalso; simp_all; done) | ((try simp only [Bool.or_false, Bool.false_or, Bool.true_and, Bool.and_true, decide_eq_true_eq, decide_eq_false_iff_not, Bool.and_eq_true, Bool.or_eq_true, Bool.or_eq_false_iff, Bool.not_eq_true', Bool.and_eq_false_iff, beq_iff_eq, bne_iff_ne, bne_eq_false_iff_eq, beq_eq_false_iff_ne, Bool.not_eq_false'] at hc0); omega))), trivial⟩ ?_
            refine AWP.condF (by kernel_rfl) ?_
            refine AWP.skip ?_
            refine xe1 (os := [Con Try.prog 58 [(1000000000, Blk.mk [V.ptr 1000000002 0] false 1 none), (1000000001, Blk.mk [u16 v] true 1 none), (1000000002, Blk.mk [B8 A1, B8 B1, B8 C1, V.val (Value.slice none 0 0)] true 4 none)] [u16 2, V.ptr 1000000001 0, V.ptr 1000000000 0] [(1000000000, Blk.mk [V.ptr 1000000002 0] false 1 none), (1000000001, Blk.mk [u16 v] true 1 none), (1000000002, Blk.mk [B8 A2, B8 B2, B8 C2, V.val (Value.slice none 0 0)] true 4 none)] (V.tup [])]) [(1, ⟨some (V.tup [V.sl 1000000000 9 0, V.sl 1000000001 14 0, V.sl 1000000002 240002 0]), some ⟨V.tup [], [(1000000000, Blk.mk [V.ptr 1000000002 0] false 1 none), (1000000001, Blk.mk [u16 v] true 1 none), (1000000002, Blk.mk [B8 A2, B8 B2, B8 C2, nilS] true 4 none)], []⟩⟩)] [2, 3, 8, 9, 10, 12, 13, 15, 30, 31, 32] [9, 410005, 14, 240002] (by kernel_rfl) ⟨(ch2 ), trivial⟩ ?_
            refine AWP.seq ?_
            refine xe1 (os := [false = true → False]) [(5, ⟨some (V.tup [vb false]), none⟩)] [2, 3, 8, 9, 10, 12, 13, 15, 30, 31, 32, 77] [9, 410005, 14, 240002] (by kernel_rfl) ⟨(by (intro hc0; first | (cases hc0; done) | (exfalso; simp_all; done) | ((try simp only [Bool.or_false, Bool.false_or, Bool.true_and, Bool.and_true, decide_eq_true_eq, decide_eq_false_iff_not, Bool.and_eq_true, Bool.or_eq_true, Bool.or_eq_false_iff, Bool.not_eq_true', Bool.and_eq_false_iff, beq_iff_eq, bne_iff_ne, bne_eq_false_iff_eq, beq_eq_false_iff_ne, Bool.not_eq_false'] at hc0); omega))), trivial⟩ ?_
            refine AWP.condF (by kernel_rfl) ?_
            refine AWP.skip ?_
            refine xe1 (os := [Con Try.prog 58 [(1000000000, Blk.mk [V.ptr 1000000002 0] false 1 none), (1000000001, Blk.mk [u16 v] true 1 none), (1000000002, Blk.mk [B8 A2, B8 B2, B8 C2, V.val (Value.slice none 0 0)] true 4 none)] [u16 3, V.ptr 1000000001 0, V.ptr 1000000000 0] [(1000000000, Blk.mk [V.ptr 1000000002 0] false 1 none), (1000000001, Blk.mk [u16 v] true 1 none), (1000000002, Blk.mk [B8 A3, B8 B3, B8 C3, V.val (Value.slice none 0 0)] true 4 none)] (V.tup [])]) [(1, ⟨some (V.tup [V.sl 1000000000 9 0, V.sl 1000000001 14 0, V.sl 1000000002 240002 0]), some ⟨V.tup [], [(1000000000, Blk.mk [V.ptr 1000000002 0] false 1 none), (1000000001, Blk.mk [u16 v] true 1 none), (1000000002, Blk.mk [B8 A3, B8 B3, B8 C3, nilS] true 4 none)], []⟩⟩)] [2, 3, 8, 9, 10, 12, 13, 30, 31, 32] [9, 410005, 240002] (by kernel_rfl) ⟨(ch3 ), trivial⟩ ?_
            refine xe1 [(1, ⟨some (V.tup [V.sl 1000000000 240002 0]), some ⟨V.tup [], [(1000000000, Blk.mk [B8 A3, B8 B3, B8 C3, nilS] true 4 none)], []⟩⟩)] [2, 3, 8, 9, 10, 12, 13, 30, 31, 32] [9, 410005, 240002] (by kernel_rfl) (AllP.c (con_greset (B8 A3) (B8 B3) (B8 C3) (V.val (Value.slice none 0 0))) AllP.n) ?_
            refine xe1 (os := [VO (V.tup [u32 (cNo D), V.sl (1210005 : Nat) (0 : Nat) (List.length L), i64 (0 : Int)]), VOH [((1210005 : Nat), Blk.mk (u8s L) true (0 : Nat) (some ((5 : Nat), (1 : Nat))))], Con Try.prog 47 [] [V.vp [B8 A3, B8 B3, B8 C3, V.val (Value.slice none 0 0)]] [(1210005, Blk.mk (u8s L) true 0 (some (5, 1)))] (V.tup [u32 (cNo D), V.sl 1210005 0 (List.length L), i64 0])]) [(1, ⟨none, some ⟨V.tup [u32 (cNo D), V.sl 1210005 0 (List.length L), i64 0], [(1210005, Blk.mk (u8s L) true 0 (some (5, 1)))], [(240002, true)]⟩⟩)] [2, 3, 8, 9, 10, 12, 13, 17, 18, 30, 31, 32] [9, 410005, 2060005, 240002] (by kernel_rfl) ⟨(VO.tup (VOL.cons (VO.val _) (VOL.cons (VO.sl _ _ _) (VOL.cons (VO.val _) VOL.nil)))), ⟨(VOL.u8s _), trivial⟩, (cr ), trivial⟩ ?_
            refine AWP.seq ?_
            refine xe1 (os := [false = false → VO (vb (decide (L = L))) ∧ VOH [] ∧ Con Try.prog (23 : Nat) [] [B8 L, B8 L] [] (vb (decide (L = L))) ∧ (0 : Nat) = (0 : Nat) ∧ List.length L * (1 : Nat) = List.length (u8s L) ∧ True, true = false → (!decide (L = L)) = true → false = false → VO (vb (decide (L = P))) ∧ VOH [] ∧ Con Try.prog (23 : Nat) [] [B8 L, B8 P] [] (vb (decide (L = P))) ∧ (0 : Nat) = (0 : Nat) ∧ List.length L * (1 : Nat) = List.length (u8s L) ∧ (0 : Nat) = (0 : Nat) ∧ List.length P * (1 : Nat) = List.length (u8s P) ∧ True, false = true → (false || !decide (L = L) && true) = false → VO (vb (decide (L = P))) ∧ VOH [] ∧ Con Try.prog (23 : Nat) [] [B8 L, B8 P] [] (vb (decide (L = P))) ∧ (0 : Nat) = (0 : Nat) ∧ List.length L * (1 : Nat) = List.length (u8s L) ∧ (0 : Nat) = (0 : Nat) ∧ List.length P * (1 : Nat) = List.length (u8s P) ∧ True]) [(5, ⟨none, some ⟨vb (decide (L = L)), [], [(2060005, true)]⟩⟩), (13, ⟨none, some ⟨vb (decide (L = P)), [], [(410005, true), (2060005, true)]⟩⟩), (24, ⟨none, some ⟨vb (decide (L = P)), [], [(410005, true), (2060005, true)]⟩⟩)] [2, 3, 8, 9, 10, 17, 30, 31, 32, 115] [9, 2060005, 240002] (by kernel_rfl) ⟨(by intro hc0; first | (cases hc0; done) | ((try simp only [Bool.or_false, Bool.false_or, Bool.true_and, Bool.and_true, decide_eq_true_eq, decide_eq_false_iff_not, Bool.and_eq_true, Bool.or_eq_true, Bool.or_eq_false_iff, Bool.not_eq_true', Bool.and_eq_false_iff, beq_iff_eq, bne_iff_ne, bne_eq_false_iff_eq, beq_eq_false_iff_ne, Bool.not_eq_false'] at hc0); exact ⟨(VO.val _), trivial, (con_samen (L) (L) (List.length L) (List.length L) (by omega) (by omega) (by omega) (by omega)), (by omega), (by (simp [len_u8s]; done)), trivial⟩)), (by intro hc0 hc1 hc2; first | (cases hc0; done) | ((try simp only [Bool.or_false, Bool.false_or, Bool.true_and, Bool.and_true, decide_eq_true_eq, decide_eq_false_iff_not, Bool.and_eq_true, Bool.or_eq_true, Bool.or_eq_false_iff, Bool.not_eq_true', Bool.and_eq_false_iff, beq_iff_eq, bne_iff_ne, bne_eq_false_iff_eq, beq_eq_false_iff_ne, Bool.not_eq_false'] at hc0 hc1 hc2); exact ⟨(VO.val _), trivial, (con_samen (L) (P) (List.length L) (List.length P) (by omega) (by omega) (by omega) (by omega)), (by omega), (by (simp [len_u8s]; done)), (by omega), (by (simp [len_u8s]; done)), trivial⟩)), (by intro hc0 hc1; first | (cases hc0; done) | ((try simp only [Bool.or_false, Bool.false_or, Bool.true_and, Bool.and_true, decide_eq_true_eq, decide_eq_false_iff_not, Bool.and_eq_true, Bool.or_eq_true, Bool.or_eq_false_iff, Bool.not_eq_true', Bool.and_eq_false_iff, beq_iff_eq, bne_iff_ne, bne_eq_false_iff_eq, beq_eq_false_iff_ne, Bool.not_eq_false'] at hc0 hc1); exact ⟨(VO.val _), trivial, (con_samen (L) (P) (List.length L) (List.length P) (by omega) (by omega) (by omega) (by omega)), (by omega), (by (simp [len_u8s]; done)), (by omega), (by (simp [len_u8s]; done)), trivial⟩)), trivial⟩ ?_
            refine AWP.cond (b := false || !decide (L = L) && true || false) (by kernel_rfl) (fun hq58 => ?_) (fun hq58 => ?_)
            · simp only [Bool.or_false, Bool.false_or, Bool.and_true, decide_eq_false_iff_not, Bool.not_eq_true'] at hq58
              (simp [bl] at hq58; done)
            simp only [Bool.or_false, Bool.false_or, Bool.and_true, decide_eq_true_eq, Bool.not_eq_false'] at hq58
            refine AWP.skip ?_
            refine xe0 [2, 3, 8, 9, 10, 30, 31, 32] [9, 2060005, 240002] (by kernel_rfl) ?_
            refine xe1 (os := [Con Try.prog 48 [(1000000000, Blk.mk [B8 A3, B8 B3, B8 C3, V.val (Value.slice none 0 0)] true 4 none)] [V.ptr 1000000000 0] [(1000000000, Blk.mk [B8 D, B8 D, B8 D, V.val (Value.slice none 0 0)] true 4 none)] (V.tup [i64 (nq A3 D + nq B3 D + nq C3 D), i64 0])]) [(1, ⟨some (V.tup [V.sl 1000000000 240002 0]), some ⟨V.tup [i64 (nq A3 D + nq B3 D + nq C3 D), i64 0], [(1000000000, Blk.mk [B8 D, B8 D, B8 D, nilS] true 4 none)], []⟩⟩)] [2, 3, 8, 9, 10, 20, 30, 31, 32] [9, 2060005, 240002] (by kernel_rfl) ⟨(cs2 ), trivial⟩ ?_
            refine xe0 [2, 3, 8, 9, 10, 30, 31, 32, 123] [9, 2060005, 240002] (by kernel_rfl) ?_
            refine AWP.condF (by kernel_rfl) ?_
            refine AWP.skip ?_
            refine AWP.frz 2060005 (s' := St.mk [(2, tp (V.vs cs nc)), (3, tp (V.vs ss ns)), (8, tp (vb false)), (9, tp (V.ptr 9 0)), (10, tp (B8 L)), (30, tp (V.vs xs n)), (31, tp (i64 (↑n : Int))), (32, tp (i64 i)), (123, tp (vb false))] [(9, Blk.mk [V.ptr 240002 0] false 1 none), (240002, Blk.mk [B8 D, B8 D, B8 D, V.val (Value.slice none 0 0)] true 4 none)]) (by kernel_rfl) ?_
            refine AWP.region tcok hmix [(0, ⟨some (i64 (i + 1)), none⟩)] (os := [i64 (IntKind.wrap IntKind.i64 (i + 1)) = i64 (i + 1)]) (sf := St.mk [(2, tp (V.vs cs nc)), (3, tp (V.vs ss ns)), (8, tp (vb false)), (9, tp (V.ptr 9 0)), (10, tp (B8 L)), (30, tp (V.vs xs n)), (31, tp (i64 (↑n : Int))), (32, tp (i64 (i + 1))), (123, tp (vb false)), (124, tp (i64 (i + 1)))] [(9, Blk.mk [V.ptr 240002 0] false 1 none), (240002, Blk.mk [B8 D, B8 D, B8 D, V.val (Value.slice none 0 0)] true 4 none)]) (by kernel_rfl) ⟨(wr_i64 (by omega) (by omega)), trivial⟩ ?_
            refine ⟨St.mk [(2, tp (V.vs cs nc)), (3, tp (V.vs ss ns)), (8, tp (vb false)), (9, tp (V.ptr 9 0)), (10, tp (B8 L)), (30, tp (V.vs xs n)), (31, tp (i64 (↑n : Int))), (32, tp (i64 (i + 1)))] [(9, Blk.mk [V.ptr 240002 0] false 1 none), (240002, Blk.mk [B8 D, B8 D, B8 D, V.val (Value.slice none 0 0)] true 4 none)], by kernel_rfl, ?_⟩
            (exact ⟨(n - (i + 1)).toNat, (by omega), i + 1, s, L, D, rfl, hD, hLb, hLl, (by omega), (by omega), (by omega), (by omega), (by omega)⟩)
          simp only [decide_eq_false_iff_not] at hq55
          (exfalso; omega)
        simp only [decide_eq_false_iff_not] at hq54
        (exfalso; omega)
      simp only [decide_eq_false_iff_not] at hq52
      (exfalso; omega)
  · rcases (by omega : u % 4 = 0 ∨ u % 4 = 1 ∨ u % 4 = 2 ∨ u % 4 = 3) with wfu | wfu | wfu | wfu
    · obtain ⟨A1, B1, C1, A2, B2, C2, h1t, gA1, gB1, gC1, ht, h2t, gA2, gB2, gC2, q1, q2⟩ := hold_a (v := 0) (by omega) gD gE dE eE hgt
      rw [dN] at ht
      have ch1 := con_hitn 1 0 _ _ _ _ _ _ (by omega) gD gD gD h1t
      have cb := con_gbegin_y A1 B1 C1 gA1.1 gB1.1 gC1.1 (by have := gA1.2.2; omega) (by have := gB1.2.2; omega) (by have := gC1.2.2; omega) P P.length hPb rfl E (by rw [ht]; exact hE) (by omega) (by omega)
      have ch2 := con_hitp 2 0 _ _ _ _ _ _ E (by omega) gE gB1 gC1 h2t
      have cfi := con_gfinish A2 B2 C2 E (by omega) (by omega)
      obtain ⟨A3, B3, C3, k, h3t, gA3, gB3, gC3, hv2, hk⟩ := q1
      have ch3 := con_hitn 3 0 _ _ _ _ _ _ (by omega) gA2 gE gE h3t
      have cr := (con_gread_y A3 B3 C3 gA3.1 gB3.1 gC3.1 (by have := gA3.2.2; omega) (by have := gB3.2.2; omega) (by have := gC3.2.2; omega) nilS _ k hv2 hk)
      rw [eP] at cr
      have cs2 := con_gscrub_y A3 B3 C3 gA3.1 gB3.1 gC3.1 (by have := gA3.2.2; omega) (by have := gB3.2.2; omega) (by have := gC3.2.2; omega) _ k hv2 hk
      refine xe0 [2, 3, 8, 9, 10, 30, 31, 32, 33] [9, 240002] (by kernel_rfl) ?_
      refine AWP.seq ?_
      refine AWP.cond (b := decide (i < (↑n : Int))) (by kernel_rfl) (fun hq60 => ?_) (fun hq60 => ?_)
      · simp only [decide_eq_true_eq] at hq60
        refine AWP.skip ?_
        refine AWP.seq ?_
        refine AWP.block ?_
        refine xe1 (os := [(0 : Int) ≤ i ∧ i < (↑n : Int), V.vp (List.drop (Int.toNat i * 1) xs) = V.vp (B8 c :: r)]) [(1, ⟨some (V.vp (B8 c :: r)), none⟩)] [2, 3, 8, 9, 10, 11, 12, 30, 31, 32] [9, 240002] (by kernel_rfl) ⟨(by omega), (congrArg V.vp kx1), trivial⟩ ?_
        refine AWP.seq ?_
        refine xe0 [2, 3, 8, 9, 10, 11, 12, 30, 31, 32, 38] [9, 240002] (by kernel_rfl) ?_
        refine AWP.cond (b := decide (i ≥ 12)) (by kernel_rfl) (fun hq61 => ?_) (fun hq61 => ?_)
        · simp only [decide_eq_true_eq] at hq61
          (exfalso; omega)
        simp only [decide_eq_false_iff_not] at hq61
        refine AWP.skip ?_
        refine xe1 (os := [Con Try.prog 18 [] [B8 c, i64 100] [(5, Blk.mk (u8s P) true 0 (some (5, 1)))] (V.sl 5 0 (List.length P))]) [(1, ⟨none, some ⟨V.sl 5 0 (List.length P), [(5, Blk.mk (u8s P) true 0 (some (5, 1)))], []⟩⟩)] [2, 3, 8, 9, 10, 11, 12, 30, 31, 32] [9, 410005, 240002] (by kernel_rfl) ⟨(hcut ), trivial⟩ ?_
        refine xe0 [2, 3, 8, 9, 10, 11, 12, 13, 30, 31, 32] [9, 240002, 410005] (by kernel_rfl) ?_
        refine AWP.seq ?_
        refine xe0 [2, 3, 8, 9, 10, 11, 12, 13, 30, 31, 32, 44] [9, 410005, 240002] (by kernel_rfl) ?_
        refine AWP.cond (b := decide (i < (↑nc : Int))) (by kernel_rfl) (fun hq62 => ?_) (fun hq62 => ?_)
        · simp only [decide_eq_true_eq] at hq62
          refine xg1 (os := [(0 : Int) ≤ i ∧ i < (↑nc : Int), V.vp (List.drop (Int.toNat i * 1) cs) = V.vp (u8 u :: ru), (4 : Int) ≠ (0 : Int), u8 (Int.tmod u 4) = u8 (u % 4), u8 (u % 4) = u8 0]) [(2, ⟨some (V.vp (u8 u :: ru)), none⟩), (4, ⟨some (u8 (u % 4)), none⟩), (5, ⟨some (u8 0), none⟩)] [2, 3, 8, 9, 10, 11, 12, 13, 30, 31, 32] [9, 410005, 240002] (by kernel_rfl) ⟨(by omega), (congrArg V.vp (ku (by omega))), (by omega), (tm_ (by omega)), (in_eq wfu), trivial⟩ ?_
          refine xe0 [2, 3, 8, 9, 10, 11, 12, 13, 14, 30, 31, 32] [9, 14, 240002, 410005] (by kernel_rfl) ?_
          refine AWP.seq ?_
          refine xe0 [2, 3, 8, 9, 10, 11, 12, 13, 14, 30, 31, 32, 53] [9, 410005, 14, 240002] (by kernel_rfl) ?_
          refine AWP.cond (b := decide (i < (↑ns : Int))) (by kernel_rfl) (fun hq63 => ?_) (fun hq63 => ?_)
          · simp only [decide_eq_true_eq] at hq63
            (exfalso; omega)
          simp only [decide_eq_false_iff_not] at hq63
          refine AWP.skip ?_
          refine xe0 [2, 3, 8, 9, 10, 12, 13, 15, 30, 31, 32] [9, 410005, 14, 240002] (by kernel_rfl) ?_
          refine xe1 (os := [Con Try.prog 58 [(1000000000, Blk.mk [V.ptr 1000000002 0] false 1 none), (1000000001, Blk.mk [u16 0] true 1 none), (1000000002, Blk.mk [B8 D, B8 D, B8 D, V.val (Value.slice none 0 0)] true 4 none)] [u16 1, V.ptr 1000000001 0, V.ptr 1000000000 0] [(1000000000, Blk.mk [V.ptr 1000000002 0] false 1 none), (1000000001, Blk.mk [u16 0] true 1 none), (1000000002, Blk.mk [B8 A1, B8 B1, B8 C1, V.val (Value.slice none 0 0)] true 4 none)] (V.tup [])]) [(1, ⟨some (V.tup [V.sl 1000000000 9 0, V.sl 1000000001 14 0, V.sl 1000000002 240002 0]), some ⟨V.tup [], [(1000000000, Blk.mk [V.ptr 1000000002 0] false 1 none), (1000000001, Blk.mk [u16 0] true 1 none), (1000000002, Blk.mk [B8 A1, B8 B1, B8 C1, nilS] true 4 none)], []⟩⟩)] [2, 3, 8, 9, 10, 12, 13, 15, 30, 31, 32] [9, 410005, 14, 240002] (by kernel_rfl) ⟨(ch1 ), trivial⟩ ?_
          refine AWP.seq ?_
          refine AWP.seq ?_
          refine AWP.frz 410005 (s' := St.mk [(2, tp (V.vs cs nc)), (3, tp (V.vs ss ns)), (8, tp (vb false)), (9, tp (V.ptr 9 0)), (10, tp (B8 L)), (12, tp (B8 P)), (13, tp (u8 0)), (15, tp (V.clo (Fn.func 58) [] [V.ptr 14 0, V.ptr 9 0])), (30, tp (V.vs xs n)), (31, tp (i64 (↑n : Int))), (32, tp (i64 i))] [(9, Blk.mk [V.ptr 240002 0] false 1 none), (14, Blk.mk [u16 0] true 1 none), (240002, Blk.mk [B8 A1, B8 B1, B8 C1, V.val (Value.slice none 0 0)] true 4 none)]) (by kernel_rfl) ?_
          refine xg1 (os := [Con Try.prog 45 [(1000000000, Blk.mk [B8 A1, B8 B1, B8 C1, V.val (Value.slice none 0 0)] true 4 none)] [V.ptr 1000000000 0, B8 P] [(1000000000, Blk.mk [B8 E, B8 B1, B8 C1, B8 E] true 4 none)] (i64 0)]) [(5, ⟨some (V.tup [V.sl 1000000000 240002 0]), some ⟨i64 0, [(1000000000, Blk.mk [B8 E, B8 B1, B8 C1, B8 E] true 4 none)], []⟩⟩)] [2, 3, 8, 9, 10, 12, 13, 15, 30, 31, 32, 68] [9, 14, 240002] (by kernel_rfl) ⟨(cb ), trivial⟩ ?_
          refine AWP.condF (by kernel_rfl) ?_
          refine AWP.skip ?_
          refine xe1 (os := [Con Try.prog 58 [(1000000000, Blk.mk [V.ptr 1000000002 0] false 1 none), (1000000001, Blk.mk [u16 0] true 1 none), (1000000002, Blk.mk [B8 E, B8 B1, B8 C1, B8 E] true 4 none)] [u16 2, V.ptr 1000000001 0, V.ptr 1000000000 0] [(1000000000, Blk.mk [V.ptr 1000000002 0] false 1 none), (1000000001, Blk.mk [u16 0] true 1 none), (1000000002, Blk.mk [B8 A2, B8 B2, B8 C2, B8 E] true 4 none)] (V.tup [])]) [(1, ⟨some (V.tup [V.sl 1000000000 9 0, V.sl 1000000001 14 0, V.sl 1000000002 240002 0]), some ⟨V.tup [], [(1000000000, Blk.mk [V.ptr 1000000002 0] false 1 none), (1000000001, Blk.mk [u16 0] true 1 none), (1000000002, Blk.mk [B8 A2, B8 B2, B8 C2, B8 E] true 4 none)], []⟩⟩)] [2, 3, 8, 9, 10, 12, 13, 15, 30, 31, 32] [9, 14, 240002] (by kernel_rfl) ⟨(ch2 ), trivial⟩ ?_
          refine AWP.seq ?_
          refine xe1 (os := [Con Try.prog 55 [(1000000000, Blk.mk [B8 A2, B8 B2, B8 C2, B8 E] true 4 none)] [V.ptr 1000000000 0] [(1000000000, Blk.mk [B8 A2, B8 E, B8 E, V.val (Value.slice none 0 0)] true 4 none)] (i64 0)]) [(4, ⟨some (V.tup [V.sl 1000000000 240002 0]), some ⟨i64 0, [(1000000000, Blk.mk [B8 A2, B8 E, B8 E, nilS] true 4 none)], []⟩⟩)] [2, 3, 8, 9, 10, 12, 13, 15, 30, 31, 32, 77] [9, 14, 240002] (by kernel_rfl) ⟨(cfi ), trivial⟩ ?_
          refine AWP.condF (by kernel_rfl) ?_
          refine AWP.skip ?_
          refine xe1 (os := [Con Try.prog 58 [(1000000000, Blk.mk [V.ptr 1000000002 0] false 1 none), (1000000001, Blk.mk [u16 0] true 1 none), (1000000002, Blk.mk [B8 A2, B8 E, B8 E, V.val (Value.slice none 0 0)] true 4 none)] [u16 3, V.ptr 1000000001 0, V.ptr 1000000000 0] [(1000000000, Blk.mk [V.ptr 1000000002 0] false 1 none), (1000000001, Blk.mk [u16 0] true 1 none), (1000000002, Blk.mk [B8 A3, B8 B3, B8 C3, V.val (Value.slice none 0 0)] true 4 none)] (V.tup [])]) [(1, ⟨some (V.tup [V.sl 1000000000 9 0, V.sl 1000000001 14 0, V.sl 1000000002 240002 0]), some ⟨V.tup [], [(1000000000, Blk.mk [V.ptr 1000000002 0] false 1 none), (1000000001, Blk.mk [u16 0] true 1 none), (1000000002, Blk.mk [B8 A3, B8 B3, B8 C3, nilS] true 4 none)], []⟩⟩)] [2, 3, 8, 9, 10, 12, 13, 30, 31, 32] [9, 240002] (by kernel_rfl) ⟨(ch3 ), trivial⟩ ?_
          refine xe1 [(1, ⟨some (V.tup [V.sl 1000000000 240002 0]), some ⟨V.tup [], [(1000000000, Blk.mk [B8 A3, B8 B3, B8 C3, nilS] true 4 none)], []⟩⟩)] [2, 3, 8, 9, 10, 12, 13, 30, 31, 32] [9, 240002] (by kernel_rfl) (AllP.c (con_greset (B8 A3) (B8 B3) (B8 C3) (V.val (Value.slice none 0 0))) AllP.n) ?_
          refine xe1 (os := [VO (V.tup [u32 (cNo E), V.sl (1210005 : Nat) (0 : Nat) (List.length P), i64 (0 : Int)]), VOH [((1210005 : Nat), Blk.mk (u8s P) true (0 : Nat) (some ((5 : Nat), (1 : Nat))))], Con Try.prog 47 [] [V.vp [B8 A3, B8 B3, B8 C3, V.val (Value.slice none 0 0)]] [(1210005, Blk.mk (u8s P) true 0 (some (5, 1)))] (V.tup [u32 (cNo E), V.sl 1210005 0 (List.length P), i64 0])]) [(1, ⟨none, some ⟨V.tup [u32 (cNo E), V.sl 1210005 0 (List.length P), i64 0], [(1210005, Blk.mk (u8s P) true 0 (some (5, 1)))], [(240002, true)]⟩⟩)] [2, 3, 8, 9, 10, 12, 13, 17, 18, 30, 31, 32] [9, 2060005, 240002] (by kernel_rfl) ⟨(VO.tup (VOL.cons (VO.val _) (VOL.cons (VO.sl _ _ _) (VOL.cons (VO.val _) VOL.nil)))), ⟨(VOL.u8s _), trivial⟩, (cr ), trivial⟩ ?_
          refine AWP.seq ?_
          refine xe1 (os := [false = false → VO (vb (decide (P = L))) ∧ VOH [] ∧ Con Try.prog (23 : Nat) [] [B8 P, B8 L] [] (vb (decide (P = L))) ∧ (0 : Nat) = (0 : Nat) ∧ List.length P * (1 : Nat) = List.length (u8s P) ∧ True, false = false → (!decide (P = L)) = true → false = false → VO (vb (decide (P = P))) ∧ VOH [] ∧ Con Try.prog (23 : Nat) [] [B8 P, B8 P] [] (vb (decide (P = P))) ∧ (0 : Nat) = (0 : Nat) ∧ List.length P * (1 : Nat) = List.length (u8s P) ∧ True, true = true → (false || !decide (P = L) && (false || !decide (P = P))) = false → VO (vb (decide (P = P))) ∧ VOH [] ∧ Con Try.prog (23 : Nat) [] [B8 P, B8 P] [] (vb (decide (P = P))) ∧ (0 : Nat) = (0 : Nat) ∧ List.length P * (1 : Nat) = List.length (u8s P) ∧ True]) [(5, ⟨none, some ⟨vb (decide (P = L)), [], [(2060005, true)]⟩⟩), (13, ⟨none, some ⟨vb (decide (P = P)), [], [(2060005, true)]⟩⟩), (24, ⟨none, some ⟨vb (decide (P = P)), [], [(2060005, true)]⟩⟩)] [2, 3, 8, 9, 10, 17, 30, 31, 32, 115] [9, 2060005, 240002] (by kernel_rfl) ⟨(by intro hc0; first | (cases hc0; done) | ((try simp only [Bool.or_false, Bool.false_or, Bool.true_and, Bool.and_true, decide_eq_true_eq, decide_eq_false_iff_not, Bool.and_eq_true, Bool.or_eq_true, Bool.or_eq_false_iff, Bool.not_eq_true', Bool.and_eq_false_iff, beq_iff_eq, bne_iff_ne, bne_eq_false_iff_eq, beq_eq_false_iff_ne, Bool.not_eq_false'] at hc0); exact ⟨(VO.val _), trivial, (con_samen (P) (L) (List.length P) (List.length L) (by omega) (by omega) (by omega) (by omega)), (by omega), (by (simp [len_u8s]; done)), trivial⟩)), (by intro hc0 hc1 hc2; first | (cases hc0; done) | ((try simp only [Bool.or_false, Bool.false_or, Bool.true_and, Bool.and_true, decide_eq_true_eq, decide_eq_false_iff_not, Bool.and_eq_true, Bool.or_eq_true, Bool.or_eq_false_iff, Bool.not_eq_true', Bool.and_eq_false_iff, beq_iff_eq, bne_iff_ne, bne_eq_false_iff_eq, beq_eq_false_iff_ne, Bool.not_eq_false'] at hc0 hc1 hc2); exact ⟨(VO.val _), trivial, (con_samen (P) (P) (List.length P) (List.length P) (by omega) (by omega) (by omega) (by omega)), (by omega), (by (simp [len_u8s]; done)), trivial⟩)), (by intro hc0 hc1; first | (cases hc0; done) | ((try simp only [Bool.or_false, Bool.false_or, Bool.true_and, Bool.and_true, decide_eq_true_eq, decide_eq_false_iff_not, Bool.and_eq_true, Bool.or_eq_true, Bool.or_eq_false_iff, Bool.not_eq_true', Bool.and_eq_false_iff, beq_iff_eq, bne_iff_ne, bne_eq_false_iff_eq, beq_eq_false_iff_ne, Bool.not_eq_false'] at hc0 hc1); exact ⟨(VO.val _), trivial, (con_samen (P) (P) (List.length P) (List.length P) (by omega) (by omega) (by omega) (by omega)), (by omega), (by (simp [len_u8s]; done)), trivial⟩)), trivial⟩ ?_
          refine AWP.cond (b := false || !decide (P = L) && (false || !decide (P = P)) || true && !decide (P = P)) (by kernel_rfl) (fun hq66 => ?_) (fun hq66 => ?_)
          · simp only [Bool.false_or, Bool.true_and, decide_eq_false_iff_not, Bool.and_eq_true, Bool.or_eq_true, Bool.not_eq_true'] at hq66
            (simp [bl] at hq66; done)
          simp only [Bool.false_or, Bool.true_and, decide_eq_true_eq, Bool.or_eq_false_iff, Bool.and_eq_false_iff, Bool.not_eq_false'] at hq66
          refine AWP.skip ?_
          refine xe0 [2, 3, 8, 9, 10, 30, 31, 32] [9, 2060005, 240002] (by kernel_rfl) ?_
          refine xe1 (os := [Con Try.prog 48 [(1000000000, Blk.mk [B8 A3, B8 B3, B8 C3, V.val (Value.slice none 0 0)] true 4 none)] [V.ptr 1000000000 0] [(1000000000, Blk.mk [B8 E, B8 E, B8 E, V.val (Value.slice none 0 0)] true 4 none)] (V.tup [i64 (nq A3 E + nq B3 E + nq C3 E), i64 0])]) [(1, ⟨some (V.tup [V.sl 1000000000 240002 0]), some ⟨V.tup [i64 (nq A3 E + nq B3 E + nq C3 E), i64 0], [(1000000000, Blk.mk [B8 E, B8 E, B8 E, nilS] true 4 none)], []⟩⟩)] [2, 3, 8, 9, 10, 20, 30, 31, 32] [9, 2060005, 240002] (by kernel_rfl) ⟨(cs2 ), trivial⟩ ?_
          refine xe0 [2, 3, 8, 9, 10, 30, 31, 32, 123] [9, 2060005, 240002] (by kernel_rfl) ?_
          refine AWP.condF (by kernel_rfl) ?_
          refine AWP.skip ?_
          refine AWP.frz 2060005 (s' := St.mk [(2, tp (V.vs cs nc)), (3, tp (V.vs ss ns)), (8, tp (vb false)), (9, tp (V.ptr 9 0)), (10, tp (B8 P)), (30, tp (V.vs xs n)), (31, tp (i64 (↑n : Int))), (32, tp (i64 i)), (123, tp (vb false))] [(9, Blk.mk [V.ptr 240002 0] false 1 none), (240002, Blk.mk [B8 E, B8 E, B8 E, V.val (Value.slice none 0 0)] true 4 none)]) (by kernel_rfl) ?_
          refine AWP.region tcok hmix [(0, ⟨some (i64 (i + 1)), none⟩)] (os := [i64 (IntKind.wrap IntKind.i64 (i + 1)) = i64 (i + 1)]) (sf := St.mk [(2, tp (V.vs cs nc)), (3, tp (V.vs ss ns)), (8, tp (vb false)), (9, tp (V.ptr 9 0)), (10, tp (B8 P)), (30, tp (V.vs xs n)), (31, tp (i64 (↑n : Int))), (32, tp (i64 (i + 1))), (123, tp (vb false)), (124, tp (i64 (i + 1)))] [(9, Blk.mk [V.ptr 240002 0] false 1 none), (240002, Blk.mk [B8 E, B8 E, B8 E, V.val (Value.slice none 0 0)] true 4 none)]) (by kernel_rfl) ⟨(wr_i64 (by omega) (by omega)), trivial⟩ ?_
          refine ⟨St.mk [(2, tp (V.vs cs nc)), (3, tp (V.vs ss ns)), (8, tp (vb false)), (9, tp (V.ptr 9 0)), (10, tp (B8 P)), (30, tp (V.vs xs n)), (31, tp (i64 (↑n : Int))), (32, tp (i64 (i + 1)))] [(9, Blk.mk [V.ptr 240002 0] false 1 none), (240002, Blk.mk [B8 E, B8 E, B8 E, V.val (Value.slice none 0 0)] true 4 none)], by kernel_rfl, ?_⟩
          (exact ⟨(n - (i + 1)).toNat, (by omega), i + 1, s + 1, P, E, rfl, hE, hPb, hPl, (by omega), (by omega), (by omega), (by omega), (by omega)⟩)
        simp only [decide_eq_false_iff_not] at hq62
        (exfalso; omega)
      simp only [decide_eq_false_iff_not] at hq60
      (exfalso; omega)
    · obtain ⟨A1, B1, C1, A2, B2, C2, h1t, gA1, gB1, gC1, ht, h2t, gA2, gB2, gC2, q1, q2⟩ := hold_a (v := 0) (by omega) gD gE dE eE hgt
      rw [dN] at ht
      have ch1 := con_hitn 1 0 _ _ _ _ _ _ (by omega) gD gD gD h1t
      have cb := con_gbegin_y A1 B1 C1 gA1.1 gB1.1 gC1.1 (by have := gA1.2.2; omega) (by have := gB1.2.2; omega) (by have := gC1.2.2; omega) P P.length hPb rfl E (by rw [ht]; exact hE) (by omega) (by omega)
      have ch2 := con_hitp 2 0 _ _ _ _ _ _ E (by omega) gE gB1 gC1 h2t
      obtain ⟨A3, B3, C3, k, m, h3t, gA3, gB3, gC3, hv2, hk, hm⟩ := q2
      have ch3 := con_hitp 3 0 _ _ _ _ _ _ E (by omega) gA2 gB2 gC2 h3t
      rcases hm with hm | hm
      · rw [hm] at hv2
        have cr := (con_gread_y A3 B3 C3 gA3.1 gB3.1 gC3.1 (by have := gA3.2.2; omega) (by have := gB3.2.2; omega) (by have := gC3.2.2; omega) nilS _ k hv2 hk)
        rw [eP] at cr
        have cs2 := con_gscrub_y A3 B3 C3 gA3.1 gB3.1 gC3.1 (by have := gA3.2.2; omega) (by have := gB3.2.2; omega) (by have := gC3.2.2; omega) _ k hv2 hk
        refine xe0 [2, 3, 8, 9, 10, 30, 31, 32, 33] [9, 240002] (by kernel_rfl) ?_
        refine AWP.seq ?_
        refine AWP.cond (b := decide (i < (↑n : Int))) (by kernel_rfl) (fun hq68 => ?_) (fun hq68 => ?_)
        · simp only [decide_eq_true_eq] at hq68
          refine AWP.skip ?_
          refine AWP.seq ?_
          refine AWP.block ?_
          refine xe1 (os := [(0 : Int) ≤ i ∧ i < (↑n : Int), V.vp (List.drop (Int.toNat i * 1) xs) = V.vp (B8 c :: r)]) [(1, ⟨some (V.vp (B8 c :: r)), none⟩)] [2, 3, 8, 9, 10, 11, 12, 30, 31, 32] [9, 240002] (by kernel_rfl) ⟨(by omega), (congrArg V.vp kx1), trivial⟩ ?_
          refine AWP.seq ?_
          refine xe0 [2, 3, 8, 9, 10, 11, 12, 30, 31, 32, 38] [9, 240002] (by kernel_rfl) ?_
          refine AWP.cond (b := decide (i ≥ 12)) (by kernel_rfl) (fun hq69 => ?_) (fun hq69 => ?_)
          · simp only [decide_eq_true_eq] at hq69
            (exfalso; omega)
          simp only [decide_eq_false_iff_not] at hq69
          refine AWP.skip ?_
          refine xe1 (os := [Con Try.prog 18 [] [B8 c, i64 100] [(5, Blk.mk (u8s P) true 0 (some (5, 1)))] (V.sl 5 0 (List.length P))]) [(1, ⟨none, some ⟨V.sl 5 0 (List.length P), [(5, Blk.mk (u8s P) true 0 (some (5, 1)))], []⟩⟩)] [2, 3, 8, 9, 10, 11, 12, 30, 31, 32] [9, 410005, 240002] (by kernel_rfl) ⟨(hcut ), trivial⟩ ?_
          refine xe0 [2, 3, 8, 9, 10, 11, 12, 13, 30, 31, 32] [9, 240002, 410005] (by kernel_rfl) ?_
          refine AWP.seq ?_
          refine xe0 [2, 3, 8, 9, 10, 11, 12, 13, 30, 31, 32, 44] [9, 410005, 240002] (by kernel_rfl) ?_
          refine AWP.cond (b := decide (i < (↑nc : Int))) (by kernel_rfl) (fun hq70 => ?_) (fun hq70 => ?_)
          · simp only [decide_eq_true_eq] at hq70
            refine xg1 (os := [(0 : Int) ≤ i ∧ i < (↑nc : Int), V.vp (List.drop (Int.toNat i * 1) cs) = V.vp (u8 u :: ru), (4 : Int) ≠ (0 : Int), u8 (Int.tmod u 4) = u8 (u % 4), u8 (u % 4) = u8 1]) [(2, ⟨some (V.vp (u8 u :: ru)), none⟩), (4, ⟨some (u8 (u % 4)), none⟩), (5, ⟨some (u8 1), none⟩)] [2, 3, 8, 9, 10, 11, 12, 13, 30, 31, 32] [9, 410005, 240002] (by kernel_rfl) ⟨(by omega), (congrArg V.vp (ku (by omega))), (by omega), (tm_ (by omega)), (in_eq wfu), trivial⟩ ?_
            refine xe0 [2, 3, 8, 9, 10, 11, 12, 13, 14, 30, 31, 32] [9, 14, 240002, 410005] (by kernel_rfl) ?_
            refine AWP.seq ?_
            refine xe0 [2, 3, 8, 9, 10, 11, 12, 13, 14, 30, 31, 32, 53] [9, 410005, 14, 240002] (by kernel_rfl) ?_
            refine AWP.cond (b := decide (i < (↑ns : Int))) (by kernel_rfl) (fun hq71 => ?_) (fun hq71 => ?_)
            · simp only [decide_eq_true_eq] at hq71
              (exfalso; omega)
            simp only [decide_eq_false_iff_not] at hq71
            refine AWP.skip ?_
            refine xe0 [2, 3, 8, 9, 10, 12, 13, 15, 30, 31, 32] [9, 410005, 14, 240002] (by kernel_rfl) ?_
            refine xe1 (os := [Con Try.prog 58 [(1000000000, Blk.mk [V.ptr 1000000002 0] false 1 none), (1000000001, Blk.mk [u16 0] true 1 none), (1000000002, Blk.mk [B8 D, B8 D, B8 D, V.val (Value.slice none 0 0)] true 4 none)] [u16 1, V.ptr 1000000001 0, V.ptr 1000000000 0] [(1000000000, Blk.mk [V.ptr 1000000002 0] false 1 none), (1000000001, Blk.mk [u16 0] true 1 none), (1000000002, Blk.mk [B8 A1, B8 B1, B8 C1, V.val (Value.slice none 0 0)] true 4 none)] (V.tup [])]) [(1, ⟨some (V.tup [V.sl 1000000000 9 0, V.sl 1000000001 14 0, V.sl 1000000002 240002 0]), some ⟨V.tup [], [(1000000000, Blk.mk [V.ptr 1000000002 0] false 1 none), (1000000001, Blk.mk [u16 0] true 1 none), (1000000002, Blk.mk [B8 A1, B8 B1, B8 C1, nilS] true 4 none)], []⟩⟩)] [2, 3, 8, 9, 10, 12, 13, 15, 30, 31, 32] [9, 410005, 14, 240002] (by kernel_rfl) ⟨(ch1 ), trivial⟩ ?_
            refine AWP.seq ?_
            refine AWP.seq ?_
            refine AWP.frz 410005 (s' := St.mk [(2, tp (V.vs cs nc)), (3, tp (V.vs ss ns)), (8, tp (vb false)), (9, tp (V.ptr 9 0)), (10, tp (B8 L)), (12, tp (B8 P)), (13, tp (u8 1)), (15, tp (V.clo (Fn.func 58) [] [V.ptr 14 0, V.ptr 9 0])), (30, tp (V.vs xs n)), (31, tp (i64 (↑n : Int))), (32, tp (i64 i))] [(9, Blk.mk [V.ptr 240002 0] false 1 none), (14, Blk.mk [u16 0] true 1 none), (240002, Blk.mk [B8 A1, B8 B1, B8 C1, V.val (Value.slice none 0 0)] true 4 none)]) (by kernel_rfl) ?_
            refine xg1 (os := [Con Try.prog 45 [(1000000000, Blk.mk [B8 A1, B8 B1, B8 C1, V.val (Value.slice none 0 0)] true 4 none)] [V.ptr 1000000000 0, B8 P] [(1000000000, Blk.mk [B8 E, B8 B1, B8 C1, B8 E] true 4 none)] (i64 0)]) [(5, ⟨some (V.tup [V.sl 1000000000 240002 0]), some ⟨i64 0, [(1000000000, Blk.mk [B8 E, B8 B1, B8 C1, B8 E] true 4 none)], []⟩⟩)] [2, 3, 8, 9, 10, 12, 13, 15, 30, 31, 32, 68] [9, 14, 240002] (by kernel_rfl) ⟨(cb ), trivial⟩ ?_
            refine AWP.condF (by kernel_rfl) ?_
            refine AWP.skip ?_
            refine xe1 (os := [Con Try.prog 58 [(1000000000, Blk.mk [V.ptr 1000000002 0] false 1 none), (1000000001, Blk.mk [u16 0] true 1 none), (1000000002, Blk.mk [B8 E, B8 B1, B8 C1, B8 E] true 4 none)] [u16 2, V.ptr 1000000001 0, V.ptr 1000000000 0] [(1000000000, Blk.mk [V.ptr 1000000002 0] false 1 none), (1000000001, Blk.mk [u16 0] true 1 none), (1000000002, Blk.mk [B8 A2, B8 B2, B8 C2, B8 E] true 4 none)] (V.tup [])]) [(1, ⟨some (V.tup [V.sl 1000000000 9 0, V.sl 1000000001 14 0, V.sl 1000000002 240002 0]), some ⟨V.tup [], [(1000000000, Blk.mk [V.ptr 1000000002 0] false 1 none), (1000000001, Blk.mk [u16 0] true 1 none), (1000000002, Blk.mk [B8 A2, B8 B2, B8 C2, B8 E] true 4 none)], []⟩⟩)] [2, 3, 8, 9, 10, 12, 13, 15, 30, 31, 32] [9, 14, 240002] (by kernel_rfl) ⟨(ch2 ), trivial⟩ ?_
            refine AWP.seq ?_
            refine xe1 (os := [false = true → False]) [(5, ⟨some (V.tup [vb false]), none⟩)] [2, 3, 8, 9, 10, 12, 13, 15, 30, 31, 32, 77] [9, 14, 240002] (by kernel_rfl) ⟨(by (intro hc0; first | (cases hc0; done) | (exfalso; simp_all; done) | ((try simp only [Bool.or_false, Bool.false_or, Bool.true_and, Bool.and_true, decide_eq_true_eq, decide_eq_false_iff_not, Bool.and_eq_true, Bool.or_eq_true, Bool.or_eq_false_iff, Bool.not_eq_true', Bool.and_eq_false_iff, beq_iff_eq, bne_iff_ne, bne_eq_false_iff_eq, beq_eq_false_iff_ne, Bool.not_eq_false'] at hc0); omega))), trivial⟩ ?_
            refine AWP.condF (by kernel_rfl) ?_
            refine AWP.skip ?_
            refine xe1 (os := [Con Try.prog 58 [(1000000000, Blk.mk [V.ptr 1000000002 0] false 1 none), (1000000001, Blk.mk [u16 0] true 1 none), (1000000002, Blk.mk [B8 A2, B8 B2, B8 C2, B8 E] true 4 none)] [u16 3, V.ptr 1000000001 0, V.ptr 1000000000 0] [(1000000000, Blk.mk [V.ptr 1000000002 0] false 1 none), (1000000001, Blk.mk [u16 0] true 1 none), (1000000002, Blk.mk [B8 A3, B8 B3, B8 C3, B8 E] true 4 none)] (V.tup [])]) [(1, ⟨some (V.tup [V.sl 1000000000 9 0, V.sl 1000000001 14 0, V.sl 1000000002 240002 0]), some ⟨V.tup [], [(1000000000, Blk.mk [V.ptr 1000000002 0] false 1 none), (1000000001, Blk.mk [u16 0] true 1 none), (1000000002, Blk.mk [B8 A3, B8 B3, B8 C3, B8 E] true 4 none)], []⟩⟩)] [2, 3, 8, 9, 10, 12, 13, 30, 31, 32] [9, 240002] (by kernel_rfl) ⟨(ch3 ), trivial⟩ ?_
            refine xe1 [(1, ⟨some (V.tup [V.sl 1000000000 240002 0]), some ⟨V.tup [], [(1000000000, Blk.mk [B8 A3, B8 B3, B8 C3, nilS] true 4 none)], []⟩⟩)] [2, 3, 8, 9, 10, 12, 13, 30, 31, 32] [9, 240002] (by kernel_rfl) (AllP.c (con_greset (B8 A3) (B8 B3) (B8 C3) (B8 E)) AllP.n) ?_
            refine xe1 (os := [VO (V.tup [u32 (cNo E), V.sl (1210005 : Nat) (0 : Nat) (List.length P), i64 (0 : Int)]), VOH [((1210005 : Nat), Blk.mk (u8s P) true (0 : Nat) (some ((5 : Nat), (1 : Nat))))], Con Try.prog 47 [] [V.vp [B8 A3, B8 B3, B8 C3, V.val (Value.slice none 0 0)]] [(1210005, Blk.mk (u8s P) true 0 (some (5, 1)))] (V.tup [u32 (cNo E), V.sl 1210005 0 (List.length P), i64 0])]) [(1, ⟨none, some ⟨V.tup [u32 (cNo E), V.sl 1210005 0 (List.length P), i64 0], [(1210005, Blk.mk (u8s P) true 0 (some (5, 1)))], [(240002, true)]⟩⟩)] [2, 3, 8, 9, 10, 12, 13, 17, 18, 30, 31, 32] [9, 2060005, 240002] (by kernel_rfl) ⟨(VO.tup (VOL.cons (VO.val _) (VOL.cons (VO.sl _ _ _) (VOL.cons (VO.val _) VOL.nil)))), ⟨(VOL.u8s _), trivial⟩, (cr ), trivial⟩ ?_
            refine AWP.seq ?_
            refine xe1 (os := [false = false → VO (vb (decide (P = L))) ∧ VOH [] ∧ Con Try.prog (23 : Nat) [] [B8 P, B8 L] [] (vb (decide (P = L))) ∧ (0 : Nat) = (0 : Nat) ∧ List.length P * (1 : Nat) = List.length (u8s P) ∧ True, false = false → (!decide (P = L)) = true → false = false → VO (vb (decide (P = P))) ∧ VOH [] ∧ Con Try.prog (23 : Nat) [] [B8 P, B8 P] [] (vb (decide (P = P))) ∧ (0 : Nat) = (0 : Nat) ∧ List.length P * (1 : Nat) = List.length (u8s P) ∧ True, false = true → (false || !decide (P = L) && (false || !decide (P = P))) = false → VO (vb (decide (P = P))) ∧ VOH [] ∧ Con Try.prog (23 : Nat) [] [B8 P, B8 P] [] (vb (decide (P = P))) ∧ (0 : Nat) = (0 : Nat) ∧ List.length P * (1 : Nat) = List.length (u8s P) ∧ True]) [(5, ⟨none, some ⟨vb (decide (P = L)), [], [(2060005, true)]⟩⟩), (13, ⟨none, some ⟨vb (decide (P = P)), [], [(2060005, true)]⟩⟩), (24, ⟨none, some ⟨vb (decide (P = P)), [], [(2060005, true)]⟩⟩)] [2, 3, 8, 9, 10, 17, 30, 31, 32, 115] [9, 2060005, 240002] (by kernel_rfl) ⟨(by intro hc0; first | (cases hc0; done) | ((try simp only [Bool.or_false, Bool.false_or, Bool.true_and, Bool.and_true, decide_eq_true_eq, decide_eq_false_iff_not, Bool.and_eq_true, Bool.or_eq_true, Bool.or_eq_false_iff, Bool.not_eq_true', Bool.and_eq_false_iff, beq_iff_eq, bne_iff_ne, bne_eq_false_iff_eq, beq_eq_false_iff_ne, Bool.not_eq_false'] at hc0); exact ⟨(VO.val _), trivial, (con_samen (P) (L) (List.length P) (List.length L) (by omega) (by omega) (by omega) (by omega)), (by omega), (by (simp [len_u8s]; done)), trivial⟩)), (by intro hc0 hc1 hc2; first | (cases hc0; done) | ((try simp only [Bool.or_false, Bool.false_or, Bool.true_and, Bool.and_true, decide_eq_true_eq, decide_eq_false_iff_not, Bool.and_eq_true, Bool.or_eq_true, Bool.or_eq_false_iff, Bool.not_eq_true', Bool.and_eq_false_iff, beq_iff_eq, bne_iff_ne, bne_eq_false_iff_eq, beq_eq_false_iff_ne, Bool.not_eq_false'] at hc0 hc1 hc2); exact ⟨(VO.val _), trivial, (con_samen (P) (P) (List.length P) (List.length P) (by omega) (by omega) (by omega) (by omega)), (by omega), (by (simp [len_u8s]; done)), trivial⟩)), (by intro hc0 hc1; first | (cases hc0; done) | ((try simp only [Bool.or_false, Bool.false_or, Bool.true_and, Bool.and_true, decide_eq_true_eq, decide_eq_false_iff_not, Bool.and_eq_true, Bool.or_eq_true, Bool.or_eq_false_iff, Bool.not_eq_true', Bool.and_eq_false_iff, beq_iff_eq, bne_iff_ne, bne_eq_false_iff_eq, beq_eq_false_iff_ne, Bool.not_eq_false'] at hc0 hc1); exact ⟨(VO.val _), trivial, (con_samen (P) (P) (List.length P) (List.length P) (by omega) (by omega) (by omega) (by omega)), (by omega), (by (simp [len_u8s]; done)), trivial⟩)), trivial⟩ ?_
            refine AWP.cond (b := false || !decide (P = L) && (false || !decide (P = P)) || false) (by kernel_rfl) (fun hq74 => ?_) (fun hq74 => ?_)
            · simp only [Bool.or_false, Bool.false_or, decide_eq_false_iff_not, Bool.and_eq_true, Bool.not_eq_true'] at hq74
              (simp [bl] at hq74; done)
            simp only [Bool.or_false, Bool.false_or, decide_eq_true_eq, Bool.and_eq_false_iff, Bool.not_eq_false'] at hq74
            refine AWP.skip ?_
            refine xe0 [2, 3, 8, 9, 10, 30, 31, 32] [9, 2060005, 240002] (by kernel_rfl) ?_
            refine xe1 (os := [Con Try.prog 48 [(1000000000, Blk.mk [B8 A3, B8 B3, B8 C3, V.val (Value.slice none 0 0)] true 4 none)] [V.ptr 1000000000 0] [(1000000000, Blk.mk [B8 E, B8 E, B8 E, V.val (Value.slice none 0 0)] true 4 none)] (V.tup [i64 (nq A3 E + nq B3 E + nq C3 E), i64 0])]) [(1, ⟨some (V.tup [V.sl 1000000000 240002 0]), some ⟨V.tup [i64 (nq A3 E + nq B3 E + nq C3 E), i64 0], [(1000000000, Blk.mk [B8 E, B8 E, B8 E, nilS] true 4 none)], []⟩⟩)] [2, 3, 8, 9, 10, 20, 30, 31, 32] [9, 2060005, 240002] (by kernel_rfl) ⟨(cs2 ), trivial⟩ ?_
            refine xe0 [2, 3, 8, 9, 10, 30, 31, 32, 123] [9, 2060005, 240002] (by kernel_rfl) ?_
            refine AWP.condF (by kernel_rfl) ?_
            refine AWP.skip ?_
            refine AWP.frz 2060005 (s' := St.mk [(2, tp (V.vs cs nc)), (3, tp (V.vs ss ns)), (8, tp (vb false)), (9, tp (V.ptr 9 0)), (10, tp (B8 P)), (30, tp (V.vs xs n)), (31, tp (i64 (↑n : Int))), (32, tp (i64 i)), (123, tp (vb false))] [(9, Blk.mk [V.ptr 240002 0] false 1 none), (240002, Blk.mk [B8 E, B8 E, B8 E, V.val (Value.slice none 0 0)] true 4 none)]) (by kernel_rfl) ?_
            refine AWP.region tcok hmix [(0, ⟨some (i64 (i + 1)), none⟩)] (os := [i64 (IntKind.wrap IntKind.i64 (i + 1)) = i64 (i + 1)]) (sf := St.mk [(2, tp (V.vs cs nc)), (3, tp (V.vs ss ns)), (8, tp (vb false)), (9, tp (V.ptr 9 0)), (10, tp (B8 P)), (30, tp (V.vs xs n)), (31, tp (i64 (↑n : Int))), (32, tp (i64 (i + 1))), (123, tp (vb false)), (124, tp (i64 (i + 1)))] [(9, Blk.mk [V.ptr 240002 0] false 1 none), (240002, Blk.mk [B8 E, B8 E, B8 E, V.val (Value.slice none 0 0)] true 4 none)]) (by kernel_rfl) ⟨(wr_i64 (by omega) (by omega)), trivial⟩ ?_
            refine ⟨St.mk [(2, tp (V.vs cs nc)), (3, tp (V.vs ss ns)), (8, tp (vb false)), (9, tp (V.ptr 9 0)), (10, tp (B8 P)), (30, tp (V.vs xs n)), (31, tp (i64 (↑n : Int))), (32, tp (i64 (i + 1)))] [(9, Blk.mk [V.ptr 240002 0] false 1 none), (240002, Blk.mk [B8 E, B8 E, B8 E, V.val (Value.slice none 0 0)] true 4 none)], by kernel_rfl, ?_⟩
            (exact ⟨(n - (i + 1)).toNat, (by omega), i + 1, s + 1, P, E, rfl, hE, hPb, hPl, (by omega), (by omega), (by omega), (by omega), (by omega)⟩)
          simp only [decide_eq_false_iff_not] at hq70
          (exfalso; omega)
        simp only [decide_eq_false_iff_not] at hq68
        (exfalso; omega)
      · rw [hm] at hv2
        have cr := (con_gread_y A3 B3 C3 gA3.1 gB3.1 gC3.1 (by have := gA3.2.2; omega) (by have := gB3.2.2; omega) (by have := gC3.2.2; omega) nilS _ k hv2 hk)
        rw [dP] at cr
        have cs2 := con_gscrub_y A3 B3 C3 gA3.1 gB3.1 gC3.1 (by have := gA3.2.2; omega) (by have := gB3.2.2; omega) (by have := gC3.2.2; omega) _ k hv2 hk
        refine xe0 [2, 3, 8, 9, 10, 30, 31, 32, 33] [9, 240002] (by kernel_rfl) ?_
        refine AWP.seq ?_
        refine AWP.cond (b := decide (i < (↑n : Int))) (by kernel_rfl) (fun hq76 => ?_) (fun hq76 => ?_)
        · simp only [decide_eq_true_eq] at hq76
          refine AWP.skip ?_
          refine AWP.seq ?_
          refine AWP.block ?_
          refine xe1 (os := [(0 : Int) ≤ i ∧ i < (↑n : Int), V.vp (List.drop (Int.toNat i * 1) xs) = V.vp (B8 c :: r)]) [(1, ⟨some (V.vp (B8 c :: r)), none⟩)] [2, 3, 8, 9, 10, 11, 12, 30, 31, 32] [9, 240002] (by kernel_rfl) ⟨(by omega), (congrArg V.vp kx1), trivial⟩ ?_
          refine AWP.seq ?_
          refine xe0 [2, 3, 8, 9, 10, 11, 12, 30, 31, 32, 38] [9, 240002] (by kernel_rfl) ?_
          refine AWP.cond (b := decide (i ≥ 12)) (by kernel_rfl) (fun hq77 => ?_) (fun hq77 => ?_)
          · simp only [decide_eq_true_eq] at hq77
            (exfalso; omega)
          simp only [decide_eq_false_iff_not] at hq77
          refine AWP.skip ?_
          refine xe1 (os := [Con Try.prog 18 [] [B8 c, i64 100] [(5, Blk.mk (u8s P) true 0 (some (5, 1)))] (V.sl 5 0 (List.length P))]) [(1, ⟨none, some ⟨V.sl 5 0 (List.length P), [(5, Blk.mk (u8s P) true 0 (some (5, 1)))], []⟩⟩)] [2, 3, 8, 9, 10, 11, 12, 30, 31, 32] [9, 410005, 240002] (by kernel_rfl) ⟨(hcut ), trivial⟩ ?_
          refine xe0 [2, 3, 8, 9, 10, 11, 12, 13, 30, 31, 32] [9, 240002, 410005] (by kernel_rfl) ?_
          refine AWP.seq ?_
          refine xe0 [2, 3, 8, 9, 10, 11, 12, 13, 30, 31, 32, 44] [9, 410005, 240002] (by kernel_rfl) ?_
          refine AWP.cond (b := decide (i < (↑nc : Int))) (by kernel_rfl) (fun hq78 => ?_) (fun hq78 => ?_)
          · simp only [decide_eq_true_eq] at hq78
            refine xg1 (os := [(0 : Int) ≤ i ∧ i < (↑nc : Int), V.vp (List.drop (Int.toNat i * 1) cs) = V.vp (u8 u :: ru), (4 : Int) ≠ (0 : Int), u8 (Int.tmod u 4) = u8 (u % 4), u8 (u % 4) = u8 1]) [(2, ⟨some (V.vp (u8 u :: ru)), none⟩), (4, ⟨some (u8 (u % 4)), none⟩), (5, ⟨some (u8 1), none⟩)] [2, 3, 8, 9, 10, 11, 12, 13, 30, 31, 32] [9, 410005, 240002] (by kernel_rfl) ⟨(by omega), (congrArg V.vp (ku (by omega))), (by omega), (tm_ (by omega)), (in_eq wfu), trivial⟩ ?_
            refine xe0 [2, 3, 8, 9, 10, 11, 12, 13, 14, 30, 31, 32] [9, 14, 240002, 410005] (by kernel_rfl) ?_
            refine AWP.seq ?_
            refine xe0 [2, 3, 8, 9, 10, 11, 12, 13, 14, 30, 31, 32, 53] [9, 410005, 14, 240002] (by kernel_rfl) ?_
            refine AWP.cond (b := decide (i < (↑ns : Int))) (by kernel_rfl) (fun hq79 => ?_) (fun hq79 => ?_)
            · simp only [decide_eq_true_eq] at hq79
              (exfalso; omega)
            simp only [decide_eq_false_iff_not] at hq79
            refine AWP.skip ?_
            refine xe0 [2, 3, 8, 9, 10, 12, 13, 15, 30, 31, 32] [9, 410005, 14, 240002] (by kernel_rfl) ?_
            refine xe1 (os := [Con Try.prog 58 [(1000000000, Blk.mk [V.ptr 1000000002 0] false 1 none), (1000000001, Blk.mk [u16 0] true 1 none), (1000000002, Blk.mk [B8 D, B8 D, B8 D, V.val (Value.slice none 0 0)] true 4 none)] [u16 1, V.ptr 1000000001 0, V.ptr 1000000000 0] [(1000000000, Blk.mk [V.ptr 1000000002 0] false 1 none), (1000000001, Blk.mk [u16 0] true 1 none), (1000000002, Blk.mk [B8 A1, B8 B1, B8 C1, V.val (Value.slice none 0 0)] true 4 none)] (V.tup [])]) [(1, ⟨some (V.tup [V.sl 1000000000 9 0, V.sl 1000000001 14 0, V.sl 1000000002 240002 0]), some ⟨V.tup [], [(1000000000, Blk.mk [V.ptr 1000000002 0] false 1 none), (1000000001, Blk.mk [u16 0] true 1 none), (1000000002, Blk.mk [B8 A1, B8 B1, B8 C1, nilS] true 4 none)], []⟩⟩)] [2, 3, 8, 9, 10, 12, 13, 15, 30, 31, 32] [9, 410005, 14, 240002] (by kernel_rfl) ⟨(ch1 ), trivial⟩ ?_
            refine AWP.seq ?_
            refine AWP.seq ?_
            refine AWP.frz 410005 (s' := St.mk [(2, tp (V.vs cs nc)), (3, tp (V.vs ss ns)), (8, tp (vb false)), (9, tp (V.ptr 9 0)), (10, tp (B8 L)), (12, tp (B8 P)), (13, tp (u8 1)), (15, tp (V.clo (Fn.func 58) [] [V.ptr 14 0, V.ptr 9 0])), (30, tp (V.vs xs n)), (31, tp (i64 (↑n : Int))), (32, tp (i64 i))] [(9, Blk.mk [V.ptr 240002 0] false 1 none), (14, Blk.mk [u16 0] true 1 none), (240002, Blk.mk [B8 A1, B8 B1, B8 C1, V.val (Value.slice none 0 0)] true 4 none)]) (by kernel_rfl) ?_
            refine xg1 (os := [Con Try.prog 45 [(1000000000, Blk.mk [B8 A1, B8 B1, B8 C1, V.val (Value.slice none 0 0)] true 4 none)] [V.ptr 1000000000 0, B8 P] [(1000000000, Blk.mk [B8 E, B8 B1, B8 C1, B8 E] true 4 none)] (i64 0)]) [(5, ⟨some (V.tup [V.sl 1000000000 240002 0]), some ⟨i64 0, [(1000000000, Blk.mk [B8 E, B8 B1, B8 C1, B8 E] true 4 none)], []⟩⟩)] [2, 3, 8, 9, 10, 12, 13, 15, 30, 31, 32, 68] [9, 14, 240002] (by kernel_rfl) ⟨(cb ), trivial⟩ ?_
            refine AWP.condF (by kernel_rfl) ?_
            refine AWP.skip ?_
            refine xe1 (os := [Con Try.prog 58 [(1000000000, Blk.mk [V.ptr 1000000002 0] false 1 none), (1000000001, Blk.mk [u16 0] true 1 none), (1000000002, Blk.mk [B8 E, B8 B1, B8 C1, B8 E] true 4 none)] [u16 2, V.ptr 1000000001 0, V.ptr 1000000000 0] [(1000000000, Blk.mk [V.ptr 1000000002 0] false 1 none), (1000000001, Blk.mk [u16 0] true 1 none), (1000000002, Blk.mk [B8 A2, B8 B2, B8 C2, B8 E] true 4 none)] (V.tup [])]) [(1, ⟨some (V.tup [V.sl 1000000000 9 0, V.sl 1000000001 14 0, V.sl 1000000002 240002 0]), some ⟨V.tup [], [(1000000000, Blk.mk [V.ptr 1000000002 0] false 1 none), (1000000001, Blk.mk [u16 0] true 1 none), (1000000002, Blk.mk [B8 A2, B8 B2, B8 C2, B8 E] true 4 none)], []⟩⟩)] [2, 3, 8, 9, 10, 12, 13, 15, 30, 31, 32] [9, 14, 240002] (by kernel_rfl) ⟨(ch2 ), trivial⟩ ?_
            refine AWP.seq ?_
            refine xe1 (os := [false = true → False]) [(5, ⟨some (V.tup [vb false]), none⟩)] [2, 3, 8, 9, 10, 12, 13, 15, 30, 31, 32, 77] [9, 14, 240002] (by kernel_rfl) ⟨(by (intro hc0; first | (cases hc0; done) | (exfalso; simp_all; done) | ((try simp only [Bool.or_false, Bool.false_or, Bool.true_and, Bool.and_true, decide_eq_true_eq, decide_eq_false_iff_not, Bool.and_eq_true, Bool.or_eq_true, Bool.or_eq_false_iff, Bool.not_eq_true', Bool.and_eq_false_iff, beq_iff_eq, bne_iff_ne, bne_eq_false_iff_eq, beq_eq_false_iff_ne, Bool.not_eq_false'] at hc0); omega))), trivial⟩ ?_
            refine AWP.condF (by kernel_rfl) ?_
            refine AWP.skip ?_
            refine xe1 (os := [Con Try.prog 58 [(1000000000, Blk.mk [V.ptr 1000000002 0] false 1 none), (1000000001, Blk.mk [u16 0] true 1 none), (1000000002, Blk.mk [B8 A2, B8 B2, B8 C2, B8 E] true 4 none)] [u16 3, V.ptr 1000000001 0, V.ptr 1000000000 0] [(1000000000, Blk.mk [V.ptr 1000000002 0] false 1 none), (1000000001, Blk.mk [u16 0] true 1 none), (1000000002, Blk.mk [B8 A3, B8 B3, B8 C3, B8 E] true 4 none)] (V.tup [])]) [(1, ⟨some (V.tup [V.sl 1000000000 9 0, V.sl 1000000001 14 0, V.sl 1000000002 240002 0]), some ⟨V.tup [], [(1000000000, Blk.mk [V.ptr 1000000002 0] false 1 none), (1000000001, Blk.mk [u16 0] true 1 none), (1000000002, Blk.mk [B8 A3, B8 B3, B8 C3, B8 E] true 4 none)], []⟩⟩)] [2, 3, 8, 9, 10, 12, 13, 30, 31, 32] [9, 240002] (by kernel_rfl) ⟨(ch3 ), trivial⟩ ?_
            refine xe1 [(1, ⟨some (V.tup [V.sl 1000000000 240002 0]), some ⟨V.tup [], [(1000000000, Blk.mk [B8 A3, B8 B3, B8 C3, nilS] true 4 none)], []⟩⟩)] [2, 3, 8, 9, 10, 12, 13, 30, 31, 32] [9, 240002] (by kernel_rfl) (AllP.c (con_greset (B8 A3) (B8 B3) (B8 C3) (B8 E)) AllP.n) ?_
            refine xe1 (os := [VO (V.tup [u32 (cNo D), V.sl (1210005 : Nat) (0 : Nat) (List.length L), i64 (0 : Int)]), VOH [((1210005 : Nat), Blk.mk (u8s L) true (0 : Nat) (some ((5 : Nat), (1 : Nat))))], Con Try.prog 47 [] [V.vp [B8 A3, B8 B3, B8 C3, V.val (Value.slice none 0 0)]] [(1210005, Blk.mk (u8s L) true 0 (some (5, 1)))] (V.tup [u32 (cNo D), V.sl 1210005 0 (List.length L), i64 0])]) [(1, ⟨none, some ⟨V.tup [u32 (cNo D), V.sl 1210005 0 (List.length L), i64 0], [(1210005, Blk.mk (u8s L) true 0 (some (5, 1)))], [(240002, true)]⟩⟩)] [2, 3, 8, 9, 10, 12, 13, 17, 18, 30, 31, 32] [9, 2060005, 240002] (by kernel_rfl) ⟨(VO.tup (VOL.cons (VO.val _) (VOL.cons (VO.sl _ _ _) (VOL.cons (VO.val _) VOL.nil)))), ⟨(VOL.u8s _), trivial⟩, (cr ), trivial⟩ ?_
            refine AWP.seq ?_
            refine xe1 (os := [false = false → VO (vb (decide (L = L))) ∧ VOH [] ∧ Con Try.prog (23 : Nat) [] [B8 L, B8 L] [] (vb (decide (L = L))) ∧ (0 : Nat) = (0 : Nat) ∧ List.length L * (1 : Nat) = List.length (u8s L) ∧ True, false = false → (!decide (L = L)) = true → false = false → VO (vb (decide (L = P))) ∧ VOH [] ∧ Con Try.prog (23 : Nat) [] [B8 L, B8 P] [] (vb (decide (L = P))) ∧ (0 : Nat) = (0 : Nat) ∧ List.length L * (1 : Nat) = List.length (u8s L) ∧ True, false = true → (false || !decide (L = L) && (false || !decide (L = P))) = false → VO (vb (decide (L = P))) ∧ VOH [] ∧ Con Try.prog (23 : Nat) [] [B8 L, B8 P] [] (vb (decide (L = P))) ∧ (0 : Nat) = (0 : Nat) ∧ List.length L * (1 : Nat) = List.length (u8s L) ∧ True]) [(5, ⟨none, some ⟨vb (decide (L = L)), [], [(2060005, true)]⟩⟩), (13, ⟨none, some ⟨vb (decide (L = P)), [], [(2060005, true)]⟩⟩), (24, ⟨none, some ⟨vb (decide (L = P)), [], [(2060005, true)]⟩⟩)] [2, 3, 8, 9, 10, 17, 30, 31, 32, 115] [9, 2060005, 240002] (by kernel_rfl) ⟨(by intro hc0; first | (cases hc0; done) | ((try simp only [Bool.or_false, Bool.false_or, Bool.true_and, Bool.and_true, decide_eq_true_eq, decide_eq_false_iff_not, Bool.and_eq_true, Bool.or_eq_true, Bool.or_eq_false_iff, Bool.not_eq_true', Bool.and_eq_false_iff, beq_iff_eq, bne_iff_ne, bne_eq_false_iff_eq, beq_eq_false_iff_ne, Bool.not_eq_false'] at hc0); exact ⟨(VO.val _), trivial, (con_samen (L) (L) (List.length L) (List.length L) (by omega) (by omega) (by omega) (by omega)), (by omega), (by (simp [len_u8s]; done)), trivial⟩)), (by intro hc0 hc1 hc2; first | (cases hc0; done) | ((try simp only [Bool.or_false, Bool.false_or, Bool.true_and, Bool.and_true, decide_eq_true_eq, decide_eq_false_iff_not, Bool.and_eq_true, Bool.or_eq_true, Bool.or_eq_false_iff, Bool.not_eq_true', Bool.and_eq_false_iff, beq_iff_eq, bne_iff_ne, bne_eq_false_iff_eq, beq_eq_false_iff_ne, Bool.not_eq_false'] at hc0 hc1 hc2); exact ⟨(VO.val _), trivial, (con_samen (L) (P) (List.length L) (List.length P) (by omega) (by omega) (by omega) (by omega)), (by omega), (by (simp [len_u8s]; done)), trivial⟩)), (by intro hc0 hc1; first | (cases hc0; done) | ((try simp only [Bool.or_false, Bool.false_or, Bool.true_and, Bool.and_true, decide_eq_true_eq, decide_eq_false_iff_not, Bool.and_eq_true, Bool.or_eq_true, Bool.or_eq_false_iff, Bool.not_eq_true', Bool.and_eq_false_iff, beq_iff_eq, bne_iff_ne, bne_eq_false_iff_eq, beq_eq_false_iff_ne, Bool.not_eq_false'] at hc0 hc1); exact ⟨(VO.val _), trivial, (con_samen (L) (P) (List.length L) (List.length P) (by omega) (by omega) (by omega) (by omega)), (by omega), (by (simp [len_u8s]; done)), trivial⟩)), trivial⟩ ?_
            refine AWP.cond (b := false || !decide (L = L) && (false || !decide (L = P)) || false) (by kernel_rfl) (fun hq82 => ?_) (fun hq82 => ?_)
            · simp only [Bool.or_false, Bool.false_or, decide_eq_false_iff_not, Bool.and_eq_true, Bool.not_eq_true'] at hq82
              (simp [bl] at hq82; done)
            simp only [Bool.or_false, Bool.false_or, decide_eq_true_eq, Bool.and_eq_false_iff, Bool.not_eq_false'] at hq82
            refine AWP.skip ?_
            refine xe0 [2, 3, 8, 9, 10, 30, 31, 32] [9, 2060005, 240002] (by kernel_rfl) ?_
            refine xe1 (os := [Con Try.prog 48 [(1000000000, Blk.mk [B8 A3, B8 B3, B8 C3, V.val (Value.slice none 0 0)] true 4 none)] [V.ptr 1000000000 0] [(1000000000, Blk.mk [B8 D, B8 D, B8 D, V.val (Value.slice none 0 0)] true 4 none)] (V.tup [i64 (nq A3 D + nq B3 D + nq C3 D), i64 0])]) [(1, ⟨some (V.tup [V.sl 1000000000 240002 0]), some ⟨V.tup [i64 (nq A3 D + nq B3 D + nq C3 D), i64 0], [(1000000000, Blk.mk [B8 D, B8 D, B8 D, nilS] true 4 none)], []⟩⟩)] [2, 3, 8, 9, 10, 20, 30, 31, 32] [9, 2060005, 240002] (by kernel_rfl) ⟨(cs2 ), trivial⟩ ?_
            refine xe0 [2, 3, 8, 9, 10, 30, 31, 32, 123] [9, 2060005, 240002] (by kernel_rfl) ?_
            refine AWP.condF (by kernel_rfl) ?_
            refine AWP.skip ?_
            refine AWP.frz 2060005 (s' := St.mk [(2, tp (V.vs cs nc)), (3, tp (V.vs ss ns)), (8, tp (vb false)), (9, tp (V.ptr 9 0)), (10, tp (B8 L)), (30, tp (V.vs xs n)), (31, tp (i64 (↑n : Int))), (32, tp (i64 i)), (123, tp (vb false))] [(9, Blk.mk [V.ptr 240002 0] false 1 none), (240002, Blk.mk [B8 D, B8 D, B8 D, V.val (Value.slice none 0 0)] true 4 none)]) (by kernel_rfl) ?_
            refine AWP.region tcok hmix [(0, ⟨some (i64 (i + 1)), none⟩)] (os := [i64 (IntKind.wrap IntKind.i64 (i + 1)) = i64 (i + 1)]) (sf := St.mk [(2, tp (V.vs cs nc)), (3, tp (V.vs ss ns)), (8, tp (vb false)), (9, tp (V.ptr 9 0)), (10, tp (B8 L)), (30, tp (V.vs xs n)), (31, tp (i64 (↑n : Int))), (32, tp (i64 (i + 1))), (123, tp (vb false)), (124, tp (i64 (i + 1)))] [(9, Blk.mk [V.ptr 240002 0] false 1 none), (240002, Blk.mk [B8 D, B8 D, B8 D, V.val (Value.slice none 0 0)] true 4 none)]) (by kernel_rfl) ⟨(wr_i64 (by omega) (by omega)), trivial⟩ ?_
            refine ⟨St.mk [(2, tp (V.vs cs nc)), (3, tp (V.vs ss ns)), (8, tp (vb false)), (9, tp (V.ptr 9 0)), (10, tp (B8 L)), (30, tp (V.vs xs n)), (31, tp (i64 (↑n : Int))), (32, tp (i64 (i + 1)))] [(9, Blk.mk [V.ptr 240002 0] false 1 none), (240002, Blk.mk [B8 D, B8 D, B8 D, V.val (Value.slice none 0 0)] true 4 none)], by kernel_rfl, ?_⟩
            (exact ⟨(n - (i + 1)).toNat, (by omega), i + 1, s, L, D, rfl, hD, hLb, hLl, (by omega), (by omega), (by omega), (by omega), (by omega)⟩)
          simp only [decide_eq_false_iff_not] at hq78
          (exfalso; omega)
        simp only [decide_eq_false_iff_not] at hq76
        (exfalso; omega)
    · obtain ⟨A1, B1, C1, A2, B2, C2, h1t, gA1, gB1, gC1, ht, h2t, gA2, gB2, gC2, q1, q2⟩ := hold_a (v := 0) (by omega) gD gE dE eE hgt
      rw [dN] at ht
      have ch1 := con_hitn 1 0 _ _ _ _ _ _ (by omega) gD gD gD h1t
      have cb := con_gbegin_y A1 B1 C1 gA1.1 gB1.1 gC1.1 (by have := gA1.2.2; omega) (by have := gB1.2.2; omega) (by have := gC1.2.2; omega) P P.length hPb rfl E (by rw [ht]; exact hE) (by omega) (by omega)
      have ch2 := con_hitp 2 0 _ _ _ _ _ _ E (by omega) gE gB1 gC1 h2t
      obtain ⟨A3, B3, C3, k, m, h3t, gA3, gB3, gC3, hv2, hk, hm⟩ := q2
      have ch3 := con_hitp 3 0 _ _ _ _ _ _ E (by omega) gA2 gB2 gC2 h3t
      rcases hm with hm | hm
      · rw [hm] at hv2
        have cr := (con_gread_y A3 B3 C3 gA3.1 gB3.1 gC3.1 (by have := gA3.2.2; omega) (by have := gB3.2.2; omega) (by have := gC3.2.2; omega) nilS _ k hv2 hk)
        rw [eP] at cr
        have cs2 := con_gscrub_y A3 B3 C3 gA3.1 gB3.1 gC3.1 (by have := gA3.2.2; omega) (by have := gB3.2.2; omega) (by have := gC3.2.2; omega) _ k hv2 hk
        refine xe0 [2, 3, 8, 9, 10, 30, 31, 32, 33] [9, 240002] (by kernel_rfl) ?_
        refine AWP.seq ?_
        refine AWP.cond (b := decide (i < (↑n : Int))) (by kernel_rfl) (fun hq84 => ?_) (fun hq84 => ?_)
        · simp only [decide_eq_true_eq] at hq84
          refine AWP.skip ?_
          refine AWP.seq ?_
          refine AWP.block ?_
          refine xe1 (os := [(0 : Int) ≤ i ∧ i < (↑n : Int), V.vp (List.drop (Int.toNat i * 1) xs) = V.vp (B8 c :: r)]) [(1, ⟨some (V.vp (B8 c :: r)), none⟩)] [2, 3, 8, 9, 10, 11, 12, 30, 31, 32] [9, 240002] (by kernel_rfl) ⟨(by omega), (congrArg V.vp kx1), trivial⟩ ?_
          refine AWP.seq ?_
          refine xe0 [2, 3, 8, 9, 10, 11, 12, 30, 31, 32, 38] [9, 240002] (by kernel_rfl) ?_
          refine AWP.cond (b := decide (i ≥ 12)) (by kernel_rfl) (fun hq85 => ?_) (fun hq85 => ?_)
          · simp only [decide_eq_true_eq] at hq85
            (exfalso; omega)
          simp only [decide_eq_false_iff_not] at hq85
          refine AWP.skip ?_
          refine xe1 (os := [Con Try.prog 18 [] [B8 c, i64 100] [(5, Blk.mk (u8s P) true 0 (some (5, 1)))] (V.sl 5 0 (List.length P))]) [(1, ⟨none, some ⟨V.sl 5 0 (List.length P), [(5, Blk.mk (u8s P) true 0 (some (5, 1)))], []⟩⟩)] [2, 3, 8, 9, 10, 11, 12, 30, 31, 32] [9, 410005, 240002] (by kernel_rfl) ⟨(hcut ), trivial⟩ ?_
          refine xe0 [2, 3, 8, 9, 10, 11, 12, 13, 30, 31, 32] [9, 240002, 410005] (by kernel_rfl) ?_
          refine AWP.seq ?_
          refine xe0 [2, 3, 8, 9, 10, 11, 12, 13, 30, 31, 32, 44] [9, 410005, 240002] (by kernel_rfl) ?_
          refine AWP.cond (b := decide (i < (↑nc : Int))) (by kernel_rfl) (fun hq86 => ?_) (fun hq86 => ?_)
          · simp only [decide_eq_true_eq] at hq86
            refine xg1 (os := [(0 : Int) ≤ i ∧ i < (↑nc : Int), V.vp (List.drop (Int.toNat i * 1) cs) = V.vp (u8 u :: ru), (4 : Int) ≠ (0 : Int), u8 (Int.tmod u 4) = u8 (u % 4), u8 (u % 4) = u8 2]) [(2, ⟨some (V.vp (u8 u :: ru)), none⟩), (4, ⟨some (u8 (u % 4)), none⟩), (5, ⟨some (u8 2), none⟩)] [2, 3, 8, 9, 10, 11, 12, 13, 30, 31, 32] [9, 410005, 240002] (by kernel_rfl) ⟨(by omega), (congrArg V.vp (ku (by omega))), (by omega), (tm_ (by omega)), (in_eq wfu), trivial⟩ ?_
            refine xe0 [2, 3, 8, 9, 10, 11, 12, 13, 14, 30, 31, 32] [9, 14, 240002, 410005] (by kernel_rfl) ?_
            refine AWP.seq ?_
            refine xe0 [2, 3, 8, 9, 10, 11, 12, 13, 14, 30, 31, 32, 53] [9, 410005, 14, 240002] (by kernel_rfl) ?_
            refine AWP.cond (b := decide (i < (↑ns : Int))) (by kernel_rfl) (fun hq87 => ?_) (fun hq87 => ?_)
            · simp only [decide_eq_true_eq] at hq87
              (exfalso; omega)
            simp only [decide_eq_false_iff_not] at hq87
            refine AWP.skip ?_
            refine xe0 [2, 3, 8, 9, 10, 12, 13, 15, 30, 31, 32] [9, 410005, 14, 240002] (by kernel_rfl) ?_
            refine xe1 (os := [Con Try.prog 58 [(1000000000, Blk.mk [V.ptr 1000000002 0] false 1 none), (1000000001, Blk.mk [u16 0] true 1 none), (1000000002, Blk.mk [B8 D, B8 D, B8 D, V.val (Value.slice none 0 0)] true 4 none)] [u16 1, V.ptr 1000000001 0, V.ptr 1000000000 0] [(1000000000, Blk.mk [V.ptr 1000000002 0] false 1 none), (1000000001, Blk.mk [u16 0] true 1 none), (1000000002, Blk.mk [B8 A1, B8 B1, B8 C1, V.val (Value.slice none 0 0)] true 4 none)] (V.tup [])]) [(1, ⟨some (V.tup [V.sl 1000000000 9 0, V.sl 1000000001 14 0, V.sl 1000000002 240002 0]), some ⟨V.tup [], [(1000000000, Blk.mk [V.ptr 1000000002 0] false 1 none), (1000000001, Blk.mk [u16 0] true 1 none), (1000000002, Blk.mk [B8 A1, B8 B1, B8 C1, nilS] true 4 none)], []⟩⟩)] [2, 3, 8, 9, 10, 12, 13, 15, 30, 31, 32] [9, 410005, 14, 240002] (by kernel_rfl) ⟨(ch1 ), trivial⟩ ?_
            refine AWP.seq ?_
            refine AWP.seq ?_
            refine AWP.frz 410005 (s' := St.mk [(2, tp (V.vs cs nc)), (3, tp (V.vs ss ns)), (8, tp (vb false)), (9, tp (V.ptr 9 0)), (10, tp (B8 L)), (12, tp (B8 P)), (13, tp (u8 2)), (15, tp (V.clo (Fn.func 58) [] [V.ptr 14 0, V.ptr 9 0])), (30, tp (V.vs xs n)), (31, tp (i64 (↑n : Int))), (32, tp (i64 i))] [(9, Blk.mk [V.ptr 240002 0] false 1 none), (14, Blk.mk [u16 0] true 1 none), (240002, Blk.mk [B8 A1, B8 B1, B8 C1, V.val (Value.slice none 0 0)] true 4 none)]) (by kernel_rfl) ?_
            refine xg1 (os := [Con Try.prog 45 [(1000000000, Blk.mk [B8 A1, B8 B1, B8 C1, V.val (Value.slice none 0 0)] true 4 none)] [V.ptr 1000000000 0, B8 P] [(1000000000, Blk.mk [B8 E, B8 B1, B8 C1, B8 E] true 4 none)] (i64 0)]) [(5, ⟨some (V.tup [V.sl 1000000000 240002 0]), some ⟨i64 0, [(1000000000, Blk.mk [B8 E, B8 B1, B8 C1, B8 E] true 4 none)], []⟩⟩)] [2, 3, 8, 9, 10, 12, 13, 15, 30, 31, 32, 68] [9, 14, 240002] (by kernel_rfl) ⟨(cb ), trivial⟩ ?_
            refine AWP.condF (by kernel_rfl) ?_
            refine AWP.skip ?_
            refine xe1 (os := [Con Try.prog 58 [(1000000000, Blk.mk [V.ptr 1000000002 0] false 1 none), (1000000001, Blk.mk [u16 0] true 1 none), (1000000002, Blk.mk [B8 E, B8 B1, B8 C1, B8 E] true 4 none)] [u16 2, V.ptr 1000000001 0, V.ptr 1000000000 0] [(1000000000, Blk.mk [V.ptr 1000000002 0] false 1 none), (1000000001, Blk.mk [u16 0] true 1 none), (1000000002, Blk.mk [B8 A2, B8 B2, B8 C2, B8 E] true 4 none)] (V.tup [])]) [(1, ⟨some (V.tup [V.sl 1000000000 9 0, V.sl 1000000001 14 0, V.sl 1000000002 240002 0]), some ⟨V.tup [], [(1000000000, Blk.mk [V.ptr 1000000002 0] false 1 none), (1000000001, Blk.mk [u16 0] true 1 none), (1000000002, Blk.mk [B8 A2, B8 B2, B8 C2, B8 E] true 4 none)], []⟩⟩)] [2, 3, 8, 9, 10, 12, 13, 15, 30, 31, 32] [9, 14, 240002] (by kernel_rfl) ⟨(ch2 ), trivial⟩ ?_
            refine AWP.seq ?_
            refine xe1 (os := [false = true → False]) [(5, ⟨some (V.tup [vb false]), none⟩)] [2, 3, 8, 9, 10, 12, 13, 15, 30, 31, 32, 77] [9, 14, 240002] (by kernel_rfl) ⟨(by (intro hc0; first | (cases hc0; done) | (exfalso; simp_all; done) | ((try simp only [Bool.or_false, Bool.false_or, Bool.true_and, Bool.and_true, decide_eq_true_eq, decide_eq_false_iff_not, Bool.and_eq_true, Bool.or_eq_true, Bool.or_eq_false_iff, Bool.not_eq_true', Bool.and_eq_false_iff, beq_iff_eq, bne_iff_ne, bne_eq_false_iff_eq, beq_eq_false_iff_ne, Bool.not_eq_false'] at hc0); omega))), trivial⟩ ?_
            refine AWP.condF (by kernel_rfl) ?_
            refine AWP.skip ?_
            refine xe1 (os := [Con Try.prog 58 [(1000000000, Blk.mk [V.ptr 1000000002 0] false 1 none), (1000000001, Blk.mk [u16 0] true 1 none), (1000000002, Blk.mk [B8 A2, B8 B2, B8 C2, B8 E] true 4 none)] [u16 3, V.ptr 1000000001 0, V.ptr 1000000000 0] [(1000000000, Blk.mk [V.ptr 1000000002 0] false 1 none), (1000000001, Blk.mk [u16 0] true 1 none), (1000000002, Blk.mk [B8 A3, B8 B3, B8 C3, B8 E] true 4 none)] (V.tup [])]) [(1, ⟨some (V.tup [V.sl 1000000000 9 0, V.sl 1000000001 14 0, V.sl 1000000002 240002 0]), some ⟨V.tup [], [(1000000000, Blk.mk [V.ptr 1000000002 0] false 1 none), (1000000001, Blk.mk [u16 0] true 1 none), (1000000002, Blk.mk [B8 A3, B8 B3, B8 C3, B8 E] true 4 none)], []⟩⟩)] [2, 3, 8, 9, 10, 12, 13, 30, 31, 32] [9, 240002] (by kernel_rfl) ⟨(ch3 ), trivial⟩ ?_
            refine xe1 [(1, ⟨some (V.tup [V.sl 1000000000 240002 0]), some ⟨V.tup [], [(1000000000, Blk.mk [B8 A3, B8 B3, B8 C3, nilS] true 4 none)], []⟩⟩)] [2, 3, 8, 9, 10, 12, 13, 30, 31, 32] [9, 240002] (by kernel_rfl) (AllP.c (con_greset (B8 A3) (B8 B3) (B8 C3) (B8 E)) AllP.n) ?_
            refine xe1 (os := [VO (V.tup [u32 (cNo E), V.sl (1210005 : Nat) (0 : Nat) (List.length P), i64 (0 : Int)]), VOH [((1210005 : Nat), Blk.mk (u8s P) true (0 : Nat) (some ((5 : Nat), (1 : Nat))))], Con Try.prog 47 [] [V.vp [B8 A3, B8 B3, B8 C3, V.val (Value.slice none 0 0)]] [(1210005, Blk.mk (u8s P) true 0 (some (5, 1)))] (V.tup [u32 (cNo E), V.sl 1210005 0 (List.length P), i64 0])]) [(1, ⟨none, some ⟨V.tup [u32 (cNo E), V.sl 1210005 0 (List.length P), i64 0], [(1210005, Blk.mk (u8s P) true 0 (some (5, 1)))], [(240002, true)]⟩⟩)] [2, 3, 8, 9, 10, 12, 13, 17, 18, 30, 31, 32] [9, 2060005, 240002] (by kernel_rfl) ⟨(VO.tup (VOL.cons (VO.val _) (VOL.cons (VO.sl _ _ _) (VOL.cons (VO.val _) VOL.nil)))), ⟨(VOL.u8s _), trivial⟩, (cr ), trivial⟩ ?_
            refine AWP.seq ?_
            refine xe1 (os := [false = false → VO (vb (decide (P = L))) ∧ VOH [] ∧ Con Try.prog (23 : Nat) [] [B8 P, B8 L] [] (vb (decide (P = L))) ∧ (0 : Nat) = (0 : Nat) ∧ List.length P * (1 : Nat) = List.length (u8s P) ∧ True, false = false → (!decide (P = L)) = true → false = false → VO (vb (decide (P = P))) ∧ VOH [] ∧ Con Try.prog (23 : Nat) [] [B8 P, B8 P] [] (vb (decide (P = P))) ∧ (0 : Nat) = (0 : Nat) ∧ List.length P * (1 : Nat) = List.length (u8s P) ∧ True, false = true → (false || !decide (P = L) && (false || !decide (P = P))) = false → VO (vb (decide (P = P))) ∧ VOH [] ∧ Con Try.prog (23 : Nat) [] [B8 P, B8 P] [] (vb (decide (P = P))) ∧ (0 : Nat) = (0 : Nat) ∧ List.length P * (1 : Nat) = List.length (u8s P) ∧ True]) [(5, ⟨none, some ⟨vb (decide (P = L)), [], [(2060005, true)]⟩⟩), (13, ⟨none, some ⟨vb (decide (P = P)), [], [(2060005, true)]⟩⟩), (24, ⟨none, some ⟨vb (decide (P = P)), [], [(2060005, true)]⟩⟩)] [2, 3, 8, 9, 10, 17, 30, 31, 32, 115] [9, 2060005, 240002] (by kernel_rfl) ⟨(by intro hc0; first | (cases hc0; done) | ((try simp only [Bool.or_false, Bool.false_or, Bool.true_and, Bool.and_true, decide_eq_true_eq, decide_eq_false_iff_not, Bool.and_eq_true, Bool.or_eq_true, Bool.or_eq_false_iff, Bool.not_eq_true', Bool.and_eq_false_iff, beq_iff_eq, bne_iff_ne, bne_eq_false_iff_eq, beq_eq_false_iff_ne, Bool.not_eq_false'] at hc0); exact ⟨(VO.val _), trivial, (con_samen (P) (L) (List.length P) (List.length L) (by omega) (by omega) (by omega) (by omega)), (by omega), (by (simp [len_u8s]; done)), trivial⟩)), (by intro hc0 hc1 hc2; first | (cases hc0; done) | ((try simp only [Bool.or_false, Bool.false_or, Bool.true_and, Bool.and_true, decide_eq_true_eq, decide_eq_false_iff_not, Bool.and_eq_true, Bool.or_eq_true, Bool.or_eq_false_iff, Bool.not_eq_true', Bool.and_eq_false_iff, beq_iff_eq, bne_iff_ne, bne_eq_false_iff_eq, beq_eq_false_iff_ne, Bool.not_eq_false'] at hc0 hc1 hc2); exact ⟨(VO.val _), trivial, (con_samen (P) (P) (List.length P) (List.length P) (by omega) (by omega) (by omega) (by omega)), (by omega), (by (simp [len_u8s]; done)), trivial⟩)), (by intro hc0 hc1; first | (cases hc0; done) | ((try simp only [Bool.or_false, Bool.false_or, Bool.true_and, Bool.and_true, decide_eq_true_eq, decide_eq_false_iff_not, Bool.and_eq_true, Bool.or_eq_true, Bool.or_eq_false_iff, Bool.not_eq_true', Bool.and_eq_false_iff, beq_iff_eq, bne_iff_ne, bne_eq_false_iff_eq, beq_eq_false_iff_ne, Bool.not_eq_false'] at hc0 hc1); exact ⟨(VO.val _), trivial, (con_samen (P) (P) (List.length P) (List.length P) (by omega) (by omega) (by omega) (by omega)), (by omega), (by (simp [len_u8s]; done)), trivial⟩)), trivial⟩ ?_
            refine AWP.cond (b := false || !decide (P = L) && (false || !decide (P = P)) || false) (by kernel_rfl) (fun hq90 => ?_) (fun hq90 => ?_)
            · simp only [Bool.or_false, Bool.false_or, decide_eq_false_iff_not, Bool.and_eq_true, Bool.not_eq_true'] at hq90
              (simp [bl] at hq90; done)
            simp only [Bool.or_false, Bool.false_or, decide_eq_true_eq, Bool.and_eq_false_iff, Bool.not_eq_false'] at hq90
            refine AWP.skip ?_
            refine xe0 [2, 3, 8, 9, 10, 30, 31, 32] [9, 2060005, 240002] (by kernel_rfl) ?_
            refine xe1 (os := [Con Try.prog 48 [(1000000000, Blk.mk [B8 A3, B8 B3, B8 C3, V.val (Value.slice none 0 0)] true 4 none)] [V.ptr 1000000000 0] [(1000000000, Blk.mk [B8 E, B8 E, B8 E, V.val (Value.slice none 0 0)] true 4 none)] (V.tup [i64 (nq A3 E + nq B3 E + nq C3 E), i64 0])]) [(1, ⟨some (V.tup [V.sl 1000000000 240002 0]), some ⟨V.tup [i64 (nq A3 E + nq B3 E + nq C3 E), i64 0], [(1000000000, Blk.mk [B8 E, B8 E, B8 E, nilS] true 4 none)], []⟩⟩)] [2, 3, 8, 9, 10, 20, 30, 31, 32] [9, 2060005, 240002] (by kernel_rfl) ⟨(cs2 ), trivial⟩ ?_
            refine xe0 [2, 3, 8, 9, 10, 30, 31, 32, 123] [9, 2060005, 240002] (by kernel_rfl) ?_
            refine AWP.condF (by kernel_rfl) ?_
            refine AWP.skip ?_
            refine AWP.frz 2060005 (s' := St.mk [(2, tp (V.vs cs nc)), (3, tp (V.vs ss ns)), (8, tp (vb false)), (9, tp (V.ptr 9 0)), (10, tp (B8 P)), (30, tp (V.vs xs n)), (31, tp (i64 (↑n : Int))), (32, tp (i64 i)), (123, tp (vb false))] [(9, Blk.mk [V.ptr 240002 0] false 1 none), (240002, Blk.mk [B8 E, B8 E, B8 E, V.val (Value.slice none 0 0)] true 4 none)]) (by kernel_rfl) ?_
            refine AWP.region tcok hmix [(0, ⟨some (i64 (i + 1)), none⟩)] (os := [i64 (IntKind.wrap IntKind.i64 (i + 1)) = i64 (i + 1)]) (sf := St.mk [(2, tp (V.vs cs nc)), (3, tp (V.vs ss ns)), (8, tp (vb false)), (9, tp (V.ptr 9 0)), (10, tp (B8 P)), (30, tp (V.vs xs n)), (31, tp (i64 (↑n : Int))), (32, tp (i64 (i + 1))), (123, tp (vb false)), (124, tp (i64 (i + 1)))] [(9, Blk.mk [V.ptr 240002 0] false 1 none), (240002, Blk.mk [B8 E, B8 E, B8 E, V.val (Value.slice none 0 0)] true 4 none)]) (by kernel_rfl) ⟨(wr_i64 (by omega) (by omega)), trivial⟩ ?_
            refine ⟨St.mk [(2, tp (V.vs cs nc)), (3, tp (V.vs ss ns)), (8, tp (vb false)), (9, tp (V.ptr 9 0)), (10, tp (B8 P)), (30, tp (V.vs xs n)), (31, tp (i64 (↑n : Int))), (32, tp (i64 (i + 1)))] [(9, Blk.mk [V.ptr 240002 0] false 1 none), (240002, Blk.mk [B8 E, B8 E, B8 E, V.val (Value.slice none 0 0)] true 4 none)], by kernel_rfl, ?_⟩
            (exact ⟨(n - (i + 1)).toNat, (by omega), i + 1, s + 1, P, E, rfl, hE, hPb, hPl, (by omega), (by omega), (by omega), (by omega), (by omega)⟩)
          simp only [decide_eq_false_iff_not] at hq86
          (exfalso; omega)
        simp only [decide_eq_false_iff_not] at hq84
        (exfalso; omega)
      · rw [hm] at hv2
        have cr := (con_gread_y A3 B3 C3 gA3.1 gB3.1 gC3.1 (by have := gA3.2.2; omega) (by have := gB3.2.2; omega) (by have := gC3.2.2; omega) nilS _ k hv2 hk)
        rw [dP] at cr
        have cs2 := con_gscrub_y A3 B3 C3 gA3.1 gB3.1 gC3.1 (by have := gA3.2.2; omega) (by have := gB3.2.2; omega) (by have := gC3.2.2; omega) _ k hv2 hk
        refine xe0 [2, 3, 8, 9, 10, 30, 31, 32, 33] [9, 240002] (by kernel_rfl) ?_
        refine AWP.seq ?_
        refine AWP.cond (b := decide (i < (↑n : Int))) (by kernel_rfl) (fun hq92 => ?_) (fun hq92 => ?_)
        · simp only [decide_eq_true_eq] at hq92
          refine AWP.skip ?_
          refine AWP.seq ?_
          refine AWP.block ?_
          refine xe1 (os := [(0 : Int) ≤ i ∧ i < (↑n : Int), V.vp (List.drop (Int.toNat i * 1) xs) = V.vp (B8 c :: r)]) [(1, ⟨some (V.vp (B8 c :: r)), none⟩)] [2, 3, 8, 9, 10, 11, 12, 30, 31, 32] [9, 240002] (by kernel_rfl) ⟨(by omega), (congrArg V.vp kx1), trivial⟩ ?_
          refine AWP.seq ?_
          refine xe0 [2, 3, 8, 9, 10, 11, 12, 30, 31, 32, 38] [9, 240002] (by kernel_rfl) ?_
          refine AWP.cond (b := decide (i ≥ 12)) (by kernel_rfl) (fun hq93 => ?_) (fun hq93 => ?_)
          · simp only [decide_eq_true_eq] at hq93
            (exfalso; omega)
          simp only [decide_eq_false_iff_not] at hq93
          refine AWP.skip ?_
          refine xe1 (os := [Con Try.prog 18 [] [B8 c, i64 100] [(5, Blk.mk (u8s P) true 0 (some (5, 1)))] (V.sl 5 0 (List.length P))]) [(1, ⟨none, some ⟨V.sl 5 0 (List.length P), [(5, Blk.mk (u8s P) true 0 (some (5, 1)))], []⟩⟩)] [2, 3, 8, 9, 10, 11, 12, 30, 31, 32] [9, 410005, 240002] (by kernel_rfl) ⟨(hcut ), trivial⟩ ?_
          refine xe0 [2, 3, 8, 9, 10, 11, 12, 13, 30, 31, 32] [9, 240002, 410005] (by kernel_rfl) ?_
          refine AWP.seq ?_
          refine xe0 [2, 3, 8, 9, 10, 11, 12, 13, 30, 31, 32, 44] [9, 410005, 240002] (by kernel_rfl) ?_
          refine AWP.cond (b := decide (i < (↑nc : Int))) (by kernel_rfl) (fun hq94 => ?_) (fun hq94 => ?_)
          · simp only [decide_eq_true_eq] at hq94
            refine xg1 (os := [(0 : Int) ≤ i ∧ i < (↑nc : Int), V.vp (List.drop (Int.toNat i * 1) cs) = V.vp (u8 u :: ru), (4 : Int) ≠ (0 : Int), u8 (Int.tmod u 4) = u8 (u % 4), u8 (u % 4) = u8 2]) [(2, ⟨some (V.vp (u8 u :: ru)), none⟩), (4, ⟨some (u8 (u % 4)), none⟩), (5, ⟨some (u8 2), none⟩)] [2, 3, 8, 9, 10, 11, 12, 13, 30, 31, 32] [9, 410005, 240002] (by kernel_rfl) ⟨(by omega), (congrArg V.vp (ku (by omega))), (by omega), (tm_ (by omega)), (in_eq wfu), trivial⟩ ?_
            refine xe0 [2, 3, 8, 9, 10, 11, 12, 13, 14, 30, 31, 32] [9, 14, 240002, 410005] (by kernel_rfl) ?_
            refine AWP.seq ?_
            refine xe0 [2, 3, 8, 9, 10, 11, 12, 13, 14, 30, 31, 32, 53] [9, 410005, 14, 240002] (by kernel_rfl) ?_
            refine AWP.cond (b := decide (i < (↑ns : Int))) (by kernel_rfl) (fun hq95 => ?_) (fun hq95 => ?_)
            · simp only [decide_eq_true_eq] at hq95
              (exfalso; omega)
            simp only [decide_eq_false_iff_not] at hq95
            refine AWP.skip ?_
            refine xe0 [2, 3, 8, 9, 10, 12, 13, 15, 30, 31, 32] [9, 410005, 14, 240002] (by kernel_rfl) ?_
            refine xe1 (os := [Con Try.prog 58 [(1000000000, Blk.mk [V.ptr 1000000002 0] false 1 none), (1000000001, Blk.mk [u16 0] true 1 none), (1000000002, Blk.mk [B8 D, B8 D, B8 D, V.val (Value.slice none 0 0)] true 4 none)] [u16 1, V.ptr 1000000001 0, V.ptr 1000000000 0] [(1000000000, Blk.mk [V.ptr 1000000002 0] false 1 none), (1000000001, Blk.mk [u16 0] true 1 none), (1000000002, Blk.mk [B8 A1, B8 B1, B8 C1, V.val (Value.slice none 0 0)] true 4 none)] (V.tup [])]) [(1, ⟨some (V.tup [V.sl 1000000000 9 0, V.sl 1000000001 14 0, V.sl 1000000002 240002 0]), some ⟨V.tup [], [(1000000000, Blk.mk [V.ptr 1000000002 0] false 1 none), (1000000001, Blk.mk [u16 0] true 1 none), (1000000002, Blk.mk [B8 A1, B8 B1, B8 C1, nilS] true 4 none)], []⟩⟩)] [2, 3, 8, 9, 10, 12, 13, 15, 30, 31, 32] [9, 410005, 14, 240002] (by kernel_rfl) ⟨(ch1 ), trivial⟩ ?_
            refine AWP.seq ?_
            refine AWP.seq ?_
            refine AWP.frz 410005 (s' := St.mk [(2, tp (V.vs cs nc)), (3, tp (V.vs ss ns)), (8, tp (vb false)), (9, tp (V.ptr 9 0)), (10, tp (B8 L)), (12, tp (B8 P)), (13, tp (u8 2)), (15, tp (V.clo (Fn.func 58) [] [V.ptr 14 0, V.ptr 9 0])), (30, tp (V.vs xs n)), (31, tp (i64 (↑n : Int))), (32, tp (i64 i))] [(9, Blk.mk [V.ptr 240002 0] false 1 none), (14, Blk.mk [u16 0] true 1 none), (240002, Blk.mk [B8 A1, B8 B1, B8 C1, V.val (Value.slice none 0 0)] true 4 none)]) (by kernel_rfl) ?_
            refine xg1 (os := [Con Try.prog 45 [(1000000000, Blk.mk [B8 A1, B8 B1, B8 C1, V.val (Value.slice none 0 0)] true 4 none)] [V.ptr 1000000000 0, B8 P] [(1000000000, Blk.mk [B8 E, B8 B1, B8 C1, B8 E] true 4 none)] (i64 0)]) [(5, ⟨some (V.tup [V.sl 1000000000 240002 0]), some ⟨i64 0, [(1000000000, Blk.mk [B8 E, B8 B1, B8 C1, B8 E] true 4 none)], []⟩⟩)] [2, 3, 8, 9, 10, 12, 13, 15, 30, 31, 32, 68] [9, 14, 240002] (by kernel_rfl) ⟨(cb ), trivial⟩ ?_
            refine AWP.condF (by kernel_rfl) ?_
            refine AWP.skip ?_
            refine xe1 (os := [Con Try.prog 58 [(1000000000, Blk.mk [V.ptr 1000000002 0] false 1 none), (1000000001, Blk.mk [u16 0] true 1 none), (1000000002, Blk.mk [B8 E, B8 B1, B8 C1, B8 E] true 4 none)] [u16 2, V.ptr 1000000001 0, V.ptr 1000000000 0] [(1000000000, Blk.mk [V.ptr 1000000002 0] false 1 none), (1000000001, Blk.mk [u16 0] true 1 none), (1000000002, Blk.mk [B8 A2, B8 B2, B8 C2, B8 E] true 4 none)] (V.tup [])]) [(1, ⟨some (V.tup [V.sl 1000000000 9 0, V.sl 1000000001 14 0, V.sl 1000000002 240002 0]), some ⟨V.tup [], [(1000000000, Blk.mk [V.ptr 1000000002 0] false 1 none), (1000000001, Blk.mk [u16 0] true 1 none), (1000000002, Blk.mk [B8 A2, B8 B2, B8 C2, B8 E] true 4 none)], []⟩⟩)] [2, 3, 8, 9, 10, 12, 13, 15, 30, 31, 32] [9, 14, 240002] (by kernel_rfl) ⟨(ch2 ), trivial⟩ ?_
            refine AWP.seq ?_
            refine xe1 (os := [false = true → False]) [(5, ⟨some (V.tup [vb false]), none⟩)] [2, 3, 8, 9, 10, 12, 13, 15, 30, 31, 32, 77] [9, 14, 240002] (by kernel_rfl) ⟨(by (intro hc0; first | (cases hc0; done) | (exfalso; simp_all; done) | ((try simp only [Bool.or_false, Bool.false_or, Bool.true_and, Bool.and_true, decide_eq_true_eq, decide_eq_false_iff_not, Bool.and_eq_true, Bool.or_eq_true, Bool.or_eq_false_iff, Bool.not_eq_true', Bool.and_eq_false_iff, beq_iff_eq, bne_iff_ne, bne_eq_false_iff_eq, beq_eq_false_iff_ne, Bool.not_eq_false'] at hc0); omega))), trivial⟩ ?_
            refine AWP.condF (by kernel_rfl) ?_
            refine AWP.skip ?_
            refine xe1 (os := [Con Try.prog 58 [(1000000000, Blk.mk [V.ptr 1000000002 0] false 1 none), (1000000001, Blk.mk [u16 0] true 1 none), (1000000002, Blk.mk [B8 A2, B8 B2, B8 C2, B8 E] true 4 none)] [u16 3, V.ptr 1000000001 0, V.ptr 1000000000 0] [(1000000000, Blk.mk [V.ptr 1000000002 0] false 1 none), (1000000001, Blk.mk [u16 0] true 1 none), (1000000002, Blk.mk [B8 A3, B8 B3, B8 C3, B8 E] true 4 none)] (V.tup [])]) [(1, ⟨some (V.tup [V.sl 1000000000 9 0, V.sl 1000000001 14 0, V.sl 1000000002 240002 0]), some ⟨V.tup [], [(1000000000, Blk.mk [V.ptr 1000000002 0] false 1 none), (1000000001, Blk.mk [u16 0] true 1 none), (1000000002, Blk.mk [B8 A3, B8 B3, B8 C3, B8 E] true 4 none)], []⟩⟩)] [2, 3, 8, 9, 10, 12, 13, 30, 31, 32] [9, 240002] (by kernel_rfl) ⟨(ch3 ), trivial⟩ ?_
            refine xe1 [(1, ⟨some (V.tup [V.sl 1000000000 240002 0]), some ⟨V.tup [], [(1000000000, Blk.mk [B8 A3, B8 B3, B8 C3, nilS] true 4 none)], []⟩⟩)] [2, 3, 8, 9, 10, 12, 13, 30, 31, 32] [9, 240002] (by kernel_rfl) (AllP.c (con_greset (B8 A3) (B8 B3) (B8 C3) (B8 E)) AllP.n) ?_
            refine xe1 (os := [VO (V.tup [u32 (cNo D), V.sl (1210005 : Nat) (0 : Nat) (List.length L), i64 (0 : Int)]), VOH [((1210005 : Nat), Blk.mk (u8s L) true (0 : Nat) (some ((5 : Nat), (1 : Nat))))], Con Try.prog 47 [] [V.vp [B8 A3, B8 B3, B8 C3, V.val (Value.slice none 0 0)]] [(1210005, Blk.mk (u8s L) true 0 (some (5, 1)))] (V.tup [u32 (cNo D), V.sl 1210005 0 (List.length L), i64 0])]) [(1, ⟨none, some ⟨V.tup [u32 (cNo D), V.sl 1210005 0 (List.length L), i64 0], [(1210005, Blk.mk (u8s L) true 0 (some (5, 1)))], [(240002, true)]⟩⟩)] [2, 3, 8, 9, 10, 12, 13, 17, 18, 30, 31, 32] [9, 2060005, 240002] (by kernel_rfl) ⟨(VO.tup (VOL.cons (VO.val _) (VOL.cons (VO.sl _ _ _) (VOL.cons (VO.val _) VOL.nil)))), ⟨(VOL.u8s _), trivial⟩, (cr ), trivial⟩ ?_
            refine AWP.seq ?_
            refine xe1 (os := [false = false → VO (vb (decide (L = L))) ∧ VOH [] ∧ Con Try.prog (23 : Nat) [] [B8 L, B8 L] [] (vb (decide (L = L))) ∧ (0 : Nat) = (0 : Nat) ∧ List.length L * (1 : Nat) = List.length (u8s L) ∧ True, false = false → (!decide (L = L)) = true → false = false → VO (vb (decide (L = P))) ∧ VOH [] ∧ Con Try.prog (23 : Nat) [] [B8 L, B8 P] [] (vb (decide (L = P))) ∧ (0 : Nat) = (0 : Nat) ∧ List.length L * (1 : Nat) = List.length (u8s L) ∧ True, false = true → (false || !decide (L = L) && (false || !decide (L = P))) = false → VO (vb (decide (L = P))) ∧ VOH [] ∧ Con Try.prog (23 : Nat) [] [B8 L, B8 P] [] (vb (decide (L = P))) ∧ (0 : Nat) = (0 : Nat) ∧ List.length L * (1 : Nat) = List.length (u8s L) ∧ True]) [(5, ⟨none, some ⟨vb (decide (L = L)), [], [(2060005, true)]⟩⟩), (13, ⟨none, some ⟨vb (decide (L = P)), [], [(2060005, true)]⟩⟩), (24, ⟨none, some ⟨vb (decide (L = P)), [], [(2060005, true)]⟩⟩)] [2, 3, 8, 9, 10, 17, 30, 31, 32, 115] [9, 2060005, 240002] (by kernel_rfl) ⟨(by intro hc0; first | (cases hc0; done) | ((try simp only [Bool.or_false, Bool.false_or, Bool.true_and, Bool.and_true, decide_eq_true_eq, decide_eq_false_iff_not, Bool.and_eq_true, Bool.or_eq_true, Bool.or_eq_false_iff, Bool.not_eq_true', Bool.and_eq_false_iff, beq_iff_eq, bne_iff_ne, bne_eq_false_iff_eq, beq_eq_false_iff_ne, Bool.not_eq_false'] at hc0); exact ⟨(VO.val _), trivial, (con_samen (L) (L) (List.length L) (List.length L) (by omega) (by omega) (by omega) (by omega)), (by omega), (by (simp [len_u8s]; done)), trivial⟩)), (by intro hc0 hc1 hc2; first | (cases hc0; done) | ((try simp only [Bool.or_false, Bool.false_or, Bool.true_and, Bool.and_true, decide_eq_true_eq, decide_eq_false_iff_not, Bool.and_eq_true, Bool.or_eq_true, Bool.or_eq_false_iff, Bool.not_eq_true', Bool.and_eq_false_iff, beq_iff_eq, bne_iff_ne, bne_eq_false_iff_eq, beq_eq_false_iff_ne, Bool.not_eq_false'] at hc0 hc1 hc2); exact ⟨(VO.val _), trivial, (con_samen (L) (P) (List.length L) (List.length P) (by omega) (by omega) (by omega) (by omega)), (by omega), (by (simp [len_u8s]; done)), trivial⟩)), (by intro hc0 hc1; first | (cases hc0; done) | ((try simp only [Bool.or_false, Bool.false_or, Bool.true_and, Bool.and_true, decide_eq_true_eq, decide_eq_false_iff_not, Bool.and_eq_true, Bool.or_eq_true, Bool.or_eq_false_iff, Bool.not_eq_true', Bool.and_eq_false_iff, beq_iff_eq, bne_iff_ne, bne_eq_false_iff_eq, beq_eq_false_iff_ne, Bool.not_eq_false'] at hc0 hc1); exact ⟨(VO.val _), trivial, (con_samen (L) (P) (List.length L) (List.length P) (by omega) (by omega) (by omega) (by omega)), (by omega), (by (simp [len_u8s]; done)), trivial⟩)), trivial⟩ ?_
            refine AWP.cond (b := false || !decide (L = L) && (false || !decide (L = P)) || false) (by kernel_rfl) (fun hq98 => ?_) (fun hq98 => ?_)
            · simp only [Bool.or_false, Bool.false_or, decide_eq_false_iff_not, Bool.and_eq_true, Bool.not_eq_true'] at hq98
              (simp [bl] at hq98; done)
            simp only [Bool.or_false, Bool.false_or, decide_eq_true_eq, Bool.and_eq_false_iff, Bool.not_eq_false'] at hq98
            refine AWP.skip ?_
            refine xe0 [2, 3, 8, 9, 10, 30, 31, 32] [9, 2060005, 240002] (by kernel_rfl) ?_
            refine xe1 (os := [Con Try.prog 48 [(1000000000, Blk.mk [B8 A3, B8 B3, B8 C3, V.val (Value.slice none 0 0)] true 4 none)] [V.ptr 1000000000 0] [(1000000000, Blk.mk [B8 D, B8 D, B8 D, V.val (Value.slice none 0 0)] true 4 none)] (V.tup [i64 (nq A3 D + nq B3 D + nq C3 D), i64 0])]) [(1, ⟨some (V.tup [V.sl 1000000000 240002 0]), some ⟨V.tup [i64 (nq A3 D + nq B3 D + nq C3 D), i64 0], [(1000000000, Blk.mk [B8 D, B8 D, B8 D, nilS] true 4 none)], []⟩⟩)] [2, 3, 8, 9, 10, 20, 30, 31, 32] [9, 2060005, 240002] (by kernel_rfl) ⟨(cs2 ), trivial⟩ ?_
            refine xe0 [2, 3, 8, 9, 10, 30, 31, 32, 123] [9, 2060005, 240002] (by kernel_rfl) ?_
            refine AWP.condF (by kernel_rfl) ?_
            refine AWP.skip ?_
            refine AWP.frz 2060005 (s' := St.mk [(2, tp (V.vs cs nc)), (3, tp (V.vs ss ns)), (8, tp (vb false)), (9, tp (V.ptr 9 0)), (10, tp (B8 L)), (30, tp (V.vs xs n)), (31, tp (i64 (↑n : Int))), (32, tp (i64 i)), (123, tp (vb false))] [(9, Blk.mk [V.ptr 240002 0] false 1 none), (240002, Blk.mk [B8 D, B8 D, B8 D, V.val (Value.slice none 0 0)] true 4 none)]) (by kernel_rfl) ?_
            refine AWP.region tcok hmix [(0, ⟨some (i64 (i + 1)), none⟩)] (os := [i64 (IntKind.wrap IntKind.i64 (i + 1)) = i64 (i + 1)]) (sf := St.mk [(2, tp (V.vs cs nc)), (3, tp (V.vs ss ns)), (8, tp (vb false)), (9, tp (V.ptr 9 0)), (10, tp (B8 L)), (30, tp (V.vs xs n)), (31, tp (i64 (↑n : Int))), (32, tp (i64 (i + 1))), (123, tp (vb false)), (124, tp (i64 (i + 1)))] [(9, Blk.mk [V.ptr 240002 0] false 1 none), (240002, Blk.mk [B8 D, B8 D, B8 D, V.val (Value.slice none 0 0)] true 4 none)]) (by kernel_rfl) ⟨(wr_i64 (by omega) (by omega)), trivial⟩ ?_
            refine ⟨St.mk [(2, tp (V.vs cs nc)), (3, tp (V.vs ss ns)), (8, tp (vb false)), (9, tp (V.ptr 9 0)), (10, tp (B8 L)), (30, tp (V.vs xs n)), (31, tp (i64 (↑n : Int))), (32, tp (i64 (i + 1)))] [(9, Blk.mk [V.ptr 240002 0] false 1 none), (240002, Blk.mk [B8 D, B8 D, B8 D, V.val (Value.slice none 0 0)] true 4 none)], by kernel_rfl, ?_⟩
            (exact ⟨(n - (i + 1)).toNat, (by omega), i + 1, s, L, D, rfl, hD, hLb, hLl, (by omega), (by omega), (by omega), (by omega), (by omega)⟩)
          simp only [decide_eq_false_iff_not] at hq94
          (exfalso; omega)
        simp only [decide_eq_false_iff_not] at hq92
        (exfalso; omega)
    · obtain ⟨A1, B1, C1, A2, B2, C2, A3, B3, C3, k, h1t, gA1, gB1, gC1, h2t, gA2, gB2, gC2, h3t, gA3, gB3, gC3, hv2, hk⟩ := hold_b (v := 0) (by omega) gD gE dE eE hgt
      have ch1 := con_hitn 1 0 _ _ _ _ _ _ (by omega) gD gD gD h1t
      have ch2 := con_hitn 2 0 _ _ _ _ _ _ (by omega) gA1 gB1 gC1 h2t
      have ch3 := con_hitn 3 0 _ _ _ _ _ _ (by omega) gA2 gB2 gC2 h3t
      have cr := (con_gread_y A3 B3 C3 gA3.1 gB3.1 gC3.1 (by have := gA3.2.2; omega) (by have := gB3.2.2; omega) (by have := gC3.2.2; omega) nilS _ k hv2 hk)
      rw [dP] at cr
      have cs2 := con_gscrub_y A3 B3 C3 gA3.1 gB3.1 gC3.1 (by have := gA3.2.2; omega) (by have := gB3.2.2; omega) (by have := gC3.2.2; omega) _ k hv2 hk
      refine xe0 [2, 3, 8, 9, 10, 30, 31, 32, 33] [9, 240002] (by kernel_rfl) ?_
      refine AWP.seq ?_
      refine AWP.cond (b := decide (i < (↑n : Int))) (by kernel_rfl) (fun hq100 => ?_) (fun hq100 => ?_)
      · simp only [decide_eq_true_eq] at hq100
        refine AWP.skip ?_
        refine AWP.seq ?_
        refine AWP.block ?_
        refine xe1 (os := [(0 : Int) ≤ i ∧ i < (↑n : Int), V.vp (List.drop (Int.toNat i * 1) xs) = V.vp (B8 c :: r)]) [(1, ⟨some (V.vp (B8 c :: r)), none⟩)] [2, 3, 8, 9, 10, 11, 12, 30, 31, 32] [9, 240002] (by kernel_rfl) ⟨(by omega), (congrArg V.vp kx1), trivial⟩ ?_
        refine AWP.seq ?_
        refine xe0 [2, 3, 8, 9, 10, 11, 12, 30, 31, 32, 38] [9, 240002] (by kernel_rfl) ?_
        refine AWP.cond (b := decide (i ≥ 12)) (by kernel_rfl) (fun hq101 => ?_) (fun hq101 => ?_)
        · simp only [decide_eq_true_eq] at hq101
          (exfalso; omega)
        simp only [decide_eq_false_iff_not] at hq101
        refine AWP.skip ?_
        refine xe1 (os := [Con Try.prog 18 [] [B8 c, i64 100] [(5, Blk.mk (u8s P) true 0 (some (5, 1)))] (V.sl 5 0 (List.length P))]) [(1, ⟨none, some ⟨V.sl 5 0 (List.length P), [(5, Blk.mk (u8s P) true 0 (some (5, 1)))], []⟩⟩)] [2, 3, 8, 9, 10, 11, 12, 30, 31, 32] [9, 410005, 240002] (by kernel_rfl) ⟨(hcut ), trivial⟩ ?_
        refine xe0 [2, 3, 8, 9, 10, 11, 12, 13, 30, 31, 32] [9, 240002, 410005] (by kernel_rfl) ?_
        refine AWP.seq ?_
        refine xe0 [2, 3, 8, 9, 10, 11, 12, 13, 30, 31, 32, 44] [9, 410005, 240002] (by kernel_rfl) ?_
        refine AWP.cond (b := decide (i < (↑nc : Int))) (by kernel_rfl) (fun hq102 => ?_) (fun hq102 => ?_)
        · simp only [decide_eq_true_eq] at hq102
          refine xg1 (os := [(0 : Int) ≤ i ∧ i < (↑nc : Int), V.vp (List.drop (Int.toNat i * 1) cs) = V.vp (u8 u :: ru), (4 : Int) ≠ (0 : Int), u8 (Int.tmod u 4) = u8 (u % 4), u8 (u % 4) = u8 3]) [(2, ⟨some (V.vp (u8 u :: ru)), none⟩), (4, ⟨some (u8 (u % 4)), none⟩), (5, ⟨some (u8 3), none⟩)] [2, 3, 8, 9, 10, 11, 12, 13, 30, 31, 32] [9, 410005, 240002] (by kernel_rfl) ⟨(by omega), (congrArg V.vp (ku (by omega))), (by omega), (tm_ (by omega)), (in_eq wfu), trivial⟩ ?_
          refine xe0 [2, 3, 8, 9, 10, 11, 12, 13, 14, 30, 31, 32] [9, 14, 240002, 410005] (by kernel_rfl) ?_
          refine AWP.seq ?_
          refine xe0 [2, 3, 8, 9, 10, 11, 12, 13, 14, 30, 31, 32, 53] [9, 410005, 14, 240002] (by kernel_rfl) ?_
          refine AWP.cond (b := decide (i < (↑ns : Int))) (by kernel_rfl) (fun hq103 => ?_) (fun hq103 => ?_)
          · simp only [decide_eq_true_eq] at hq103
            (exfalso; omega)
          simp only [decide_eq_false_iff_not] at hq103
          refine AWP.skip ?_
          refine xe0 [2, 3, 8, 9, 10, 12, 13, 15, 30, 31, 32] [9, 410005, 14, 240002] (by kernel_rfl) ?_
          refine xe1 (os := [Con Try.prog 58 [(1000000000, Blk.mk [V.ptr 1000000002 0] false 1 none), (1000000001, Blk.mk [u16 0] true 1 none), (1000000002, Blk.mk [B8 D, B8 D, B8 D, V.val (Value.slice none 0 0)] true 4 none)] [u16 1, V.ptr 1000000001 0, V.ptr 1000000000 0] [(1000000000, Blk.mk [V.ptr 1000000002 0] false 1 none), (1000000001, Blk.mk [u16 0] true 1 none), (1000000002, Blk.mk [B8 A1, B8 B1, B8 C1, V.val (Value.slice none 0 0)] true 4 none)] (V.tup [])]) [(1, ⟨some (V.tup [V.sl 1000000000 9 0, V.sl 1000000001 14 0, V.sl 1000000002 240002 0]), some ⟨V.tup [], [(1000000000, Blk.mk [V.ptr 1000000002 0] false 1 none), (1000000001, Blk.mk [u16 0] true 1 none), (1000000002, Blk.mk [B8 A1, B8 B1, B8 C1, nilS] true 4 none)], []⟩⟩)] [2, 3, 8, 9, 10, 12, 13, 15, 30, 31, 32] [9, 410005, 14, 240002] (by kernel_rfl) ⟨(ch1 ), trivial⟩ ?_
          refine AWP.seq ?_
          refine xe1 (os := [false = true → False]) [(6, ⟨some (V.tup [vb false]), none⟩)] [2, 3, 8, 9, 10, 12, 13, 15, 30, 31, 32, 68] [9, 410005, 14, 240002] (by kernel_rfl) ⟨(by (intro hc0; first | (cases hc0; done) | (exfalso; simp_all; done) | ((try simp only [Bool.or_false, Bool.false_or, Bool.true_and, Bool.and_true, decide_eq_true_eq, decide_eq_false_iff_not, Bool.and_eq_true, Bool.or_eq_true, Bool.or_eq_false_iff, Bool.not_eq_true', Bool.and_eq_false_iff, beq_iff_eq, bne_iff_ne, bne_eq_false_iff_eq, beq_eq_false_iff_ne, Bool.not_eq_false'] at hc0); omega))), trivial⟩ ?_
          refine AWP.condF (by kernel_rfl) ?_
          refine AWP.skip ?_
          refine xe1 (os := [Con Try.prog 58 [(1000000000, Blk.mk [V.ptr 1000000002 0] false 1 none), (1000000001, Blk.mk [u16 0] true 1 none), (1000000002, Blk.mk [B8 A1, B8 B1, B8 C1, V.val (Value.slice none 0 0)] true 4 none)] [u16 2, V.ptr 1000000001 0, V.ptr 1000000000 0] [(1000000000, Blk.mk [V.ptr 1000000002 0] false 1 none), (1000000001, Blk.mk [u16 0] true 1 none), (1000000002, Blk.mk [B8 A2, B8 B2, B8 C2, V.val (Value.slice none 0 0)] true 4 none)] (V.tup [])]) [(1, ⟨some (V.tup [V.sl 1000000000 9 0, V.sl 1000000001 14 0, V.sl 1000000002 240002 0]), some ⟨V.tup [], [(1000000000, Blk.mk [V.ptr 1000000002 0] false 1 none), (1000000001, Blk.mk [u16 0] true 1 none), (1000000002, Blk.mk [B8 A2, B8 B2, B8 C2, nilS] true 4 none)], []⟩⟩)] [2, 3, 8, 9, 10, 12, 13, 15, 30, 31, 32] [9, 410005, 14, 240002] (by kernel_rfl) ⟨(ch2 ), trivial⟩ ?_
          refine AWP.seq ?_
          refine xe1 (os := [false = true → False]) [(5, ⟨some (V.tup [vb false]), none⟩)] [2, 3, 8, 9, 10, 12, 13, 15, 30, 31, 32, 77] [9, 410005, 14, 240002] (by kernel_rfl) ⟨(by (intro hc0; first | (cases hc0; done) | (exfalso; simp_all; done) | ((try simp only [Bool.or_false, Bool.false_or, Bool.true_and, Bool.and_true, decide_eq_true_eq, decide_eq_false_iff_not, Bool.and_eq_true, Bool.or_eq_true, Bool.or_eq_false_iff, Bool.not_eq_true', Bool.and_eq_false_iff, beq_iff_eq, bne_iff_ne, bne_eq_false_iff_eq, beq_eq_false_iff_ne, Bool.not_eq_false'] at hc0); omega))), trivial⟩ ?_
          refine AWP.condF (by kernel_rfl) ?_
          refine AWP.skip ?_
          refine xe1 (os := [Con Try.prog 58 [(1000000000, Blk.mk [V.ptr 1000000002 0] false 1 none), (1000000001, Blk.mk [u16 0] true 1 none), (1000000002, Blk.mk [B8 A2, B8 B2, B8 C2, V.val (Value.slice none 0 0)] true 4 none)] [u16 3, V.ptr 1000000001 0, V.ptr 1000000000 0] [(1000000000, Blk.mk [V.ptr 1000000002 0] false 1 none), (1000000001, Blk.mk [u16 0] true 1 none), (1000000002, Blk.mk [B8 A3, B8 B3, B8 C3, V.val (Value.slice none 0 0)] true 4 none)] (V.tup [])]) [(1, ⟨some (V.tup [V.sl 1000000000 9 0, V.sl 1000000001 14 0, V.sl 1000000002 240002 0]), some ⟨V.tup [], [(1000000000, Blk.mk [V.ptr 1000000002 0] false 1 none), (1000000001, Blk.mk [u16 0] true 1 none), (1000000002, Blk.mk [B8 A3, B8 B3, B8 C3, nilS] true 4 none)], []⟩⟩)] [2, 3, 8, 9, 10, 12, 13, 30, 31, 32] [9, 410005, 240002] (by kernel_rfl) ⟨(ch3 ), trivial⟩ ?_
          refine xe1 [(1, ⟨some (V.tup [V.sl 1000000000 240002 0]), some ⟨V.tup [], [(1000000000, Blk.mk [B8 A3, B8 B3, B8 C3, nilS] true 4 none)], []⟩⟩)] [2, 3, 8, 9, 10, 12, 13, 30, 31, 32] [9, 410005, 240002] (by kernel_rfl) (AllP.c (con_greset (B8 A3) (B8 B3) (B8 C3) (V.val (Value.slice none 0 0))) AllP.n) ?_
          refine xe1 (os := [VO (V.tup [u32 (cNo D), V.sl (1210005 : Nat) (0 : Nat) (List.length L), i64 (0 : Int)]), VOH [((1210005 : Nat), Blk.mk (u8s L) true (0 : Nat) (some ((5 : Nat), (1 : Nat))))], Con Try.prog 47 [] [V.vp [B8 A3, B8 B3, B8 C3, V.val (Value.slice none 0 0)]] [(1210005, Blk.mk (u8s L) true 0 (some (5, 1)))] (V.tup [u32 (cNo D), V.sl 1210005 0 (List.length L), i64 0])]) [(1, ⟨none, some ⟨V.tup [u32 (cNo D), V.sl 1210005 0 (List.length L), i64 0], [(1210005, Blk.mk (u8s L) true 0 (some (5, 1)))], [(240002, true)]⟩⟩)] [2, 3, 8, 9, 10, 12, 13, 17, 18, 30, 31, 32] [9, 410005, 2060005, 240002] (by kernel_rfl) ⟨(VO.tup (VOL.cons (VO.val _) (VOL.cons (VO.sl _ _ _) (VOL.cons (VO.val _) VOL.nil)))), ⟨(VOL.u8s _), trivial⟩, (cr ), trivial⟩ ?_
          refine AWP.seq ?_
          refine xe1 (os := [false = false → VO (vb (decide (L = L))) ∧ VOH [] ∧ Con Try.prog (23 : Nat) [] [B8 L, B8 L] [] (vb (decide (L = L))) ∧ (0 : Nat) = (0 : Nat) ∧ List.length L * (1 : Nat) = List.length (u8s L) ∧ True, true = false → (!decide (L = L)) = true → false = false → VO (vb (decide (L = P))) ∧ VOH [] ∧ Con Try.prog (23 : Nat) [] [B8 L, B8 P] [] (vb (decide (L = P))) ∧ (0 : Nat) = (0 : Nat) ∧ List.length L * (1 : Nat) = List.length (u8s L) ∧ (0 : Nat) = (0 : Nat) ∧ List.length P * (1 : Nat) = List.length (u8s P) ∧ True, false = true → (false || !decide (L = L) && true) = false → VO (vb (decide (L = P))) ∧ VOH [] ∧ Con Try.prog (23 : Nat) [] [B8 L, B8 P] [] (vb (decide (L = P))) ∧ (0 : Nat) = (0 : Nat) ∧ List.length L * (1 : Nat) = List.length (u8s L) ∧ (0 : Nat) = (0 : Nat) ∧ List.length P * (1 : Nat) = List.length (u8s P) ∧ True]) [(5, ⟨none, some ⟨vb (decide (L = L)), [], [(2060005, true)]⟩⟩), (13, ⟨none, some ⟨vb (decide (L = P)), [], [(410005, true), (2060005, true)]⟩⟩), (24, ⟨none, some ⟨vb (decide (L = P)), [], [(410005, true), (2060005, true)]⟩⟩)] [2, 3, 8, 9, 10, 17, 30, 31, 32, 115] [9, 2060005, 240002] (by kernel_rfl) ⟨(by intro hc0; first | (cases hc0; done) | ((try simp only [Bool.or_false, Bool.false_or, Bool.true_and, Bool.and_true, decide_eq_true_eq, decide_eq_false_iff_not, Bool.and_eq_true, Bool.or_eq_true, Bool.or_eq_false_iff, Bool.not_eq_true', Bool.and_eq_false_iff, beq_iff_eq, bne_iff_ne, bne_eq_false_iff_eq, beq_eq_false_iff_ne, Bool.not_eq_false'] at hc0); exact ⟨(VO.val _), trivial, (con_samen (L) (L) (List.length L) (List.length L) (by omega) (by omega) (by omega) (by omega)), (by omega), (by (simp [len_u8s]; done)), trivial⟩)), (by intro hc0 hc1 hc2; first | (cases hc0; done) | ((try simp only [Bool.or_false, Bool.false_or, Bool.true_and, Bool.and_true, decide_eq_true_eq, decide_eq_false_iff_not, Bool.and_eq_true, Bool.or_eq_true, Bool.or_eq_false_iff, Bool.not_eq_true', Bool.and_eq_false_iff, beq_iff_eq, bne_iff_ne, bne_eq_false_iff_eq, beq_eq_false_iff_ne, Bool.not_eq_false'] at hc0 hc1 hc2); exact ⟨(VO.val _), trivial, (con_samen (L) (P) (List.length L) (List.length P) (by omega) (by omega) (by omega) (by omega)), (by omega), (by (simp [len_u8s]; done)), (by omega), (by (simp [len_u8s]; done)), trivial⟩)), (by intro hc0 hc1; first | (cases hc0; done) | ((try simp only [Bool.or_false, Bool.false_or, Bool.true_and, Bool.and_true, decide_eq_true_eq, decide_eq_false_iff_not, Bool.and_eq_true, Bool.or_eq_true, Bool.or_eq_false_iff, Bool.not_eq_true', Bool.and_eq_false_iff, beq_iff_eq, bne_iff_ne, bne_eq_false_iff_eq, beq_eq_false_iff_ne, Bool.not_eq_false'] at hc0 hc1); exact ⟨(VO.val _), trivial, (con_samen (L) (P) (List.length L) (List.length P) (by omega) (by omega) (by omega) (by omega)), (by omega), (by (simp [len_u8s]; done)), (by omega), (by (simp [len_u8s]; done)), trivial⟩)), trivial⟩ ?_
          refine AWP.cond (b := false || !decide (L = L) && true || false) (by kernel_rfl) (fun hq106 => ?_) (fun hq106 => ?_)
          · simp only [Bool.or_false, Bool.false_or, Bool.and_true, decide_eq_false_iff_not, Bool.not_eq_true'] at hq106
            (simp [bl] at hq106; done)
          simp only [Bool.or_false, Bool.false_or, Bool.and_true, decide_eq_true_eq, Bool.not_eq_false'] at hq106
          refine AWP.skip ?_
          refine xe0 [2, 3, 8, 9, 10, 30, 31, 32] [9, 2060005, 240002] (by kernel_rfl) ?_
          refine xe1 (os := [Con Try.prog 48 [(1000000000, Blk.mk [B8 A3, B8 B3, B8 C3, V.val (Value.slice none 0 0)] true 4 none)] [V.ptr 1000000000 0] [(1000000000, Blk.mk [B8 D, B8 D, B8 D, V.val (Value.slice none 0 0)] true 4 none)] (V.tup [i64 (nq A3 D + nq B3 D + nq C3 D), i64 0])]) [(1, ⟨some (V.tup [V.sl 1000000000 240002 0]), some ⟨V.tup [i64 (nq A3 D + nq B3 D + nq C3 D), i64 0], [(1000000000, Blk.mk [B8 D, B8 D, B8 D, nilS] true 4 none)], []⟩⟩)] [2, 3, 8, 9, 10, 20, 30, 31, 32] [9, 2060005, 240002] (by kernel_rfl) ⟨(cs2 ), trivial⟩ ?_
          refine xe0 [2, 3, 8, 9, 10, 30, 31, 32, 123] [9, 2060005, 240002] (by kernel_rfl) ?_
          refine AWP.condF (by kernel_rfl) ?_
          refine AWP.skip ?_
          refine AWP.frz 2060005 (s' := St.mk [(2, tp (V.vs cs nc)), (3, tp (V.vs ss ns)), (8, tp (vb false)), (9, tp (V.ptr 9 0)), (10, tp (B8 L)), (30, tp (V.vs xs n)), (31, tp (i64 (↑n : Int))), (32, tp (i64 i)), (123, tp (vb false))] [(9, Blk.mk [V.ptr 240002 0] false 1 none), (240002, Blk.mk [B8 D, B8 D, B8 D, V.val (Value.slice none 0 0)] true 4 none)]) (by kernel_rfl) ?_
          refine AWP.region tcok hmix [(0, ⟨some (i64 (i + 1)), none⟩)] (os := [i64 (IntKind.wrap IntKind.i64 (i + 1)) = i64 (i + 1)]) (sf := St.mk [(2, tp (V.vs cs nc)), (3, tp (V.vs ss ns)), (8, tp (vb false)), (9, tp (V.ptr 9 0)), (10, tp (B8 L)), (30, tp (V.vs xs n)), (31, tp (i64 (↑n : Int))), (32, tp (i64 (i + 1))), (123, tp (vb false)), (124, tp (i64 (i + 1)))] [(9, Blk.mk [V.ptr 240002 0] false 1 none), (240002, Blk.mk [B8 D, B8 D, B8 D, V.val (Value.slice none 0 0)] true 4 none)]) (by kernel_rfl) ⟨(wr_i64 (by omega) (by omega)), trivial⟩ ?_
          refine ⟨St.mk [(2, tp (V.vs cs nc)), (3, tp (V.vs ss ns)), (8, tp (vb false)), (9, tp (V.ptr 9 0)), (10, tp (B8 L)), (30, tp (V.vs xs n)), (31, tp (i64 (↑n : Int))), (32, tp (i64 (i + 1)))] [(9, Blk.mk [V.ptr 240002 0] false 1 none), (240002, Blk.mk [B8 D, B8 D, B8 D, V.val (Value.slice none 0 0)] true 4 none)], by kernel_rfl, ?_⟩
          (exact ⟨(n - (i + 1)).toNat, (by omega), i + 1, s, L, D, rfl, hD, hLb, hLl, (by omega), (by omega), (by omega), (by omega), (by omega)⟩)
        simp only [decide_eq_false_iff_not] at hq102
        (exfalso; omega)
      simp only [decide_eq_false_iff_not] at hq100
      (exfalso; omega)
  · obtain ⟨A1, B1, C1, A2, B2, C2, h1t, gA1, gB1, gC1, ht, h2t, gA2, gB2, gC2, q1, q2⟩ := hold_a (v := v) hv gD gE dE eE hgt
    rw [dN] at ht
    have ch1 := con_hitn 1 v _ _ _ _ _ _ hv gD gD gD h1t
    have cb := con_gbegin_y A1 B1 C1 gA1.1 gB1.1 gC1.1 (by have := gA1.2.2; omega) (by have := gB1.2.2; omega) (by have := gC1.2.2; omega) P P.length hPb rfl E (by rw [ht]; exact hE) (by omega) (by omega)
    have ch2 := con_hitp 2 v _ _ _ _ _ _ E hv gE gB1 gC1 h2t
    have cfi := con_gfinish A2 B2 C2 E (by omega) (by omega)
    obtain ⟨A3, B3, C3, k, h3t, gA3, gB3, gC3, hv2, hk⟩ := q1
    have ch3 := con_hitn 3 v _ _ _ _ _ _ hv gA2 gE gE h3t
    have cr := (con_gread_y A3 B3 C3 gA3.1 gB3.1 gC3.1 (by have := gA3.2.2; omega) (by have := gB3.2.2; omega) (by have := gC3.2.2; omega) nilS _ k hv2 hk)
    rw [eP] at cr
    have cs2 := con_gscrub_y A3 B3 C3 gA3.1 gB3.1 gC3.1 (by have := gA3.2.2; omega) (by have := gB3.2.2; omega) (by have := gC3.2.2; omega) _ k hv2 hk
    refine xe0 [2, 3, 8, 9, 10, 30, 31, 32, 33] [9, 240002] (by kernel_rfl) ?_
    refine AWP.seq ?_
    refine AWP.cond (b := decide (i < (↑n : Int))) (by kernel_rfl) (fun hq108 => ?_) (fun hq108 => ?_)
    · simp only [decide_eq_true_eq] at hq108
      refine AWP.skip ?_
      refine AWP.seq ?_
      refine AWP.block ?_
      refine xe1 (os := [(0 : Int) ≤ i ∧ i < (↑n : Int), V.vp (List.drop (Int.toNat i * 1) xs) = V.vp (B8 c :: r)]) [(1, ⟨some (V.vp (B8 c :: r)), none⟩)] [2, 3, 8, 9, 10, 11, 12, 30, 31, 32] [9, 240002] (by kernel_rfl) ⟨(by omega), (congrArg V.vp kx1), trivial⟩ ?_
      refine AWP.seq ?_
      refine xe0 [2, 3, 8, 9, 10, 11, 12, 30, 31, 32, 38] [9, 240002] (by kernel_rfl) ?_
      refine AWP.cond (b := decide (i ≥ 12)) (by kernel_rfl) (fun hq109 => ?_) (fun hq109 => ?_)
      · simp only [decide_eq_true_eq] at hq109
        (exfalso; omega)
      simp only [decide_eq_false_iff_not] at hq109
      refine AWP.skip ?_
      refine xe1 (os := [Con Try.prog 18 [] [B8 c, i64 100] [(5, Blk.mk (u8s P) true 0 (some (5, 1)))] (V.sl 5 0 (List.length P))]) [(1, ⟨none, some ⟨V.sl 5 0 (List.length P), [(5, Blk.mk (u8s P) true 0 (some (5, 1)))], []⟩⟩)] [2, 3, 8, 9, 10, 11, 12, 30, 31, 32] [9, 410005, 240002] (by kernel_rfl) ⟨(hcut ), trivial⟩ ?_
      refine xe0 [2, 3, 8, 9, 10, 11, 12, 13, 30, 31, 32] [9, 240002, 410005] (by kernel_rfl) ?_
      refine AWP.seq ?_
      refine xe0 [2, 3, 8, 9, 10, 11, 12, 13, 30, 31, 32, 44] [9, 410005, 240002] (by kernel_rfl) ?_
      refine AWP.cond (b := decide (i < (↑nc : Int))) (by kernel_rfl) (fun hq110 => ?_) (fun hq110 => ?_)
      · simp only [decide_eq_true_eq] at hq110
        (exfalso; omega)
      simp only [decide_eq_false_iff_not] at hq110
      refine AWP.skip ?_
      refine xe0 [2, 3, 8, 9, 10, 11, 12, 13, 14, 30, 31, 32] [9, 410005, 14, 240002] (by kernel_rfl) ?_
      refine AWP.seq ?_
      refine xe0 [2, 3, 8, 9, 10, 11, 12, 13, 14, 30, 31, 32, 53] [9, 410005, 14, 240002] (by kernel_rfl) ?_
      refine AWP.cond (b := decide (i < (↑ns : Int))) (by kernel_rfl) (fun hq111 => ?_) (fun hq111 => ?_)
      · simp only [decide_eq_true_eq] at hq111
        refine xg1 (os := [(0 : Int) ≤ i ∧ i < (↑ns : Int), V.vp (List.drop (Int.toNat i * 1) ss) = V.vp (u16 v :: rv)]) [(2, ⟨some (V.vp (u16 v :: rv)), none⟩)] [2, 3, 8, 9, 10, 12, 13, 14, 30, 31, 32] [9, 410005, 14, 240002] (by kernel_rfl) ⟨(by omega), (congrArg V.vp (kv (by omega))), trivial⟩ ?_
        refine xe0 [2, 3, 8, 9, 10, 12, 13, 15, 30, 31, 32] [9, 410005, 14, 240002] (by kernel_rfl) ?_
        refine xe1 (os := [Con Try.prog 58 [(1000000000, Blk.mk [V.ptr 1000000002 0] false 1 none), (1000000001, Blk.mk [u16 v] true 1 none), (1000000002, Blk.mk [B8 D, B8 D, B8 D, V.val (Value.slice none 0 0)] true 4 none)] [u16 1, V.ptr 1000000001 0, V.ptr 1000000000 0] [(1000000000, Blk.mk [V.ptr 1000000002 0] false 1 none), (1000000001, Blk.mk [u16 v] true 1 none), (1000000002, Blk.mk [B8 A1, B8 B1, B8 C1, V.val (Value.slice none 0 0)] true 4 none)] (V.tup [])]) [(1, ⟨some (V.tup [V.sl 1000000000 9 0, V.sl 1000000001 14 0, V.sl 1000000002 240002 0]), some ⟨V.tup [], [(1000000000, Blk.mk [V.ptr 1000000002 0] false 1 none), (1000000001, Blk.mk [u16 v] true 1 none), (1000000002, Blk.mk [B8 A1, B8 B1, B8 C1, nilS] true 4 none)], []⟩⟩)] [2, 3, 8, 9, 10, 12, 13, 15, 30, 31, 32] [9, 410005, 14, 240002] (by kernel_rfl) ⟨(ch1 ), trivial⟩ ?_
        refine AWP.seq ?_
        refine AWP.seq ?_
        refine AWP.frz 410005 (s' := St.mk [(2, tp (V.vs cs nc)), (3, tp (V.vs ss ns)), (8, tp (vb false)), (9, tp (V.ptr 9 0)), (10, tp (B8 L)), (12, tp (B8 P)), (13, tp (u8 0)), (15, tp (V.clo (Fn.func 58) [] [V.ptr 14 0, V.ptr 9 0])), (30, tp (V.vs xs n)), (31, tp (i64 (↑n : Int))), (32, tp (i64 i))] [(9, Blk.mk [V.ptr 240002 0] false 1 none), (14, Blk.mk [u16 v] true 1 none), (240002, Blk.mk [B8 A1, B8 B1, B8 C1, V.val (Value.slice none 0 0)] true 4 none)]) (by kernel_rfl) ?_
        refine xg1 (os := [Con Try.prog 45 [(1000000000, Blk.mk [B8 A1, B8 B1, B8 C1, V.val (Value.slice none 0 0)] true 4 none)] [V.ptr 1000000000 0, B8 P] [(1000000000, Blk.mk [B8 E, B8 B1, B8 C1, B8 E] true 4 none)] (i64 0)]) [(5, ⟨some (V.tup [V.sl 1000000000 240002 0]), some ⟨i64 0, [(1000000000, Blk.mk [B8 E, B8 B1, B8 C1, B8 E] true 4 none)], []⟩⟩)] [2, 3, 8, 9, 10, 12, 13, 15, 30, 31, 32, 68] [9, 14, 240002] (by kernel_rfl) ⟨(cb ), trivial⟩ ?_
        refine AWP.condF (by kernel_rfl) ?_
        refine AWP.skip ?_
        refine xe1 (os := [Con Try.prog 58 [(1000000000, Blk.mk [V.ptr 1000000002 0] false 1 none), (1000000001, Blk.mk [u16 v] true 1 none), (1000000002, Blk.mk [B8 E, B8 B1, B8 C1, B8 E] true 4 none)] [u16 2, V.ptr 1000000001 0, V.ptr 1000000000 0] [(1000000000, Blk.mk [V.ptr 1000000002 0] false 1 none), (1000000001, Blk.mk [u16 v] true 1 none), (1000000002, Blk.mk [B8 A2, B8 B2, B8 C2, B8 E] true 4 none)] (V.tup [])]) [(1, ⟨some (V.tup [V.sl 1000000000 9 0, V.sl 1000000001 14 0, V.sl 1000000002 240002 0]), some ⟨V.tup [], [(1000000000, Blk.mk [V.ptr 1000000002 0] false 1 none), (1000000001, Blk.mk [u16 v] true 1 none), (1000000002, Blk.mk [B8 A2, B8 B2, B8 C2, B8 E] true 4 none)], []⟩⟩)] [2, 3, 8, 9, 10, 12, 13, 15, 30, 31, 32] [9, 14, 240002] (by kernel_rfl) ⟨(ch2 ), trivial⟩ ?_
        refine AWP.seq ?_
        refine xe1 (os := [Con Try.prog 55 [(1000000000, Blk.mk [B8 A2, B8 B2, B8 C2, B8 E] true 4 none)] [V.ptr 1000000000 0] [(1000000000, Blk.mk [B8 A2, B8 E, B8 E, V.val (Value.slice none 0 0)] true 4 none)] (i64 0)]) [(4, ⟨some (V.tup [V.sl 1000000000 240002 0]), some ⟨i64 0, [(1000000000, Blk.mk [B8 A2, B8 E, B8 E, nilS] true 4 none)], []⟩⟩)] [2, 3, 8, 9, 10, 12, 13, 15, 30, 31, 32, 77] [9, 14, 240002] (by kernel_rfl) ⟨(cfi ), trivial⟩ ?_
        refine AWP.condF (by kernel_rfl) ?_
        refine AWP.skip ?_
        refine xe1 (os := [Con Try.prog 58 [(1000000000, Blk.mk [V.ptr 1000000002 0] false 1 none), (1000000001, Blk.mk [u16 v] true 1 none), (1000000002, Blk.mk [B8 A2, B8 E, B8 E, V.val (Value.slice none 0 0)] true 4 none)] [u16 3, V.ptr 1000000001 0, V.ptr 1000000000 0] [(1000000000, Blk.mk [V.ptr 1000000002 0] false 1 none), (1000000001, Blk.mk [u16 v] true 1 none), (1000000002, Blk.mk [B8 A3, B8 B3, B8 C3, V.val (Value.slice none 0 0)] true 4 none)] (V.tup [])]) [(1, ⟨some (V.tup [V.sl 1000000000 9 0, V.sl 1000000001 14 0, V.sl 1000000002 240002 0]), some ⟨V.tup [], [(1000000000, Blk.mk [V.ptr 1000000002 0] false 1 none), (1000000001, Blk.mk [u16 v] true 1 none), (1000000002, Blk.mk [B8 A3, B8 B3, B8 C3, nilS] true 4 none)], []⟩⟩)] [2, 3, 8, 9, 10, 12, 13, 30, 31, 32] [9, 240002] (by kernel_rfl) ⟨(ch3 ), trivial⟩ ?_
        refine xe1 [(1, ⟨some (V.tup [V.sl 1000000000 240002 0]), some ⟨V.tup [], [(1000000000, Blk.mk [B8 A3, B8 B3, B8 C3, nilS] true 4 none)], []⟩⟩)] [2, 3, 8, 9, 10, 12, 13, 30, 31, 32] [9, 240002] (by kernel_rfl) (AllP.c (con_greset (B8 A3) (B8 B3) (B8 C3) (V.val (Value.slice none 0 0))) AllP.n) ?_
        refine xe1 (os := [VO (V.tup [u32 (cNo E), V.sl (1210005 : Nat) (0 : Nat) (List.length P), i64 (0 : Int)]), VOH [((1210005 : Nat), Blk.mk (u8s P) true (0 : Nat) (some ((5 : Nat), (1 : Nat))))], Con Try.prog 47 [] [V.vp [B8 A3, B8 B3, B8 C3, V.val (Value.slice none 0 0)]] [(1210005, Blk.mk (u8s P) true 0 (some (5, 1)))] (V.tup [u32 (cNo E), V.sl 1210005 0 (List.length P), i64 0])]) [(1, ⟨none, some ⟨V.tup [u32 (cNo E), V.sl 1210005 0 (List.length P), i64 0], [(1210005, Blk.mk (u8s P) true 0 (some (5, 1)))], [(240002, true)]⟩⟩)] [2, 3, 8, 9, 10, 12, 13, 17, 18, 30, 31, 32] [9, 2060005, 240002] (by kernel_rfl) ⟨(VO.tup (VOL.cons (VO.val _) (VOL.cons (VO.sl _ _ _) (VOL.cons (VO.val _) VOL.nil)))), ⟨(VOL.u8s _), trivial⟩, (cr ), trivial⟩ ?_
        refine AWP.seq ?_
        refine xe1 (os := [false = false → VO (vb (decide (P = L))) ∧ VOH [] ∧ Con Try.prog (23 : Nat) [] [B8 P, B8 L] [] (vb (decide (P = L))) ∧ (0 : Nat) = (0 : Nat) ∧ List.length P * (1 : Nat) = List.length (u8s P) ∧ True, false = false → (!decide (P = L)) = true → false = false → VO (vb (decide (P = P))) ∧ VOH [] ∧ Con Try.prog (23 : Nat) [] [B8 P, B8 P] [] (vb (decide (P = P))) ∧ (0 : Nat) = (0 : Nat) ∧ List.length P * (1 : Nat) = List.length (u8s P) ∧ True, true = true → (false || !decide (P = L) && (false || !decide (P = P))) = false → VO (vb (decide (P = P))) ∧ VOH [] ∧ Con Try.prog (23 : Nat) [] [B8 P, B8 P] [] (vb (decide (P = P))) ∧ (0 : Nat) = (0 : Nat) ∧ List.length P * (1 : Nat) = List.length (u8s P) ∧ True]) [(5, ⟨none, some ⟨vb (decide (P = L)), [], [(2060005, true)]⟩⟩), (13, ⟨none, some ⟨vb (decide (P = P)), [], [(2060005, true)]⟩⟩), (24, ⟨none, some ⟨vb (decide (P = P)), [], [(2060005, true)]⟩⟩)] [2, 3, 8, 9, 10, 17, 30, 31, 32, 115] [9, 2060005, 240002] (by kernel_rfl) ⟨(by intro hc0; first | (cases hc0; done) | ((try simp only [Bool.or_false, Bool.false_or, Bool.true_and, Bool.and_true, decide_eq_true_eq, decide_eq_false_iff_not, Bool.and_eq_true, Bool.or_eq_true, Bool.or_eq_false_iff, Bool.not_eq_true', Bool.and_eq_false_iff, beq_iff_eq, bne_iff_ne, bne_eq_false_iff_eq, beq_eq_false_iff_ne, Bool.not_eq_false'] at hc0); exact ⟨(VO.val _), trivial, (con_samen (P) (L) (List.length P) (List.length L) (by omega) (by omega) (by omega) (by omega)), (by omega), (by (simp [len_u8s]; done)), trivial⟩)), (by intro hc0 hc1 hc2; first | (cases hc0; done) | ((try simp only [Bool.or_false, Bool.false_or, Bool.true_and, Bool.and_true, decide_eq_true_eq, decide_eq_false_iff_not, Bool.and_eq_true, Bool.or_eq_true, Bool.or_eq_false_iff, Bool.not_eq_true', Bool.and_eq_false_iff, beq_iff_eq, bne_iff_ne, bne_eq_false_iff_eq, beq_eq_false_iff_ne, Bool.not_eq_false'] at hc0 hc1 hc2); exact ⟨(VO.val _), trivial, (con_samen (P) (P) (List.length P) (List.length P) (by omega) (by omega) (by omega) (by omega)), (by omega), (by (simp [len_u8s]; done)), trivial⟩)), (by intro hc0 hc1; first | (cases hc0; done) | ((try simp only [Bool.or_false, Bool.false_or, Bool.true_and, Bool.and_true, decide_eq_true_eq, decide_eq_false_iff_not, Bool.and_eq_true, Bool.or_eq_true, Bool.or_eq_false_iff, Bool.not_eq_true', Bool.and_eq_false_iff, beq_iff_eq, bne_iff_ne, bne_eq_false_iff_eq, beq_eq_false_iff_ne, Bool.not_eq_false'] at hc0 hc1); exact ⟨(VO.val _), trivial, (con_samen (P) (P) (List.length P) (List.length P) (by omega) (by omega) (by omega) (by omega)), (by omega), (by (simp [len_u8s]; done)), trivial⟩)), trivial⟩ ?_
        refine AWP.cond (b := false || !decide (P = L) && (false || !decide (P = P)) || true && !decide (P = P)) (by kernel_rfl) (fun hq114 => ?_) (fun hq114 => ?_)
        · simp only [Bool.false_or, Bool.true_and, decide_eq_false_iff_not, Bool.and_eq_true, Bool.or_eq_true, Bool.not_eq_true'] at hq114
          (simp [bl] at hq114; done)
        simp only [Bool.false_or, Bool.true_and, decide_eq_true_eq, Bool.or_eq_false_iff, Bool.and_eq_false_iff, Bool.not_eq_false'] at hq114
        refine AWP.skip ?_
        refine xe0 [2, 3, 8, 9, 10, 30, 31, 32] [9, 2060005, 240002] (by kernel_rfl) ?_
        refine xe1 (os := [Con Try.prog 48 [(1000000000, Blk.mk [B8 A3, B8 B3, B8 C3, V.val (Value.slice none 0 0)] true 4 none)] [V.ptr 1000000000 0] [(1000000000, Blk.mk [B8 E, B8 E, B8 E, V.val (Value.slice none 0 0)] true 4 none)] (V.tup [i64 (nq A3 E + nq B3 E + nq C3 E), i64 0])]) [(1, ⟨some (V.tup [V.sl 1000000000 240002 0]), some ⟨V.tup [i64 (nq A3 E + nq B3 E + nq C3 E), i64 0], [(1000000000, Blk.mk [B8 E, B8 E, B8 E, nilS] true 4 none)], []⟩⟩)] [2, 3, 8, 9, 10, 20, 30, 31, 32] [9, 2060005, 240002] (by kernel_rfl) ⟨(cs2 ), trivial⟩ ?_
        refine xe0 [2, 3, 8, 9, 10, 30, 31, 32, 123] [9, 2060005, 240002] (by kernel_rfl) ?_
        refine AWP.condF (by kernel_rfl) ?_
        refine AWP.skip ?_
        refine AWP.frz 2060005 (s' := St.mk [(2, tp (V.vs cs nc)), (3, tp (V.vs ss ns)), (8, tp (vb false)), (9, tp (V.ptr 9 0)), (10, tp (B8 P)), (30, tp (V.vs xs n)), (31, tp (i64 (↑n : Int))), (32, tp (i64 i)), (123, tp (vb false))] [(9, Blk.mk [V.ptr 240002 0] false 1 none), (240002, Blk.mk [B8 E, B8 E, B8 E, V.val (Value.slice none 0 0)] true 4 none)]) (by kernel_rfl) ?_
        refine AWP.region tcok hmix [(0, ⟨some (i64 (i + 1)), none⟩)] (os := [i64 (IntKind.wrap IntKind.i64 (i + 1)) = i64 (i + 1)]) (sf := St.mk [(2, tp (V.vs cs nc)), (3, tp (V.vs ss ns)), (8, tp (vb false)), (9, tp (V.ptr 9 0)), (10, tp (B8 P)), (30, tp (V.vs xs n)), (31, tp (i64 (↑n : Int))), (32, tp (i64 (i + 1))), (123, tp (vb false)), (124, tp (i64 (i + 1)))] [(9, Blk.mk [V.ptr 240002 0] false 1 none), (240002, Blk.mk [B8 E, B8 E, B8 E, V.val (Value.slice none 0 0)] true 4 none)]) (by kernel_rfl) ⟨(wr_i64 (by omega) (by omega)), trivial⟩ ?_
        refine ⟨St.mk [(2, tp (V.vs cs nc)), (3, tp (V.vs ss ns)), (8, tp (vb false)), (9, tp (V.ptr 9 0)), (10, tp (B8 P)), (30, tp (V.vs xs n)), (31, tp (i64 (↑n : Int))), (32, tp (i64 (i + 1)))] [(9, Blk.mk [V.ptr 240002 0] false 1 none), (240002, Blk.mk [B8 E, B8 E, B8 E, V.val (Value.slice none 0 0)] true 4 none)], by kernel_rfl, ?_⟩
        (exact ⟨(n - (i + 1)).toNat, (by omega), i + 1, s + 1, P, E, rfl, hE, hPb, hPl, (by omega), (by omega), (by omega), (by omega), (by omega)⟩)
      simp only [decide_eq_false_iff_not] at hq111
      (exfalso; omega)
    simp only [decide_eq_false_iff_not] at hq108
    (exfalso; omega)
  · obtain ⟨A1, B1, C1, A2, B2, C2, h1t, gA1, gB1, gC1, ht, h2t, gA2, gB2, gC2, q1, q2⟩ := hold_a (v := 0) (by omega) gD gE dE eE hgt
    rw [dN] at ht
    have ch1 := con_hitn 1 0 _ _ _ _ _ _ (by omega) gD gD gD h1t
    have cb := con_gbegin_y A1 B1 C1 gA1.1 gB1.1 gC1.1 (by have := gA1.2.2; omega) (by have := gB1.2.2; omega) (by have := gC1.2.2; omega) P P.length hPb rfl E (by rw [ht]; exact hE) (by omega) (by omega)
    have ch2 := con_hitp 2 0 _ _ _ _ _ _ E (by omega) gE gB1 gC1 h2t
    have cfi := con_gfinish A2 B2 C2 E (by omega) (by omega)
    obtain ⟨A3, B3, C3, k, h3t, gA3, gB3, gC3, hv2, hk⟩ := q1
    have ch3 := con_hitn 3 0 _ _ _ _ _ _ (by omega) gA2 gE gE h3t
    have cr := (con_gread_y A3 B3 C3 gA3.1 gB3.1 gC3.1 (by have := gA3.2.2; omega) (by have := gB3.2.2; omega) (by have := gC3.2.2; omega) nilS _ k hv2 hk)
    rw [eP] at cr
    have cs2 := con_gscrub_y A3 B3 C3 gA3.1 gB3.1 gC3.1 (by have := gA3.2.2; omega) (by have := gB3.2.2; omega) (by have := gC3.2.2; omega) _ k hv2 hk
    refine xe0 [2, 3, 8, 9, 10, 30, 31, 32, 33] [9, 240002] (by kernel_rfl) ?_
    refine AWP.seq ?_
    refine AWP.cond (b := decide (i < (↑n : Int))) (by kernel_rfl) (fun hq116 => ?_) (fun hq116 => ?_)
    · simp only [decide_eq_true_eq] at hq116
      refine AWP.skip ?_
      refine AWP.seq ?_
      refine AWP.block ?_
      refine xe1 (os := [(0 : Int) ≤ i ∧ i < (↑n : Int), V.vp (List.drop (Int.toNat i * 1) xs) = V.vp (B8 c :: r)]) [(1, ⟨some (V.vp (B8 c :: r)), none⟩)] [2, 3, 8, 9, 10, 11, 12, 30, 31, 32] [9, 240002] (by kernel_rfl) ⟨(by omega), (congrArg V.vp kx1), trivial⟩ ?_
      refine AWP.seq ?_
      refine xe0 [2, 3, 8, 9, 10, 11, 12, 30, 31, 32, 38] [9, 240002] (by kernel_rfl) ?_
      refine AWP.cond (b := decide (i ≥ 12)) (by kernel_rfl) (fun hq117 => ?_) (fun hq117 => ?_)
      · simp only [decide_eq_true_eq] at hq117
        (exfalso; omega)
      simp only [decide_eq_false_iff_not] at hq117
      refine AWP.skip ?_
      refine xe1 (os := [Con Try.prog 18 [] [B8 c, i64 100] [(5, Blk.mk (u8s P) true 0 (some (5, 1)))] (V.sl 5 0 (List.length P))]) [(1, ⟨none, some ⟨V.sl 5 0 (List.length P), [(5, Blk.mk (u8s P) true 0 (some (5, 1)))], []⟩⟩)] [2, 3, 8, 9, 10, 11, 12, 30, 31, 32] [9, 410005, 240002] (by kernel_rfl) ⟨(hcut ), trivial⟩ ?_
      refine xe0 [2, 3, 8, 9, 10, 11, 12, 13, 30, 31, 32] [9, 240002, 410005] (by kernel_rfl) ?_
      refine AWP.seq ?_
      refine xe0 [2, 3, 8, 9, 10, 11, 12, 13, 30, 31, 32, 44] [9, 410005, 240002] (by kernel_rfl) ?_
      refine AWP.cond (b := decide (i < (↑nc : Int))) (by kernel_rfl) (fun hq118 => ?_) (fun hq118 => ?_)
      · simp only [decide_eq_true_eq] at hq118
        (exfalso; omega)
      simp only [decide_eq_false_iff_not] at hq118
      refine AWP.skip ?_
      refine xe0 [2, 3, 8, 9, 10, 11, 12, 13, 14, 30, 31, 32] [9, 410005, 14, 240002] (by kernel_rfl) ?_
      refine AWP.seq ?_
      refine xe0 [2, 3, 8, 9, 10, 11, 12, 13, 14, 30, 31, 32, 53] [9, 410005, 14, 240002] (by kernel_rfl) ?_
      refine AWP.cond (b := decide (i < (↑ns : Int))) (by kernel_rfl) (fun hq119 => ?_) (fun hq119 => ?_)
      · simp only [decide_eq_true_eq] at hq119
        (exfalso; omega)
      simp only [decide_eq_false_iff_not] at hq119
      refine AWP.skip ?_
      refine xe0 [2, 3, 8, 9, 10, 12, 13, 15, 30, 31, 32] [9, 410005, 14, 240002] (by kernel_rfl) ?_
      refine xe1 (os := [Con Try.prog 58 [(1000000000, Blk.mk [V.ptr 1000000002 0] false 1 none), (1000000001, Blk.mk [u16 0] true 1 none), (1000000002, Blk.mk [B8 D, B8 D, B8 D, V.val (Value.slice none 0 0)] true 4 none)] [u16 1, V.ptr 1000000001 0, V.ptr 1000000000 0] [(1000000000, Blk.mk [V.ptr 1000000002 0] false 1 none), (1000000001, Blk.mk [u16 0] true 1 none), (1000000002, Blk.mk [B8 A1, B8 B1, B8 C1, V.val (Value.slice none 0 0)] true 4 none)] (V.tup [])]) [(1, ⟨some (V.tup [V.sl 1000000000 9 0, V.sl 1000000001 14 0, V.sl 1000000002 240002 0]), some ⟨V.tup [], [(1000000000, Blk.mk [V.ptr 1000000002 0] false 1 none), (1000000001, Blk.mk [u16 0] true 1 none), (1000000002, Blk.mk [B8 A1, B8 B1, B8 C1, nilS] true 4 none)], []⟩⟩)] [2, 3, 8, 9, 10, 12, 13, 15, 30, 31, 32] [9, 410005, 14, 240002] (by kernel_rfl) ⟨(ch1 ), trivial⟩ ?_
      refine AWP.seq ?_
      refine AWP.seq ?_
      refine AWP.frz 410005 (s' := St.mk [(2, tp (V.vs cs nc)), (3, tp (V.vs ss ns)), (8, tp (vb false)), (9, tp (V.ptr 9 0)), (10, tp (B8 L)), (12, tp (B8 P)), (13, tp (u8 0)), (15, tp (V.clo (Fn.func 58) [] [V.ptr 14 0, V.ptr 9 0])), (30, tp (V.vs xs n)), (31, tp (i64 (↑n : Int))), (32, tp (i64 i))] [(9, Blk.mk [V.ptr 240002 0] false 1 none), (14, Blk.mk [u16 0] true 1 none), (240002, Blk.mk [B8 A1, B8 B1, B8 C1, V.val (Value.slice none 0 0)] true 4 none)]) (by kernel_rfl) ?_
      refine xg1 (os := [Con Try.prog 45 [(1000000000, Blk.mk [B8 A1, B8 B1, B8 C1, V.val (Value.slice none 0 0)] true 4 none)] [V.ptr 1000000000 0, B8 P] [(1000000000, Blk.mk [B8 E, B8 B1, B8 C1, B8 E] true 4 none)] (i64 0)]) [(5, ⟨some (V.tup [V.sl 1000000000 240002 0]), some ⟨i64 0, [(1000000000, Blk.mk [B8 E, B8 B1, B8 C1, B8 E] true 4 none)], []⟩⟩)] [2, 3, 8, 9, 10, 12, 13, 15, 30, 31, 32, 68] [9, 14, 240002] (by kernel_rfl) ⟨(cb ), trivial⟩ ?_
      refine AWP.condF (by kernel_rfl) ?_
      refine AWP.skip ?_
      refine xe1 (os := [Con Try.prog 58 [(1000000000, Blk.mk [V.ptr 1000000002 0] false 1 none), (1000000001, Blk.mk [u16 0] true 1 none), (1000000002, Blk.mk [B8 E, B8 B1, B8 C1, B8 E] true 4 none)] [u16 2, V.ptr 1000000001 0, V.ptr 1000000000 0] [(1000000000, Blk.mk [V.ptr 1000000002 0] false 1 none), (1000000001, Blk.mk [u16 0] true 1 none), (1000000002, Blk.mk [B8 A2, B8 B2, B8 C2, B8 E] true 4 none)] (V.tup [])]) [(1, ⟨some (V.tup [V.sl 1000000000 9 0, V.sl 1000000001 14 0, V.sl 1000000002 240002 0]), some ⟨V.tup [], [(1000000000, Blk.mk [V.ptr 1000000002 0] false 1 none), (1000000001, Blk.mk [u16 0] true 1 none), (1000000002, Blk.mk [B8 A2, B8 B2, B8 C2, B8 E] true 4 none)], []⟩⟩)] [2, 3, 8, 9, 10, 12, 13, 15, 30, 31, 32] [9, 14, 240002] (by kernel_rfl) ⟨(ch2 ), trivial⟩ ?_
      refine AWP.seq ?_
      refine xe1 (os := [Con Try.prog 55 [(1000000000, Blk.mk [B8 A2, B8 B2, B8 C2, B8 E] true 4 none)] [V.ptr 1000000000 0] [(1000000000, Blk.mk [B8 A2, B8 E, B8 E, V.val (Value.slice none 0 0)] true 4 none)] (i64 0)]) [(4, ⟨some (V.tup [V.sl 1000000000 240002 0]), some ⟨i64 0, [(1000000000, Blk.mk [B8 A2, B8 E, B8 E, nilS] true 4 none)], []⟩⟩)] [2, 3, 8, 9, 10, 12, 13, 15, 30, 31, 32, 77] [9, 14, 240002] (by kernel_rfl) ⟨(cfi ), trivial⟩ ?_
      refine AWP.condF (by kernel_rfl) ?_
      refine AWP.skip ?_
      refine xe1 (os := [Con Try.prog 58 [(1000000000, Blk.mk [V.ptr 1000000002 0] false 1 none), (1000000001, Blk.mk [u16 0] true 1 none), (1000000002, Blk.mk [B8 A2, B8 E, B8 E, V.val (Value.slice none 0 0)] true 4 none)] [u16 3, V.ptr 1000000001 0, V.ptr 1000000000 0] [(1000000000, Blk.mk [V.ptr 1000000002 0] false 1 none), (1000000001, Blk.mk [u16 0] true 1 none), (1000000002, Blk.mk [B8 A3, B8 B3, B8 C3, V.val (Value.slice none 0 0)] true 4 none)] (V.tup [])]) [(1, ⟨some (V.tup [V.sl 1000000000 9 0, V.sl 1000000001 14 0, V.sl 1000000002 240002 0]), some ⟨V.tup [], [(1000000000, Blk.mk [V.ptr 1000000002 0] false 1 none), (1000000001, Blk.mk [u16 0] true 1 none), (1000000002, Blk.mk [B8 A3, B8 B3, B8 C3, nilS] true 4 none)], []⟩⟩)] [2, 3, 8, 9, 10, 12, 13, 30, 31, 32] [9, 240002] (by kernel_rfl) ⟨(ch3 ), trivial⟩ ?_
      refine xe1 [(1, ⟨some (V.tup [V.sl 1000000000 240002 0]), some ⟨V.tup [], [(1000000000, Blk.mk [B8 A3, B8 B3, B8 C3, nilS] true 4 none)], []⟩⟩)] [2, 3, 8, 9, 10, 12, 13, 30, 31, 32] [9, 240002] (by kernel_rfl) (AllP.c (con_greset (B8 A3) (B8 B3) (B8 C3) (V.val (Value.slice none 0 0))) AllP.n) ?_
      refine xe1 (os := [VO (V.tup [u32 (cNo E), V.sl (1210005 : Nat) (0 : Nat) (List.length P), i64 (0 : Int)]), VOH [((1210005 : Nat), Blk.mk (u8s P) true (0 : Nat) (some ((5 : Nat), (1 : Nat))))], Con Try.prog 47 [] [V.vp [B8 A3, B8 B3, B8 C3, V.val (Value.slice none 0 0)]] [(1210005, Blk.mk (u8s P) true 0 (some (5, 1)))] (V.tup [u32 (cNo E), V.sl 1210005 0 (List.length P), i64 0])]) [(1, ⟨none, some ⟨V.tup [u32 (cNo E), V.sl 1210005 0 (List.length P), i64 0], [(1210005, Blk.mk (u8s P) true 0 (some (5, 1)))], [(240002, true)]⟩⟩)] [2, 3, 8, 9, 10, 12, 13, 17, 18, 30, 31, 32] [9, 2060005, 240002] (by kernel_rfl) ⟨(VO.tup (VOL.cons (VO.val _) (VOL.cons (VO.sl _ _ _) (VOL.cons (VO.val _) VOL.nil)))), ⟨(VOL.u8s _), trivial⟩, (cr ), trivial⟩ ?_
      refine AWP.seq ?_
      refine xe1 (os := [false = false → VO (vb (decide (P = L))) ∧ VOH [] ∧ Con Try.prog (23 : Nat) [] [B8 P, B8 L] [] (vb (decide (P = L))) ∧ (0 : Nat) = (0 : Nat) ∧ List.length P * (1 : Nat) = List.length (u8s P) ∧ True, false = false → (!decide (P = L)) = true → false = false → VO (vb (decide (P = P))) ∧ VOH [] ∧ Con Try.prog (23 : Nat) [] [B8 P, B8 P] [] (vb (decide (P = P))) ∧ (0 : Nat) = (0 : Nat) ∧ List.length P * (1 : Nat) = List.length (u8s P) ∧ True, true = true → (false || !decide (P = L) && (false || !decide (P = P))) = false → VO (vb (decide (P = P))) ∧ VOH [] ∧ Con Try.prog (23 : Nat) [] [B8 P, B8 P] [] (vb (decide (P = P))) ∧ (0 : Nat) = (0 : Nat) ∧ List.length P * (1 : Nat) = List.length (u8s P) ∧ True]) [(5, ⟨none, some ⟨vb (decide (P = L)), [], [(2060005, true)]⟩⟩), (13, ⟨none, some ⟨vb (decide (P = P)), [], [(2060005, true)]⟩⟩), (24, ⟨none, some ⟨vb (decide (P = P)), [], [(2060005, true)]⟩⟩)] [2, 3, 8, 9, 10, 17, 30, 31, 32, 115] [9, 2060005, 240002] (by kernel_rfl) ⟨(by intro hc0; first | (cases hc0; done) | ((try simp only [Bool.or_false, Bool.false_or, Bool.true_and, Bool.and_true, decide_eq_true_eq, decide_eq_false_iff_not, Bool.and_eq_true, Bool.or_eq_true, Bool.or_eq_false_iff, Bool.not_eq_true', Bool.and_eq_false_iff, beq_iff_eq, bne_iff_ne, bne_eq_false_iff_eq, beq_eq_false_iff_ne, Bool.not_eq_false'] at hc0); exact ⟨(VO.val _), trivial, (con_samen (P) (L) (List.length P) (List.length L) (by omega) (by omega) (by omega) (by omega)), (by omega), (by (simp [len_u8s]; done)), trivial⟩)), (by intro hc0 hc1 hc2; first | (cases hc0; done) | ((try simp only [Bool.or_false, Bool.false_or, Bool.true_and, Bool.and_true, decide_eq_true_eq, decide_eq_false_iff_not, Bool.and_eq_true, Bool.or_eq_true, Bool.or_eq_false_iff, Bool.not_eq_true', Bool.and_eq_false_iff, beq_iff_eq, bne_iff_ne, bne_eq_false_iff_eq, beq_eq_false_iff_ne, Bool.not_eq_false'] at hc0 hc1 hc2); exact ⟨(VO.val _), trivial, (con_samen (P) (P) (List.length P) (List.length P) (by omega) (by omega) (by omega) (by omega)), (by omega), (by (simp [len_u8s]; done)), trivial⟩)), (by intro hc0 hc1; first | (cases hc0; done) | ((try simp only [Bool.or_false, Bool.false_or, Bool.true_and, Bool.and_true, decide_eq_true_eq, decide_eq_false_iff_not, Bool.and_eq_true, Bool.or_eq_true, Bool.or_eq_false_iff, Bool.not_eq_true', Bool.and_eq_false_iff, beq_iff_eq, bne_iff_ne, bne_eq_false_iff_eq, beq_eq_false_iff_ne, Bool.not_eq_false'] at hc0 hc1); exact ⟨(VO.val _), trivial, (con_samen (P) (P) (List.length P) (List.length P) (by omega) (by omega) (by omega) (by omega)), (by omega), (by (simp [len_u8s]; done)), trivial⟩)), trivial⟩ ?_
      refine AWP.cond (b := false || !decide (P = L) && (false || !decide (P = P)) || true && !decide (P = P)) (by kernel_rfl) (fun hq122 => ?_) (fun hq122 => ?_)
      · simp only [Bool.false_or, Bool.true_and, decide_eq_false_iff_not, Bool.and_eq_true, Bool.or_eq_true, Bool.not_eq_true'] at hq122
        (simp [bl] at hq122; done)
      simp only [Bool.false_or, Bool.true_and, decide_eq_true_eq, Bool.or_eq_false_iff, Bool.and_eq_false_iff, Bool.not_eq_false'] at hq122
      refine AWP.skip ?_
      refine xe0 [2, 3, 8, 9, 10, 30, 31, 32] [9, 2060005, 240002] (by kernel_rfl) ?_
      refine xe1 (os := [Con Try.prog 48 [(1000000000, Blk.mk [B8 A3, B8 B3, B8 C3, V.val (Value.slice none 0 0)] true 4 none)] [V.ptr 1000000000 0] [(1000000000, Blk.mk [B8 E, B8 E, B8 E, V.val (Value.slice none 0 0)] true 4 none)] (V.tup [i64 (nq A3 E + nq B3 E + nq C3 E), i64 0])]) [(1, ⟨some (V.tup [V.sl 1000000000 240002 0]), some ⟨V.tup [i64 (nq A3 E + nq B3 E + nq C3 E), i64 0], [(1000000000, Blk.mk [B8 E, B8 E, B8 E, nilS] true 4 none)], []⟩⟩)] [2, 3, 8, 9, 10, 20, 30, 31, 32] [9, 2060005, 240002] (by kernel_rfl) ⟨(cs2 ), trivial⟩ ?_
      refine xe0 [2, 3, 8, 9, 10, 30, 31, 32, 123] [9, 2060005, 240002] (by kernel_rfl) ?_
      refine AWP.condF (by kernel_rfl) ?_
      refine AWP.skip ?_
      refine AWP.frz 2060005 (s' := St.mk [(2, tp (V.vs cs nc)), (3, tp (V.vs ss ns)), (8, tp (vb false)), (9, tp (V.ptr 9 0)), (10, tp (B8 P)), (30, tp (V.vs xs n)), (31, tp (i64 (↑n : Int))), (32, tp (i64 i)), (123, tp (vb false))] [(9, Blk.mk [V.ptr 240002 0] false 1 none), (240002, Blk.mk [B8 E, B8 E, B8 E, V.val (Value.slice none 0 0)] true 4 none)]) (by kernel_rfl) ?_
      refine AWP.region tcok hmix [(0, ⟨some (i64 (i + 1)), none⟩)] (os := [i64 (IntKind.wrap IntKind.i64 (i + 1)) = i64 (i + 1)]) (sf := St.mk [(2, tp (V.vs cs nc)), (3, tp (V.vs ss ns)), (8, tp (vb false)), (9, tp (V.ptr 9 0)), (10, tp (B8 P)), (30, tp (V.vs xs n)), (31, tp (i64 (↑n : Int))), (32, tp (i64 (i + 1))), (123, tp (vb false)), (124, tp (i64 (i + 1)))] [(9, Blk.mk [V.ptr 240002 0] false 1 none), (240002, Blk.mk [B8 E, B8 E, B8 E, V.val (Value.slice none 0 0)] true 4 none)]) (by kernel_rfl) ⟨(wr_i64 (by omega) (by omega)), trivial⟩ ?_
      refine ⟨St.mk [(2, tp (V.vs cs nc)), (3, tp (V.vs ss ns)), (8, tp (vb false)), (9, tp (V.ptr 9 0)), (10, tp (B8 P)), (30, tp (V.vs xs n)), (31, tp (i64 (↑n : Int))), (32, tp (i64 (i + 1)))] [(9, Blk.mk [V.ptr 240002 0] false 1 none), (240002, Blk.mk [B8 E, B8 E, B8 E, V.val (Value.slice none 0 0)] true 4 none)], by kernel_rfl, ?_⟩
      (exact ⟨(n - (i + 1)).toNat, (by omega), i + 1, s + 1, P, E, rfl, hE, hPb, hPl, (by omega), (by omega), (by omega), (by omega), (by omega)⟩)
    simp only [decide_eq_false_iff_not] at hq116
    (exfalso; omega)
theorem lists_of {w : V} (hw : TyV tc 9 40 w) : ∃ (xs : List V) (n : Nat), w = .vs xs n ∧ n ≤ 9223372036854775807 ∧ ∀ i : Nat, i < n → ∃ (l : List Int) (r : List V), xs.drop (i * 1) = .vs (u8s l) l.length :: r ∧ BL l ∧ l.length ≤ 9223372036854775807 := by
  obtain ⟨xs, n, e1, hn, h1⟩ := hw
  cases e1
  refine ⟨xs, n, rfl, hn, fun i hi => ?_⟩
  obtain ⟨r, rest, hr, h2⟩ := rows_drop (k := 1) (fun r hr => by obtain ⟨cs, m, rfl, _, _⟩ := hr; rfl) h1 i hi
  obtain ⟨cs, m, rfl, hm, h3⟩ := hr
  obtain ⟨l, rfl, rfl, hl⟩ := bytes_rows (fun r hr => by obtain ⟨z, rfl, z1, z2⟩ := hr; exact ⟨z, rfl, z1, Int.lt_add_one_of_le z2⟩) h3
  exact ⟨l, rest, h2, hl, hm⟩
theorem law_GuardHolds (x y z u : V) (h0 : TyV tc 9 29 x) (h1 : TyV tc 9 40 y) (h2 : TyV tc 9 29 z) (h3 : TyV tc 9 92 u) : Con Try.prog 14 [] [x, y, z, u] [] (vb true) := by
  obtain ⟨l, rfl, hl, hll⟩ := bytes_of h0
  obtain ⟨xs, n, rfl, hn, kx⟩ := lists_of h1
  obtain ⟨b, rfl, hb, hbl⟩ := bytes_of h2
  obtain ⟨ss, ns, e1, hns, hr⟩ := h3
  cases e1
  refine holds7 l xs (u8s b) ss n b.length ns hl hll hn hbl hns kx (fun i => ⟨b.getD i 0, _, hb.at_ i, fun h => u8s_at b i h⟩) (fun i => ?_)
  by_cases hi : i < ns
  · obtain ⟨r, rest, ⟨q, rfl, q1, q2⟩, h2⟩ := rows_drop (k := 1) (fun r hr => by obtain ⟨q, rfl, _⟩ := hr; rfl) hr i hi
    exact ⟨q, rest, ⟨q1, Int.lt_add_one_of_le q2⟩, fun _ => h2⟩
  · exact ⟨0, [], by omega, fun h => absurd h hi⟩
end Go.Proofs.Ytmeiemdnhjnpcaa
