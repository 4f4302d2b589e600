/- A nil executive: lists; the first executive of a nil memory; the bound. -/
import Derived.Test.YtcekfepgdfcinaaGreatDoorRg
import Derived.Test.YtcekfepgdfcinaaGreatDoorExF
import Derived.Test.YtcekfepgdfcinaaGreatDoorExK
namespace Go.Proofs.YtcekfepgdfcinaaGreatDoor
open Go Go.Ab
set_option linter.unusedSimpArgs false
set_option linter.unusedVariables false
set_option maxRecDepth 100000
def nilE : V := .val (.pointer none)
theorem con_zcycle (p0 p1 p2 p3 p4 p5 p6 p7 p8 p9 p10 p11 p12 p13 p14 p15 a w rs : Int) (wd hw : Bool) (L M : List V) (m k : Nat) (q r : Nat × Nat) :
    Con Tryz.prog 17 [(1000000000, ⟨L, true, 0, some q⟩), (1000000001, ⟨M, true, 0, some r⟩)] [nilE, .agg false [i32 p0, i32 p1, i32 p2, i32 p3, i32 p4, i32 p5, i32 p6, i32 p7, i32 p8, i32 p9, i32 p10, i32 p11, i32 p12, i32 p13, i32 p14, i32 p15, u16 a, u16 w, .sl 1000000000 0 m, u8 rs, .sl 1000000001 0 k, vb wd, vb hw]] [(1000000000, ⟨L, true, 0, some q⟩), (1000000001, ⟨M, true, 0, some r⟩)] (.agg true [.val (.slice none 0 0), .val (.slice none 0 0), u8 0, i32 0, i32 0, i32 0, i32 0, i32 0, i32 0]) := by
  unfold nilE
  refine Con.of (C := ⟨Tryz.prog, tc, Tryz.f17.ntmps⟩) [1000000000, 1000000001] tcok Tryz.func17 rfl rfl (by kernel_rfl) (by kernel_rfl) ?_
  refine xe0 [0, 3, 4] [1000000000, 1000000001, 3, 4] (by kernel_rfl) ?_
  refine AWP.seq ?_
  refine xe0 [0, 3, 4, 11] [1000000000, 1000000001, 3, 4] (by kernel_rfl) ?_
  refine AWP.condT (by kernel_rfl) ?_
  refine xe0 [0, 3, 4] [1000000000, 1000000001, 3, 4] (by kernel_rfl) ?_
  refine AWP.ret ?_
  refine ⟨Or.inr rfl, Eq.trans (b := some ([(1000000000, Blk.mk L true 0 (some q)), (1000000001, Blk.mk M true 0 (some r))], V.agg true [V.val (Value.slice none 0 0), V.val (Value.slice none 0 0), u8 0, i32 0, i32 0, i32 0, i32 0, i32 0, i32 0])) (by kernel_rfl) ?_⟩
  rfl
theorem con_zctx : Con Tryz.prog 15 [] [nilE] [] (.agg true [u16 0, u16 0, u8 0, u8 0, u8 0, u8 0, u8 0, u8 0, i8 0, i8 0, i8 0, i8 0, i8 0, i8 0, u8 0, u16 0, vb false, u8 0]) := by
  unfold nilE
  refine Con.of (C := ⟨Tryz.prog, tc, Tryz.f15.ntmps⟩) [] tcok Tryz.func15 rfl rfl (by kernel_rfl) (by kernel_rfl) ?_
  refine xe0 [0, 2] [2] (by kernel_rfl) ?_
  refine AWP.seq ?_
  refine xe0 [0, 2, 4] [2] (by kernel_rfl) ?_
  refine AWP.condT (by kernel_rfl) ?_
  refine xe0 [0, 2] [2] (by kernel_rfl) ?_
  refine AWP.ret ?_
  refine ⟨Or.inr rfl, Eq.trans (b := some ([], V.agg true [u16 0, u16 0, u8 0, u8 0, u8 0, u8 0, u8 0, u8 0, i8 0, i8 0, i8 0, i8 0, i8 0, i8 0, u8 0, u16 0, vb false, u8 0])) (by kernel_rfl) ?_⟩
  rfl
theorem con_zmem : Con Tryz.prog 31 [] [nilE] [] nilE := by
  unfold nilE
  refine Con.of (C := ⟨Tryz.prog, tc, Tryz.f31.ntmps⟩) [] tcok Tryz.func31 rfl rfl (by kernel_rfl) (by kernel_rfl) ?_
  refine xe0 [0, 2] [] (by kernel_rfl) ?_
  refine AWP.seq ?_
  refine xe0 [0, 2, 4] [] (by kernel_rfl) ?_
  refine AWP.condT (by kernel_rfl) ?_
  refine xe0 [0, 2] [] (by kernel_rfl) ?_
  refine AWP.ret ?_
  refine ⟨Or.inr rfl, Eq.trans (b := some ([], V.val (Value.pointer none))) (by kernel_rfl) ?_⟩
  rfl
theorem con_zchain : Con Tryz.prog 22 [] [nilE] [] (.agg true [i8 0, i8 0, i8 0, i8 0, i8 0, i8 0]) := by
  unfold nilE
  refine Con.of (C := ⟨Tryz.prog, tc, Tryz.f22.ntmps⟩) [] tcok Tryz.func22 rfl rfl (by kernel_rfl) (by kernel_rfl) ?_
  refine xe0 [0, 2] [2] (by kernel_rfl) ?_
  refine AWP.seq ?_
  refine xe0 [0, 2, 4] [2] (by kernel_rfl) ?_
  refine AWP.condT (by kernel_rfl) ?_
  refine xe0 [0, 2] [2] (by kernel_rfl) ?_
  refine AWP.ret ?_
  refine ⟨Or.inr rfl, Eq.trans (b := some ([], V.agg true [i8 0, i8 0, i8 0, i8 0, i8 0, i8 0])) (by kernel_rfl) ?_⟩
  rfl
theorem con_zbusy : Con Tryz.prog 26 [] [nilE] [] (vb false) := by
  unfold nilE
  refine Con.of (C := ⟨Tryz.prog, tc, Tryz.f26.ntmps⟩) [] tcok Tryz.func26 rfl rfl (by kernel_rfl) (by kernel_rfl) ?_
  refine xe0 [0, 2] [] (by kernel_rfl) ?_
  refine xe1 (os := [false = true → False ∧ True, false = true → False, false = true → False, false = true → False]) [(5, ⟨some (V.tup []), none⟩), (6, ⟨some (V.tup []), none⟩), (7, ⟨some (V.tup [vb false]), none⟩)] [2] [] (by kernel_rfl) ⟨(by intro hc0; first | (cases hc0; done) | ((try simp only [Bool.or_false, Bool.false_or, Bool.true_and, Bool.and_true, decide_eq_true_eq, decide_eq_false_iff_not, Bool.and_eq_true, Bool.or_eq_true, Bool.or_eq_false_iff, Bool.not_eq_true', Bool.and_eq_false_iff, beq_iff_eq, bne_iff_ne, bne_eq_false_iff_eq, beq_eq_false_iff_ne, Bool.not_eq_false'] at hc0); exact ⟨(by first | omega | (simp [len_u8s]; omega) | (simp [len_u8s]; done)), trivial⟩)), (by (intro hc0; first | (cases hc0; done) | (exfalso; simp_all; done) | ((try simp only [Bool.or_false, Bool.false_or, Bool.true_and, Bool.and_true, decide_eq_true_eq, decide_eq_false_iff_not, Bool.and_eq_true, Bool.or_eq_true, Bool.or_eq_false_iff, Bool.not_eq_true', Bool.and_eq_false_iff, beq_iff_eq, bne_iff_ne, bne_eq_false_iff_eq, beq_eq_false_iff_ne, Bool.not_eq_false'] at hc0); omega))), (by (intro hc0; first | (cases hc0; done) | (exfalso; simp_all; done) | ((try simp only [Bool.or_false, Bool.false_or, Bool.true_and, Bool.and_true, decide_eq_true_eq, decide_eq_false_iff_not, Bool.and_eq_true, Bool.or_eq_true, Bool.or_eq_false_iff, Bool.not_eq_true', Bool.and_eq_false_iff, beq_iff_eq, bne_iff_ne, bne_eq_false_iff_eq, beq_eq_false_iff_ne, Bool.not_eq_false'] at hc0); omega))), (by (intro hc0; first | (cases hc0; done) | (exfalso; simp_all; done) | ((try simp only [Bool.or_false, Bool.false_or, Bool.true_and, Bool.and_true, decide_eq_true_eq, decide_eq_false_iff_not, Bool.and_eq_true, Bool.or_eq_true, Bool.or_eq_false_iff, Bool.not_eq_true', Bool.and_eq_false_iff, beq_iff_eq, bne_iff_ne, bne_eq_false_iff_eq, beq_eq_false_iff_ne, Bool.not_eq_false'] at hc0); omega))), trivial⟩ ?_
  refine AWP.ret ?_
  refine ⟨Or.inr rfl, Eq.trans (b := some ([], vb false)) (by kernel_rfl) ?_⟩
  rfl
theorem con_zmode : Con Tryz.prog 36 [] [nilE] [] (u8 0) := by
  unfold nilE
  refine Con.of (C := ⟨Tryz.prog, tc, Tryz.f36.ntmps⟩) [] tcok Tryz.func36 rfl rfl (by kernel_rfl) (by kernel_rfl) ?_
  refine xe0 [0, 2] [] (by kernel_rfl) ?_
  refine AWP.seq ?_
  refine xe0 [0, 2, 4] [] (by kernel_rfl) ?_
  refine AWP.condT (by kernel_rfl) ?_
  refine xe0 [0, 2] [] (by kernel_rfl) ?_
  refine AWP.ret ?_
  refine ⟨Or.inr rfl, Eq.trans (b := some ([], u8 0)) (by kernel_rfl) ?_⟩
  rfl
theorem con_ztime : Con Tryz.prog 18 [] [nilE] [] (u32 0) := by
  unfold nilE
  refine Con.of (C := ⟨Tryz.prog, tc, Tryz.f18.ntmps⟩) [] tcok Tryz.func18 rfl rfl (by kernel_rfl) (by kernel_rfl) ?_
  refine xe0 [0, 2] [] (by kernel_rfl) ?_
  refine AWP.seq ?_
  refine xe0 [0, 2, 4] [] (by kernel_rfl) ?_
  refine AWP.condT (by kernel_rfl) ?_
  refine xe0 [0, 2] [] (by kernel_rfl) ?_
  refine AWP.ret ?_
  refine ⟨Or.inr rfl, Eq.trans (b := some ([], u32 0)) (by kernel_rfl) ?_⟩
  rfl
theorem con_zdrop : Con Tryz.prog 37 [] [nilE] [] (i64 0) := by
  unfold nilE
  refine Con.of (C := ⟨Tryz.prog, tc, Tryz.f37.ntmps⟩) [] tcok Tryz.func37 rfl rfl (by kernel_rfl) (by kernel_rfl) ?_
  refine xe0 [0, 2] [] (by kernel_rfl) ?_
  refine AWP.seq ?_
  refine xe0 [0, 2, 4] [] (by kernel_rfl) ?_
  refine AWP.condT (by kernel_rfl) ?_
  refine xe0 [0, 2] [] (by kernel_rfl) ?_
  refine AWP.ret ?_
  refine ⟨Or.inr rfl, Eq.trans (b := some ([], i64 0)) (by kernel_rfl) ?_⟩
  rfl
end Go.Proofs.YtcekfepgdfcinaaGreatDoor

namespace Go.Proofs.YtcekfepgdfcinaaGreatDoor
open Go Go.Ab
set_option linter.unusedSimpArgs false
set_option linter.unusedVariables false
set_option maxRecDepth 100000
theorem con_zlog : Con Tryz.prog 34 [] [nilE] [(2, ⟨[], true, 0, some (94, 5)⟩)] (.sl 2 0 0) := by
  unfold nilE
  refine Con.of (C := ⟨Tryz.prog, tc, Tryz.f34.ntmps⟩) [2] tcok Tryz.func34 rfl rfl (by kernel_rfl) (by kernel_rfl) ?_
  refine xe0 [0, 2] [2] (by kernel_rfl) ?_
  refine AWP.seq ?_
  refine xe0 [0, 2, 4] [2] (by kernel_rfl) ?_
  refine AWP.condT (by kernel_rfl) ?_
  refine AWP.seq ?_
  refine AWP.keep' [0] [] (sf := St.mk [(0, tp (V.val (Value.pointer none)))] []) (by kernel_rfl) ?_
  refine xg0 [0, 2] [2] (by kernel_rfl) ?_
  refine AWP.ret ?_
  refine ⟨Or.inr rfl, Eq.trans (b := some ([(2, Blk.mk [] true 0 (some (94, 5)))], V.sl 2 0 0)) (by kernel_rfl) ?_⟩
  rfl
theorem con_zqueue : Con Tryz.prog 38 [] [nilE] [(2, ⟨[], true, 0, some (277, 5)⟩)] (.sl 2 0 0) := by
  unfold nilE
  refine Con.of (C := ⟨Tryz.prog, tc, Tryz.f38.ntmps⟩) [2] tcok Tryz.func38 rfl rfl (by kernel_rfl) (by kernel_rfl) ?_
  refine xe0 [0, 2] [2] (by kernel_rfl) ?_
  refine AWP.seq ?_
  refine xe0 [0, 2, 4] [2] (by kernel_rfl) ?_
  refine AWP.condT (by kernel_rfl) ?_
  refine AWP.seq ?_
  refine AWP.keep' [0] [] (sf := St.mk [(0, tp (V.val (Value.pointer none)))] []) (by kernel_rfl) ?_
  refine xg0 [0, 2] [2] (by kernel_rfl) ?_
  refine AWP.ret ?_
  refine ⟨Or.inr rfl, Eq.trans (b := some ([(2, Blk.mk [] true 0 (some (277, 5)))], V.sl 2 0 0)) (by kernel_rfl) ?_⟩
  rfl
theorem con_zviol : Con Tryz.prog 43 [] [nilE] [(2, ⟨[], true, 0, some (3, 1)⟩)] (.sl 2 0 0) := by
  unfold nilE
  refine Con.of (C := ⟨Tryz.prog, tc, Tryz.f43.ntmps⟩) [2] tcok Tryz.func43 rfl rfl (by kernel_rfl) (by kernel_rfl) ?_
  refine xe0 [0, 2] [2] (by kernel_rfl) ?_
  refine AWP.seq ?_
  refine xe0 [0, 2, 4] [2] (by kernel_rfl) ?_
  refine AWP.condT (by kernel_rfl) ?_
  refine AWP.seq ?_
  refine AWP.keep' [0] [] (sf := St.mk [(0, tp (V.val (Value.pointer none)))] []) (by kernel_rfl) ?_
  refine xg0 [0, 2] [2] (by kernel_rfl) ?_
  refine AWP.ret ?_
  refine ⟨Or.inr rfl, Eq.trans (b := some ([(2, Blk.mk [] true 0 (some (3, 1)))], V.sl 2 0 0)) (by kernel_rfl) ?_⟩
  rfl
theorem con_znone : Con Tryz.prog 29 [] [] [] (.agg true [i8 (-1), i8 (-1), i8 (-1), i8 (-1), i8 (-1), i8 (-1)]) := con_run 1000 3 (by kernel_rfl)
theorem con_rnone : Con Tryz.prog 46 [] [] [] (.agg true [i8 (-1), i8 (-1), i8 (-1), i8 (-1), i8 (-1), i8 (-1)]) := by
  refine Con.of (C := ⟨Tryz.prog, tc, Tryz.f46.ntmps⟩) [] tcok Tryz.func46 rfl rfl (by kernel_rfl) (by kernel_rfl) ?_
  refine xe0 [0] [0] (by kernel_rfl) ?_
  refine xe0 [0] [0] (by kernel_rfl) ?_
  refine AWP.ret ?_
  refine ⟨Or.inr rfl, Eq.trans (b := some ([], V.agg true [i8 (-1), i8 (-1), i8 (-1), i8 (-1), i8 (-1), i8 (-1)])) (by kernel_rfl) ?_⟩
  rfl
theorem con_restart0 (l0 l1 l2 l3 l4 l5 l6 l7 l8 l9 l10 l11 l12 l13 l14 l15 m0 m1 m2 m3 m4 m5 d0 d1 d2 d3 d4 q0 q1 q2 t0 t1 t2 t3 sc ap rm sd : Int) (U R M A : List V) (nu nr nm na : Nat) : Con Tryz.prog 39 [] [.agg true [.vs U nu, .vs R nr, u16 l0, u16 l1, u16 l2, u16 l3, u16 l4, u16 l5, u16 l6, u16 l7, u16 l8, u16 l9, u16 l10, u16 l11, u16 l12, u16 l13, u16 l14, u16 l15, u8 m0, u8 m1, u8 m2, u8 m3, u8 m4, u8 m5, .vs M nm, .vs A na, u8 d0, u8 d1, u8 d2, u8 d3, u8 d4, u8 q0, u8 q1, u8 q2, u16 t0, u16 t1, u16 t2, u16 t3, u8 sc, u16 ap, i64 rm, i64 sd], nilE] [] (.tup [nilE, i64 1]) := by
  unfold nilE
  refine Con.of (C := ⟨Tryz.prog, tc, Tryz.f39.ntmps⟩) [] tcok Tryz.func39 rfl rfl (by kernel_rfl) (by kernel_rfl) ?_
  refine xe0 [1, 2, 4, 5] [2] (by kernel_rfl) ?_
  refine AWP.seq ?_
  refine xe0 [1, 2, 4, 5, 9] [2] (by kernel_rfl) ?_
  refine AWP.condT (by kernel_rfl) ?_
  refine xe0 [1, 2, 4, 5] [2] (by kernel_rfl) ?_
  refine AWP.ret ?_
  refine ⟨Or.inr rfl, Eq.trans (b := some ([], V.tup [V.val (Value.pointer none), i64 1])) (by kernel_rfl) ?_⟩
  rfl
end Go.Proofs.YtcekfepgdfcinaaGreatDoor
