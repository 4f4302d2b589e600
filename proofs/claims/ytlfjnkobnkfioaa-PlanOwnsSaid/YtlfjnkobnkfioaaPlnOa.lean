/- A nil plan; bytes that the caller goes on writing. -/
import Derived.Test.YtlfjnkobnkfioaaRg
import Derived.Test.YtlfjnkobnkfioaaPlnS
namespace Go.Proofs.Ytlfjnkobnkfioaa
open Go.Ab
set_option maxRecDepth 100000
set_option maxHeartbeats 8000000
set_option linter.unusedSimpArgs false
set_option linter.unusedVariables false
abbrev nilP : V := .val (.pointer none)
theorem con_nlen : Con Try.prog 26 [] [nilP] [] (i64 0) := by
  refine Con.of (C := ⟨Try.prog, tc, Try.f26.ntmps⟩) [] tcok Try.func26 rfl rfl (by kernel_rfl) (by kernel_rfl) ?_
  refine AWP.seq ?_
  refine AWP.regionT tcok hmix [] [0, 2] [] (os := []) (s' := St.mk [(0, tp (V.val (Value.pointer none))), (2, tp (i64 0))] []) (by kernel_rfl) trivial ?_
  refine AWP.seq ?_
  refine xe0 [0, 2, 4] [] (by kernel_rfl) ?_
  refine AWP.condT (by kernel_rfl) ?_
  refine xe0 [0, 2] [] (by kernel_rfl) ?_
  refine AWP.ret ?_
  refine ⟨Or.inr rfl, Eq.trans (b := some ([], i64 0)) (by kernel_rfl) ?_⟩
  first | rfl | (exfalso; omega)
theorem con_nins (t id : Int) (c : List Int) (k : Nat) : Con Try.prog 24 [] [nilP, u32 t, u16 id, .vs (u8s c) k] [] (i64 3) := by
  refine Con.of (C := ⟨Try.prog, tc, Try.f24.ntmps⟩) [] tcok Try.func24 rfl rfl (by kernel_rfl) (by kernel_rfl) ?_
  refine AWP.seq ?_
  refine AWP.regionT tcok hmix [] [0, 1, 2, 3, 8] [] (os := []) (s' := St.mk [(0, tp (V.val (Value.pointer none))), (1, tp (u32 t)), (2, tp (u16 id)), (3, tp (V.vs (u8s c) k)), (8, tp (i64 0))] []) (by kernel_rfl) trivial ?_
  refine AWP.seq ?_
  refine AWP.block ?_
  refine xe0 [0, 1, 2, 3, 8, 11] [] (by kernel_rfl) ?_
  refine AWP.condT (by kernel_rfl) ?_
  refine xe0 [0, 1, 2, 3, 8] [] (by kernel_rfl) ?_
  refine AWP.ret ?_
  refine ⟨Or.inr rfl, Eq.trans (b := some ([], i64 3)) (by kernel_rfl) ?_⟩
  first | rfl | (exfalso; omega)
theorem con_ndel (id : Int) : Con Try.prog 28 [] [nilP, u16 id] [] (i64 3) := by
  refine Con.of (C := ⟨Try.prog, tc, Try.f28.ntmps⟩) [] tcok Try.func28 rfl rfl (by kernel_rfl) (by kernel_rfl) ?_
  refine AWP.seq ?_
  refine AWP.regionT tcok hmix [] [0, 3, 4] [3] (os := []) (s' := St.mk [(0, tp (V.val (Value.pointer none))), (3, tp (V.ptr 3 0)), (4, tp (i64 0))] [(3, Blk.mk [u16 id] true 1 none)]) (by kernel_rfl) trivial ?_
  refine AWP.seq ?_
  refine xe1 (os := [true = false → False ∧ True, true = false → False, true = false → False, true = false → False]) [(5, ⟨some (V.tup []), none⟩), (6, ⟨some (V.tup []), none⟩), (8, ⟨some (V.tup [vb false]), none⟩)] [0, 3, 4, 15] [3] (by kernel_rfl) ⟨(by intro hc0; first | (cases hc0; done) | ((try simp only [Bool.or_false, Bool.false_or, Bool.true_and, Bool.and_true, decide_eq_true_eq, decide_eq_false_iff_not, Bool.and_eq_true, Bool.or_eq_true, Bool.or_eq_false_iff, Bool.not_eq_true', Bool.and_eq_false_iff, beq_iff_eq, bne_iff_ne, bne_eq_false_iff_eq, beq_eq_false_iff_ne, Bool.not_eq_false'] at hc0); exact ⟨(by first | omega | (simp [len_u8s]; omega) | (simp [len_u8s]; done)), trivial⟩)), (by (intro hc0; first | (cases hc0; done) | (exfalso; simp_all; done) | ((try simp only [Bool.or_false, Bool.false_or, Bool.true_and, Bool.and_true, decide_eq_true_eq, decide_eq_false_iff_not, Bool.and_eq_true, Bool.or_eq_true, Bool.or_eq_false_iff, Bool.not_eq_true', Bool.and_eq_false_iff, beq_iff_eq, bne_iff_ne, bne_eq_false_iff_eq, beq_eq_false_iff_ne, Bool.not_eq_false'] at hc0); omega))), (by (intro hc0; first | (cases hc0; done) | (exfalso; simp_all; done) | ((try simp only [Bool.or_false, Bool.false_or, Bool.true_and, Bool.and_true, decide_eq_true_eq, decide_eq_false_iff_not, Bool.and_eq_true, Bool.or_eq_true, Bool.or_eq_false_iff, Bool.not_eq_true', Bool.and_eq_false_iff, beq_iff_eq, bne_iff_ne, bne_eq_false_iff_eq, beq_eq_false_iff_ne, Bool.not_eq_false'] at hc0); omega))), (by (intro hc0; first | (cases hc0; done) | (exfalso; simp_all; done) | ((try simp only [Bool.or_false, Bool.false_or, Bool.true_and, Bool.and_true, decide_eq_true_eq, decide_eq_false_iff_not, Bool.and_eq_true, Bool.or_eq_true, Bool.or_eq_false_iff, Bool.not_eq_true', Bool.and_eq_false_iff, beq_iff_eq, bne_iff_ne, bne_eq_false_iff_eq, beq_eq_false_iff_ne, Bool.not_eq_false'] at hc0); omega))), trivial⟩ ?_
  refine AWP.condT (by kernel_rfl) ?_
  refine xe0 [0, 3, 4] [3] (by kernel_rfl) ?_
  refine AWP.ret ?_
  refine ⟨Or.inr rfl, Eq.trans (b := some ([], i64 3)) (by kernel_rfl) ?_⟩
  first | rfl | (exfalso; omega)
theorem con_ndue0 (t : Int) : Con Try.prog 25 [] [nilP, u32 t] [(4, ⟨[], true, 0, some (61, 1)⟩)] (.sl 4 0 0) := by
  refine Con.of (C := ⟨Try.prog, tc, Try.f25.ntmps⟩) [4] tcok Try.func25 rfl rfl (by kernel_rfl) (by kernel_rfl) ?_
  refine AWP.seq ?_
  refine AWP.regionT tcok hmix [] [0, 1, 4] [4] (os := []) (s' := St.mk [(0, tp (V.val (Value.pointer none))), (1, tp (u32 t)), (4, tp (V.sl 4 0 0))] [(4, Blk.mk [] true 0 (some (61, 1)))]) (by kernel_rfl) trivial ?_
  refine AWP.seq ?_
  refine xe1 (os := [true = false → False ∧ True, true = false → False, true = false → False]) [(5, ⟨some (V.tup []), none⟩), (6, ⟨some (V.tup [vb false]), none⟩)] [0, 1, 4, 16] [4] (by kernel_rfl) ⟨(by intro hc0; first | (cases hc0; done) | ((try simp only [Bool.or_false, Bool.false_or, Bool.true_and, Bool.and_true, decide_eq_true_eq, decide_eq_false_iff_not, Bool.and_eq_true, Bool.or_eq_true, Bool.or_eq_false_iff, Bool.not_eq_true', Bool.and_eq_false_iff, beq_iff_eq, bne_iff_ne, bne_eq_false_iff_eq, beq_eq_false_iff_ne, Bool.not_eq_false'] at hc0); exact ⟨(by first | omega | (simp [len_u8s]; omega) | (simp [len_u8s]; done)), trivial⟩)), (by (intro hc0; first | (cases hc0; done) | (exfalso; simp_all; done) | ((try simp only [Bool.or_false, Bool.false_or, Bool.true_and, Bool.and_true, decide_eq_true_eq, decide_eq_false_iff_not, Bool.and_eq_true, Bool.or_eq_true, Bool.or_eq_false_iff, Bool.not_eq_true', Bool.and_eq_false_iff, beq_iff_eq, bne_iff_ne, bne_eq_false_iff_eq, beq_eq_false_iff_ne, Bool.not_eq_false'] at hc0); omega))), (by (intro hc0; first | (cases hc0; done) | (exfalso; simp_all; done) | ((try simp only [Bool.or_false, Bool.false_or, Bool.true_and, Bool.and_true, decide_eq_true_eq, decide_eq_false_iff_not, Bool.and_eq_true, Bool.or_eq_true, Bool.or_eq_false_iff, Bool.not_eq_true', Bool.and_eq_false_iff, beq_iff_eq, bne_iff_ne, bne_eq_false_iff_eq, beq_eq_false_iff_ne, Bool.not_eq_false'] at hc0); omega))), trivial⟩ ?_
  refine AWP.condT (by kernel_rfl) ?_
  refine AWP.seq ?_
  refine AWP.keep' [0, 1] [] (sf := St.mk [(0, tp (V.val (Value.pointer none))), (1, tp (u32 t))] []) (by kernel_rfl) ?_
  refine xg0 [0, 1, 4] [4] (by kernel_rfl) ?_
  refine AWP.ret ?_
  refine ⟨Or.inr rfl, Eq.trans (b := some ([(4, Blk.mk [] true 0 (some (61, 1)))], V.sl 4 0 0)) (by kernel_rfl) ?_⟩
  first | rfl | (exfalso; omega)
theorem con_ndue (t : Int) : Con Try.prog 25 [] [nilP, u32 t] [] (.vs [] 0) := Con.frz1 (con_ndue0 t)
theorem con_nshift (b : Int) : Con Try.prog 31 [] [nilP, i32 b] [] (i64 0) := by
  refine Con.of (C := ⟨Try.prog, tc, Try.f31.ntmps⟩) [] tcok Try.func31 rfl rfl (by kernel_rfl) (by kernel_rfl) ?_
  refine AWP.seq ?_
  refine AWP.regionT tcok hmix [] [0, 1, 4] [] (os := []) (s' := St.mk [(0, tp (V.val (Value.pointer none))), (1, tp (i32 b)), (4, tp (i64 0))] []) (by kernel_rfl) trivial ?_
  refine AWP.seq ?_
  refine xe0 [0, 1, 4, 8] [] (by kernel_rfl) ?_
  refine AWP.condT (by kernel_rfl) ?_
  refine xe0 [0, 1, 4] [] (by kernel_rfl) ?_
  refine AWP.ret ?_
  refine ⟨Or.inr rfl, Eq.trans (b := some ([], i64 0)) (by kernel_rfl) ?_⟩
  first | rfl | (exfalso; omega)
theorem con_nnext : Con Try.prog 35 [] [nilP] [] (.tup [u32 0, vb false]) := by
  refine Con.of (C := ⟨Try.prog, tc, Try.f35.ntmps⟩) [] tcok Try.func35 rfl rfl (by kernel_rfl) (by kernel_rfl) ?_
  refine AWP.seq ?_
  refine AWP.regionT tcok hmix [] [0, 2, 3] [] (os := []) (s' := St.mk [(0, tp (V.val (Value.pointer none))), (2, tp (u32 0)), (3, tp (vb false))] []) (by kernel_rfl) trivial ?_
  refine AWP.seq ?_
  refine xe1 [(1, ⟨some (V.tup []), some ⟨i64 0, [], []⟩⟩)] [0, 2, 3, 6] [] (by kernel_rfl) (AllP.c (con_nlen ) AllP.n) ?_
  refine AWP.condT (by kernel_rfl) ?_
  refine xe0 [0, 2, 3] [] (by kernel_rfl) ?_
  refine AWP.ret ?_
  refine ⟨Or.inr rfl, Eq.trans (b := some ([], V.tup [u32 0, vb false])) (by kernel_rfl) ?_⟩
  first | rfl | (exfalso; omega)
theorem con_nall0 : Con Try.prog 30 [] [nilP] [(2, ⟨[], true, 0, some (79, 3)⟩)] (.sl 2 0 0) := by
  refine Con.of (C := ⟨Try.prog, tc, Try.f30.ntmps⟩) [2] tcok Try.func30 rfl rfl (by kernel_rfl) (by kernel_rfl) ?_
  refine AWP.seq ?_
  refine AWP.regionT tcok hmix [] [0, 2] [2] (os := []) (s' := St.mk [(0, tp (V.val (Value.pointer none))), (2, tp (V.sl 2 0 0))] [(2, Blk.mk [] true 0 (some (79, 3)))]) (by kernel_rfl) trivial ?_
  refine AWP.seq ?_
  refine xe0 [0, 2, 4] [2] (by kernel_rfl) ?_
  refine AWP.condT (by kernel_rfl) ?_
  refine AWP.seq ?_
  refine AWP.keep' [0] [] (sf := St.mk [(0, tp (V.val (Value.pointer none)))] []) (by kernel_rfl) ?_
  refine xg0 [0, 2] [2] (by kernel_rfl) ?_
  refine AWP.ret ?_
  refine ⟨Or.inr rfl, Eq.trans (b := some ([(2, Blk.mk [] true 0 (some (79, 3)))], V.sl 2 0 0)) (by kernel_rfl) ?_⟩
  first | rfl | (exfalso; omega)
theorem con_nall : Con Try.prog 30 [] [nilP] [] (.vs [] 0) := Con.frz1 con_nall0
theorem con_nidx (f t : Int) : Con Try.prog 59 [(2000000001, ⟨[u32 f], true, 1, none⟩), (2000000002, ⟨[u32 t], true, 1, none⟩)] [.vs [] 0, .clo (.func 53) [] [.ptr 2000000001 0, .ptr 2000000002 0]] [(2000000001, ⟨[u32 f], true, 1, none⟩), (2000000002, ⟨[u32 t], true, 1, none⟩)] (i64 (-1)) := by
  refine Con.of (C := ⟨Try.prog, tc, Try.f59.ntmps⟩) [2000000001, 2000000002] tcok Try.func59 rfl rfl (by kernel_rfl) (by kernel_rfl) ?_
  refine AWP.seq ?_
  refine AWP.regionT tcok hmix [] [0, 1, 4] [2000000001, 2000000002] (os := []) (s' := St.mk [(0, tp (V.vs [] 0)), (1, tp (V.clo (Fn.func 53) [] [V.ptr 2000000001 0, V.ptr 2000000002 0])), (4, tp (i64 0))] [(2000000001, Blk.mk [u32 f] true 1 none), (2000000002, Blk.mk [u32 t] true 1 none)]) (by kernel_rfl) trivial ?_
  refine AWP.seq ?_
  refine xe0 [0, 1, 4, 7, 8] [2000000001, 2000000002] (by kernel_rfl) ?_
  refine AWP.block ?_
  refine AWP.unroll 2 ?_
  refine xe0 [0, 1, 4, 7, 8, 9] [2000000001, 2000000002] (by kernel_rfl) ?_
  refine AWP.seq ?_
  refine AWP.condF (by kernel_rfl) ?_
  refine AWP.exit ?_
  refine xe0 [4] [2000000001, 2000000002] (by kernel_rfl) ?_
  refine AWP.ret ?_
  refine ⟨Or.inr rfl, Eq.trans (b := some ([(2000000001, Blk.mk [u32 f] true 1 none), (2000000002, Blk.mk [u32 t] true 1 none)], i64 (-1))) (by kernel_rfl) ?_⟩
  first | rfl | (exfalso; omega)
theorem con_ndf (f t : Int) : Con Try.prog 50 [(2000000001, ⟨[u32 f], true, 1, none⟩), (2000000002, ⟨[u32 t], true, 1, none⟩)] [.vs [] 0, .clo (.func 53) [] [.ptr 2000000001 0, .ptr 2000000002 0]] [(2000000001, ⟨[u32 f], true, 1, none⟩), (2000000002, ⟨[u32 t], true, 1, none⟩)] (.vs [] 0) := by
  refine Con.of (C := ⟨Try.prog, tc, Try.f50.ntmps⟩) [2000000001, 2000000002] tcok Try.func50 rfl rfl (by kernel_rfl) (by kernel_rfl) ?_
  refine AWP.seq ?_
  refine AWP.regionT tcok hmix [] [0, 1, 4] [4, 2000000001, 2000000002] (os := []) (s' := St.mk [(0, tp (V.vs [] 0)), (1, tp (V.clo (Fn.func 53) [] [V.ptr 2000000001 0, V.ptr 2000000002 0])), (4, tp (V.sl 4 0 0))] [(4, Blk.mk [] true 0 (some (79, 3))), (2000000001, Blk.mk [u32 f] true 1 none), (2000000002, Blk.mk [u32 t] true 1 none)]) (by kernel_rfl) trivial ?_
  refine xe1 [(2, ⟨some (V.tup [V.sl 2000000001 2000000001 0, V.sl 2000000002 2000000002 0]), some ⟨i64 (-1), [(2000000001, Blk.mk [u32 f] true 1 none), (2000000002, Blk.mk [u32 t] true 1 none)], []⟩⟩)] [0, 1, 4, 5] [2000000001, 2000000002, 4] (by kernel_rfl) (AllP.c (con_nidx (f) (t)) AllP.n) ?_
  refine AWP.seq ?_
  refine xe0 [0, 1, 4, 5, 12] [2000000001, 2000000002, 4] (by kernel_rfl) ?_
  refine AWP.condT (by kernel_rfl) ?_
  refine AWP.seq ?_
  refine AWP.keep' [0, 1, 5] [2000000001, 2000000002] (sf := St.mk [(0, tp (V.vs [] 0)), (1, tp (V.clo (Fn.func 53) [] [V.ptr 2000000001 0, V.ptr 2000000002 0])), (5, tp (i64 (-1)))] [(2000000001, Blk.mk [u32 f] true 1 none), (2000000002, Blk.mk [u32 t] true 1 none)]) (by kernel_rfl) ?_
  refine xg0 [0, 1, 4, 5] [2000000001, 2000000002] (by kernel_rfl) ?_
  refine AWP.ret ?_
  refine ⟨Or.inr rfl, Eq.trans (b := some ([(2000000001, Blk.mk [u32 f] true 1 none), (2000000002, Blk.mk [u32 t] true 1 none)], V.vs [] 0)) (by kernel_rfl) ?_⟩
  first | rfl | (exfalso; omega)
theorem con_nbtw (f t : Int) : Con Try.prog 32 [] [nilP, u32 f, u32 t] [] (.vs [] 0) := by
  refine Con.of (C := ⟨Try.prog, tc, Try.f32.ntmps⟩) [] tcok Try.func32 rfl rfl (by kernel_rfl) (by kernel_rfl) ?_
  refine AWP.seq ?_
  refine AWP.regionT tcok hmix [] [0, 4, 5, 6] [4, 5, 6] (os := []) (s' := St.mk [(0, tp (V.val (Value.pointer none))), (4, tp (V.ptr 4 0)), (5, tp (V.ptr 5 0)), (6, tp (V.sl 6 0 0))] [(4, Blk.mk [u32 f] true 1 none), (5, Blk.mk [u32 t] true 1 none), (6, Blk.mk [] true 0 (some (79, 3)))]) (by kernel_rfl) trivial ?_
  refine AWP.seq ?_
  refine AWP.keep' [0, 4, 5] [4, 5] (sf := St.mk [(0, tp (V.val (Value.pointer none))), (4, tp (V.ptr 4 0)), (5, tp (V.ptr 5 0))] [(4, Blk.mk [u32 f] true 1 none), (5, Blk.mk [u32 t] true 1 none)]) (by kernel_rfl) ?_
  refine xg1 [(1, ⟨some (V.tup []), some ⟨V.vs [] 0, [], []⟩⟩), (3, ⟨some (V.tup [V.sl 2000000001 4 0, V.sl 2000000002 5 0]), some ⟨V.vs [] 0, [(2000000001, Blk.mk [u32 f] true 1 none), (2000000002, Blk.mk [u32 t] true 1 none)], []⟩⟩)] [6] [] (by kernel_rfl) (AllP.c (con_nall ) (AllP.c (con_ndf (f) (t)) AllP.n)) ?_
  refine AWP.ret ?_
  refine ⟨Or.inr rfl, Eq.trans (b := some ([], V.vs [] 0)) (by kernel_rfl) ?_⟩
  first | rfl | (exfalso; omega)
theorem con_nen (on : Bool) : Con Try.prog 55 [] [nilP, vb on] [] (.tup []) := by
  refine Con.of (C := ⟨Try.prog, tc, Try.f55.ntmps⟩) [] tcok Try.func55 rfl rfl (by kernel_rfl) (by kernel_rfl) ?_
  refine AWP.seq ?_
  refine AWP.regionT tcok hmix [] [0, 1, 5] [] (os := []) (s' := St.mk [(0, tp (V.val (Value.pointer none))), (1, tp (vb on)), (5, tp (vb false))] []) (by kernel_rfl) trivial ?_
  refine AWP.condF (by kernel_rfl) ?_
  refine AWP.skip ?_
  refine ⟨Or.inl rfl, Eq.trans (b := some ([], V.tup [])) (by kernel_rfl) ?_⟩
  first | rfl | (exfalso; omega)
theorem con_non : Con Try.prog 38 [] [nilP] [] (vb false) := by
  refine Con.of (C := ⟨Try.prog, tc, Try.f38.ntmps⟩) [] tcok Try.func38 rfl rfl (by kernel_rfl) (by kernel_rfl) ?_
  refine AWP.seq ?_
  refine AWP.regionT tcok hmix [] [0, 2] [] (os := []) (s' := St.mk [(0, tp (V.val (Value.pointer none))), (2, tp (vb false))] []) (by kernel_rfl) trivial ?_
  refine xe1 (os := [false = true → False ∧ True, false = true → False, false = true → False]) [(5, ⟨some (V.tup []), none⟩), (6, ⟨some (V.tup [vb false]), none⟩)] [2] [] (by kernel_rfl) ⟨(by intro hc0; first | (cases hc0; done) | ((try simp only [Bool.or_false, Bool.false_or, Bool.true_and, Bool.and_true, decide_eq_true_eq, decide_eq_false_iff_not, Bool.and_eq_true, Bool.or_eq_true, Bool.or_eq_false_iff, Bool.not_eq_true', Bool.and_eq_false_iff, beq_iff_eq, bne_iff_ne, bne_eq_false_iff_eq, beq_eq_false_iff_ne, Bool.not_eq_false'] at hc0); exact ⟨(by first | omega | (simp [len_u8s]; omega) | (simp [len_u8s]; done)), trivial⟩)), (by (intro hc0; first | (cases hc0; done) | (exfalso; simp_all; done) | ((try simp only [Bool.or_false, Bool.false_or, Bool.true_and, Bool.and_true, decide_eq_true_eq, decide_eq_false_iff_not, Bool.and_eq_true, Bool.or_eq_true, Bool.or_eq_false_iff, Bool.not_eq_true', Bool.and_eq_false_iff, beq_iff_eq, bne_iff_ne, bne_eq_false_iff_eq, beq_eq_false_iff_ne, Bool.not_eq_false'] at hc0); omega))), (by (intro hc0; first | (cases hc0; done) | (exfalso; simp_all; done) | ((try simp only [Bool.or_false, Bool.false_or, Bool.true_and, Bool.and_true, decide_eq_true_eq, decide_eq_false_iff_not, Bool.and_eq_true, Bool.or_eq_true, Bool.or_eq_false_iff, Bool.not_eq_true', Bool.and_eq_false_iff, beq_iff_eq, bne_iff_ne, bne_eq_false_iff_eq, beq_eq_false_iff_ne, Bool.not_eq_false'] at hc0); omega))), trivial⟩ ?_
  refine AWP.ret ?_
  refine ⟨Or.inr rfl, Eq.trans (b := some ([], vb false)) (by kernel_rfl) ?_⟩
  first | rfl | (exfalso; omega)
theorem con_nclr : Con Try.prog 29 [] [nilP] [] (i64 0) := by
  refine Con.of (C := ⟨Try.prog, tc, Try.f29.ntmps⟩) [] tcok Try.func29 rfl rfl (by kernel_rfl) (by kernel_rfl) ?_
  refine AWP.seq ?_
  refine AWP.regionT tcok hmix [] [0, 2] [] (os := []) (s' := St.mk [(0, tp (V.val (Value.pointer none))), (2, tp (i64 0))] []) (by kernel_rfl) trivial ?_
  refine xe1 [(1, ⟨some (V.tup []), some ⟨i64 0, [], []⟩⟩)] [0, 2, 3] [] (by kernel_rfl) (AllP.c (con_nlen ) AllP.n) ?_
  refine AWP.seq ?_
  refine xe0 [0, 2, 3, 7] [] (by kernel_rfl) ?_
  refine AWP.condF (by kernel_rfl) ?_
  refine AWP.skip ?_
  refine xe0 [2] [] (by kernel_rfl) ?_
  refine AWP.ret ?_
  refine ⟨Or.inr rfl, Eq.trans (b := some ([], i64 0)) (by kernel_rfl) ?_⟩
  first | rfl | (exfalso; omega)
end Go.Proofs.Ytlfjnkobnkfioaa
