/- Package mode and the document's answer: what each function returns. -/
import Derived.Test.YtklbonfbiakebaaTc
import Derived.Test.YtklbonfbiakebaaAb22
namespace Go.Proofs.Ytklbonfbiakebaa
open Go.Ab
set_option linter.unusedSimpArgs false
set_option linter.unusedVariables false
def more (n : Int) (is : Bool) : Int := if is then (if n < 255 then n + 1 else n) else 0
def since (s : Int) : Int := if s < 65535 then s + 1 else s
def reached (n l : Int) : Bool := decide (l > 0) && decide (n ≥ l)
def late (m s se c2 t1 t2 : Int) : Bool := (decide (m = 1) && (decide (t1 > 0) && decide (s ≥ t1))) || (decide (m = 2) && decide (se < c2) && (decide (t2 > 0) && decide (s ≥ t2)))
structure Au where
  m : Int
  s : Int
  cl : Int
  se : Int
  dk : Int
deriving DecidableEq
abbrev Au.v (a : Au) : V := .agg true [u8 a.m, u16 a.s, u8 a.cl, u8 a.se, u8 a.dk]
structure Cf where
  c1 : Int
  c2 : Int
  c3 : Int
  t0 : Int
  t1 : Int
  t2 : Int
  t3 : Int
abbrev Cf.v (c : Cf) : V := .agg true [u8 c.c1, u8 c.c2, u8 c.c3, u16 c.t0, u16 c.t1, u16 c.t2, u16 c.t3]
def Au.ok (a : Au) : Prop := (a.m = 0 ∨ a.m = 1 ∨ a.m = 2 ∨ a.m = 3) ∧ 0 ≤ a.s ∧ a.s < 65536 ∧ 0 ≤ a.cl ∧ a.cl < 256 ∧ 0 ≤ a.se ∧ a.se < 256 ∧ 0 ≤ a.dk ∧ a.dk < 256
def Au.zero : Au := ⟨0, 0, 0, 0, 0⟩
def Au.at (m : Int) : Au := ⟨m, 0, 0, 0, 0⟩
def count (a : Au) (x y : Bool) : Au := ⟨a.m, since a.s, more a.cl x, more a.se y, more a.dk (!y)⟩
def rest (a : Au) (c : Cf) : Au × Int :=
  if a.m = 1 ∧ reached a.cl c.c1 = true then (.at 2, 2)
  else if a.m = 3 ∧ reached a.dk c.c3 = true then (.at 2, 4)
  else if late a.m a.s a.se c.c2 c.t1 c.t2 = true then (.zero, 3)
  else (a, 0)
def step (a : Au) (c : Cf) (x y z : Bool) : Au × Int := if z = true ∧ a.m ≠ 0 then (.zero, 1) else rest (count a x y) c
def ask (a : Au) (c : Cf) (q : Int) : Au × Int :=
  if q = 0 then (.zero, 0)
  else if q > 3 then (a, 1)
  else if q = a.m then (a, 0)
  else if (q = 1 ∧ a.m = 0) ∨ (q = 2 ∧ (a.m = 1 ∨ a.m = 3)) ∨ (q = 3 ∧ a.m = 2 ∧ a.se ≥ c.c2) then (.at q, 0)
  else (a, 7)
theorem more_bd (n : Int) (is : Bool) (h0 : 0 ≤ n) (h : n < 256) : 0 ≤ more n is ∧ more n is < 256 := by unfold more; split <;> (try split) <;> omega
theorem since_bd (n : Int) (h0 : 0 ≤ n) (h : n < 65536) : 0 ≤ since n ∧ since n < 65536 := by unfold since; split <;> omega

theorem con_more (n : Int) (is : Bool) (h0 : 0 ≤ n) (h : n < 256) : Con Try.prog 17 [] [u8 n, vb is] [] (u8 (more n is)) := by
  refine Con.of (C := ⟨Try.prog, tc, Try.f17.ntmps⟩) [] tcok Try.func17 rfl rfl (by kernel_rfl) (by kernel_rfl) ?_
  refine AWP.seq ?_
  refine AWP.regionT tcok hmix [] [0, 1, 4] [] (os := []) (s' := St.mk [(0, T.plain (u8 n)), (1, T.plain (vb is)), (4, T.plain (u8 0))] []) (by kernel_rfl) trivial ?_
  refine AWP.seq ?_
  refine AWP.block ?_
  refine AWP.seq ?_
  refine AWP.regionT tcok hmix [] [0, 4, 5] [] (os := []) (s' := St.mk [(0, T.plain (u8 n)), (4, T.plain (u8 0)), (5, T.plain (vb !is))] []) (by kernel_rfl) trivial ?_
  refine AWP.cond (b := !is) (by kernel_rfl) (fun hq0 => ?_) (fun hq0 => ?_)
  · try simp only [Bool.or_false, Bool.false_or, Bool.true_and, Bool.and_true, decide_eq_true_eq, decide_eq_false_iff_not, Bool.and_eq_true, Bool.or_eq_true, Bool.or_eq_false_iff, Bool.not_eq_true', Bool.and_eq_false_iff, beq_iff_eq, bne_iff_ne, beq_eq_false_iff_ne, Bool.not_eq_false'] at hq0
    refine AWP.seq ?_
    refine AWP.regionT tcok hmix [] [0, 4] [] (os := []) (s' := St.mk [(0, T.plain (u8 n)), (4, T.plain (u8 0))] []) (by kernel_rfl) trivial ?_
    refine AWP.ret ?_
    refine ⟨Or.inr rfl, Eq.trans (b := some ([], u8 0)) (by kernel_rfl) ?_⟩
    (simp [more, *])
  try simp only [Bool.or_false, Bool.false_or, Bool.true_and, Bool.and_true, decide_eq_true_eq, decide_eq_false_iff_not, Bool.and_eq_true, Bool.or_eq_true, Bool.or_eq_false_iff, Bool.not_eq_true', Bool.and_eq_false_iff, beq_iff_eq, bne_iff_ne, beq_eq_false_iff_ne, Bool.not_eq_false'] at hq0
  refine AWP.seq ?_
  refine AWP.regionT tcok hmix [] [0, 4, 8] [] (os := []) (s' := St.mk [(0, T.plain (u8 n)), (4, T.plain (u8 0)), (8, T.plain (vb (decide (n < 255))))] []) (by kernel_rfl) trivial ?_
  refine AWP.cond (b := decide (n < 255)) (by kernel_rfl) (fun hq1 => ?_) (fun hq1 => ?_)
  · try simp only [Bool.or_false, Bool.false_or, Bool.true_and, Bool.and_true, decide_eq_true_eq, decide_eq_false_iff_not, Bool.and_eq_true, Bool.or_eq_true, Bool.or_eq_false_iff, Bool.not_eq_true', Bool.and_eq_false_iff, beq_iff_eq, bne_iff_ne, beq_eq_false_iff_ne, Bool.not_eq_false'] at hq1
    refine AWP.region tcok hmix [(1, ⟨some (u8 (n + 1)), none⟩)] (os := [u8 (IntKind.wrap IntKind.u8 (n + 1)) = u8 (n + 1)]) (sf := St.mk [(0, T.plain (u8 (n + 1))), (4, T.plain (u8 0)), (8, T.plain (vb (decide (n < 255)))), (11, T.plain (u8 n)), (12, T.plain (u8 (n + 1)))] []) (by kernel_rfl) ⟨(wr_u8 (by omega) (by omega)), trivial⟩ ?_
    refine AWP.keep' [0, 4] [] (sf := St.mk [(0, T.plain (u8 (n + 1))), (4, T.plain (u8 0))] []) (by kernel_rfl) ?_
    refine AWP.seq ?_
    refine AWP.regionT tcok hmix [] [4] [] (os := []) (s' := St.mk [(4, T.plain (u8 (n + 1)))] []) (by kernel_rfl) trivial ?_
    refine AWP.ret ?_
    refine ⟨Or.inr rfl, Eq.trans (b := some ([], u8 (n + 1))) (by kernel_rfl) ?_⟩
    (simp [more, *])
  try simp only [Bool.or_false, Bool.false_or, Bool.true_and, Bool.and_true, decide_eq_true_eq, decide_eq_false_iff_not, Bool.and_eq_true, Bool.or_eq_true, Bool.or_eq_false_iff, Bool.not_eq_true', Bool.and_eq_false_iff, beq_iff_eq, bne_iff_ne, beq_eq_false_iff_ne, Bool.not_eq_false'] at hq1
  refine AWP.skip ?_
  refine AWP.seq ?_
  refine AWP.regionT tcok hmix [] [4] [] (os := []) (s' := St.mk [(4, T.plain (u8 n))] []) (by kernel_rfl) trivial ?_
  refine AWP.ret ?_
  refine ⟨Or.inr rfl, Eq.trans (b := some ([], u8 n)) (by kernel_rfl) ?_⟩
  (simp [more, *])
theorem con_fall (m s cl se dk : Int) : Con Try.prog 11 [] [.agg true [u8 m, u16 s, u8 cl, u8 se, u8 dk]] [] Au.zero.v := by
  refine Con.of (C := ⟨Try.prog, tc, Try.f11.ntmps⟩) [] tcok Try.func11 rfl rfl (by kernel_rfl) (by kernel_rfl) ?_
  refine AWP.seq ?_
  refine AWP.regionT tcok hmix [] [2] [2] (os := []) (s' := St.mk [(2, T.plain (V.ptr 2 0))] [(2, Blk.mk [u8 0, u16 0, u8 0, u8 0, u8 0] true 5 none)]) (by kernel_rfl) trivial ?_
  refine AWP.seq ?_
  refine AWP.regionT tcok hmix [] [2] [2] (os := []) (s' := St.mk [(2, T.plain (V.ptr 2 0))] [(2, Blk.mk [u8 0, u16 0, u8 0, u8 0, u8 0] true 5 none)]) (by kernel_rfl) trivial ?_
  refine AWP.ret ?_
  refine ⟨Or.inr rfl, Eq.trans (b := some ([], V.agg true [u8 0, u16 0, u8 0, u8 0, u8 0])) (by kernel_rfl) ?_⟩
  rfl
theorem con_count (m s cl se dk : Int) (x y : Bool) (h1 : 0 ≤ s) (h2 : s < 65536) (h3 : 0 ≤ cl) (h4 : cl < 256) (h5 : 0 ≤ se) (h6 : se < 256) (h7 : 0 ≤ dk) (h8 : dk < 256) :
    Con Try.prog 13 [] [.agg true [u8 m, u16 s, u8 cl, u8 se, u8 dk], vb x, vb y] [] (.agg true [u8 m, u16 (since s), u8 (more cl x), u8 (more se y), u8 (more dk (!y))]) := by
  refine Con.of (C := ⟨Try.prog, tc, Try.f13.ntmps⟩) [] tcok Try.func13 rfl rfl (by kernel_rfl) (by kernel_rfl) ?_
  refine AWP.seq ?_
  refine AWP.regionT tcok hmix [] [1, 2, 3, 6] [3, 6] (os := []) (s' := St.mk [(1, T.plain (vb x)), (2, T.plain (vb y)), (3, T.plain (V.ptr 3 0)), (6, T.plain (V.ptr 6 0))] [(3, Blk.mk [u8 m, u16 s, u8 cl, u8 se, u8 dk] true 5 none), (6, Blk.mk [u8 0, u16 0, u8 0, u8 0, u8 0] true 5 none)]) (by kernel_rfl) trivial ?_
  refine AWP.seq ?_
  refine AWP.seq ?_
  refine AWP.regionT tcok hmix [] [1, 2, 3, 6, 9] [3, 6] (os := []) (s' := St.mk [(1, T.plain (vb x)), (2, T.plain (vb y)), (3, T.plain (V.ptr 3 0)), (6, T.plain (V.ptr 6 0)), (9, T.plain (vb (decide (s < 65535))))] [(3, Blk.mk [u8 m, u16 s, u8 cl, u8 se, u8 dk] true 5 none), (6, Blk.mk [u8 0, u16 0, u8 0, u8 0, u8 0] true 5 none)]) (by kernel_rfl) trivial ?_
  refine AWP.cond (b := decide (s < 65535)) (by kernel_rfl) (fun hq2 => ?_) (fun hq2 => ?_)
  · try simp only [Bool.or_false, Bool.false_or, Bool.true_and, Bool.and_true, decide_eq_true_eq, decide_eq_false_iff_not, Bool.and_eq_true, Bool.or_eq_true, Bool.or_eq_false_iff, Bool.not_eq_true', Bool.and_eq_false_iff, beq_iff_eq, bne_iff_ne, beq_eq_false_iff_ne, Bool.not_eq_false'] at hq2
    refine AWP.regionT tcok hmix [(2, ⟨some (u16 (s + 1)), none⟩)] [1, 2, 3, 6] [3, 6] (os := [u16 (IntKind.wrap IntKind.u16 (s + 1)) = u16 (s + 1)]) (s' := St.mk [(1, T.plain (vb x)), (2, T.plain (vb y)), (3, T.plain (V.ptr 3 0)), (6, T.plain (V.ptr 6 0))] [(3, Blk.mk [u8 m, u16 (s + 1), u8 cl, u8 se, u8 dk] true 5 none), (6, Blk.mk [u8 0, u16 0, u8 0, u8 0, u8 0] true 5 none)]) (by kernel_rfl) ⟨(wr_u16 (by omega) (by omega)), trivial⟩ ?_
    refine AWP.seq ?_
    refine AWP.regionT tcok hmix [(3, ⟨none, some ⟨u8 (more cl x), [], []⟩⟩), (7, ⟨none, some ⟨u8 (more se y), [], []⟩⟩), (12, ⟨none, some ⟨u8 (more dk !y), [], []⟩⟩)] [3, 6] [3, 6] (os := [Con Try.prog 17 [] [u8 cl, vb x] [] (u8 (more cl x)), Con Try.prog 17 [] [u8 se, vb y] [] (u8 (more se y)), Con Try.prog 17 [] [u8 dk, vb !y] [] (u8 (more dk !y))]) (s' := St.mk [(3, T.plain (V.ptr 3 0)), (6, T.plain (V.ptr 6 0))] [(3, Blk.mk [u8 m, u16 (s + 1), u8 (more cl x), u8 (more se y), u8 (more dk !y)] true 5 none), (6, Blk.mk [u8 0, u16 0, u8 0, u8 0, u8 0] true 5 none)]) (by kernel_rfl) ⟨(Go.Proofs.Ytklbonfbiakebaa.con_more (cl) (x) (by omega) (by omega)), (Go.Proofs.Ytklbonfbiakebaa.con_more (se) (y) (by omega) (by omega)), (Go.Proofs.Ytklbonfbiakebaa.con_more (dk) (!y) (by omega) (by omega)), trivial⟩ ?_
    refine AWP.seq ?_
    refine AWP.regionT tcok hmix [] [6] [6] (os := []) (s' := St.mk [(6, T.plain (V.ptr 6 0))] [(6, Blk.mk [u8 m, u16 (s + 1), u8 (more cl x), u8 (more se y), u8 (more dk !y)] true 5 none)]) (by kernel_rfl) trivial ?_
    refine AWP.ret ?_
    refine ⟨Or.inr rfl, Eq.trans (b := some ([], V.agg true [u8 m, u16 (s + 1), u8 (more cl x), u8 (more se y), u8 (more dk !y)])) (by kernel_rfl) ?_⟩
    (simp [since, *])
  try simp only [Bool.or_false, Bool.false_or, Bool.true_and, Bool.and_true, decide_eq_true_eq, decide_eq_false_iff_not, Bool.and_eq_true, Bool.or_eq_true, Bool.or_eq_false_iff, Bool.not_eq_true', Bool.and_eq_false_iff, beq_iff_eq, bne_iff_ne, beq_eq_false_iff_ne, Bool.not_eq_false'] at hq2
  refine AWP.skip ?_
  refine AWP.seq ?_
  refine AWP.regionT tcok hmix [(3, ⟨none, some ⟨u8 (more cl x), [], []⟩⟩), (7, ⟨none, some ⟨u8 (more se y), [], []⟩⟩), (12, ⟨none, some ⟨u8 (more dk !y), [], []⟩⟩)] [3, 6] [3, 6] (os := [Con Try.prog 17 [] [u8 cl, vb x] [] (u8 (more cl x)), Con Try.prog 17 [] [u8 se, vb y] [] (u8 (more se y)), Con Try.prog 17 [] [u8 dk, vb !y] [] (u8 (more dk !y))]) (s' := St.mk [(3, T.plain (V.ptr 3 0)), (6, T.plain (V.ptr 6 0))] [(3, Blk.mk [u8 m, u16 s, u8 (more cl x), u8 (more se y), u8 (more dk !y)] true 5 none), (6, Blk.mk [u8 0, u16 0, u8 0, u8 0, u8 0] true 5 none)]) (by kernel_rfl) ⟨(Go.Proofs.Ytklbonfbiakebaa.con_more (cl) (x) (by omega) (by omega)), (Go.Proofs.Ytklbonfbiakebaa.con_more (se) (y) (by omega) (by omega)), (Go.Proofs.Ytklbonfbiakebaa.con_more (dk) (!y) (by omega) (by omega)), trivial⟩ ?_
  refine AWP.seq ?_
  refine AWP.regionT tcok hmix [] [6] [6] (os := []) (s' := St.mk [(6, T.plain (V.ptr 6 0))] [(6, Blk.mk [u8 m, u16 s, u8 (more cl x), u8 (more se y), u8 (more dk !y)] true 5 none)]) (by kernel_rfl) trivial ?_
  refine AWP.ret ?_
  refine ⟨Or.inr rfl, Eq.trans (b := some ([], V.agg true [u8 m, u16 s, u8 (more cl x), u8 (more se y), u8 (more dk !y)])) (by kernel_rfl) ?_⟩
  (simp [since, *])
theorem con_right (m s cl se dk : Int) (h : m = 0 ∨ m = 1 ∨ m = 2 ∨ m = 3) : Con Try.prog 12 [] [.agg true [u8 m, u16 s, u8 cl, u8 se, u8 dk]] [] (vb true) := by
  refine Con.of (C := ⟨Try.prog, tc, Try.f12.ntmps⟩) [] tcok Try.func12 rfl rfl (by kernel_rfl) (by kernel_rfl) ?_
  refine AWP.seq ?_
  refine AWP.regionT tcok hmix [] [1, 2] [1] (os := []) (s' := St.mk [(1, T.plain (V.ptr 1 0)), (2, T.plain (vb false))] [(1, Blk.mk [u8 m, u16 s, u8 cl, u8 se, u8 dk] true 5 none)]) (by kernel_rfl) trivial ?_
  refine AWP.seq ?_
  refine AWP.regionT tcok hmix [] [2] [] (os := []) (s' := St.mk [(2, T.plain (vb (decide (m ≤ 3))))] []) (by kernel_rfl) trivial ?_
  refine AWP.ret ?_
  refine ⟨Or.inr rfl, Eq.trans (b := some ([], vb (decide (m ≤ 3)))) (by kernel_rfl) ?_⟩
  (simp; omega)
theorem con_reached (n l : Int) : Con Try.prog 14 [] [u8 n, u8 l] [] (vb (reached n l)) := by
  refine Con.of (C := ⟨Try.prog, tc, Try.f14.ntmps⟩) [] tcok Try.func14 rfl rfl (by kernel_rfl) (by kernel_rfl) ?_
  refine AWP.seq ?_
  refine AWP.regionT tcok hmix [] [0, 1, 4] [] (os := []) (s' := St.mk [(0, T.plain (u8 n)), (1, T.plain (u8 l)), (4, T.plain (vb false))] []) (by kernel_rfl) trivial ?_
  refine AWP.seq ?_
  refine AWP.regionT tcok hmix [] [4] [] (os := []) (s' := St.mk [(4, T.plain (vb (decide (l > 0) && decide (n ≥ l))))] []) (by kernel_rfl) trivial ?_
  refine AWP.ret ?_
  refine ⟨Or.inr rfl, Eq.trans (b := some ([], vb (decide (l > 0) && decide (n ≥ l)))) (by kernel_rfl) ?_⟩
  rfl
theorem con_late (m s cl se dk c1 c2 c3 t0 t1 t2 t3 : Int) (h : m = 0 ∨ m = 1 ∨ m = 2 ∨ m = 3) :
    Con Try.prog 15 [] [.agg true [u8 m, u16 s, u8 cl, u8 se, u8 dk], .agg true [u8 c1, u8 c2, u8 c3, u16 t0, u16 t1, u16 t2, u16 t3]] [] (vb (late m s se c2 t1 t2)) := by
  rcases h with rfl | rfl | rfl | rfl
  all_goals
    refine Con.of (C := ⟨Try.prog, tc, Try.f15.ntmps⟩) [] tcok Try.func15 rfl rfl (by kernel_rfl) (by kernel_rfl) ?_
  · refine AWP.seq ?_
    refine AWP.regionT tcok hmix [] [2, 3, 4] [2, 3] (os := []) (s' := St.mk [(2, T.plain (V.ptr 2 0)), (3, T.plain (V.ptr 3 0)), (4, T.plain (vb false))] [(2, Blk.mk [u8 0, u16 s, u8 cl, u8 se, u8 dk] true 5 none), (3, Blk.mk [u8 c1, u8 c2, u8 c3, u16 t0, u16 t1, u16 t2, u16 t3] true 7 none)]) (by kernel_rfl) trivial ?_
    refine AWP.seq ?_
    refine AWP.regionT tcok hmix [] [2, 3, 4, 5] [2, 3] (os := []) (s' := St.mk [(2, T.plain (V.ptr 2 0)), (3, T.plain (V.ptr 3 0)), (4, T.plain (vb false)), (5, T.plain (u16 t0))] [(2, Blk.mk [u8 0, u16 s, u8 cl, u8 se, u8 dk] true 5 none), (3, Blk.mk [u8 c1, u8 c2, u8 c3, u16 t0, u16 t1, u16 t2, u16 t3] true 7 none)]) (by kernel_rfl) trivial ?_
    refine AWP.seq ?_
    refine AWP.regionT tcok hmix [] [2, 4, 5, 6] [2] (os := []) (s' := St.mk [(2, T.plain (V.ptr 2 0)), (4, T.plain (vb false)), (5, T.plain (u16 t0)), (6, T.plain (vb false))] [(2, Blk.mk [u8 0, u16 s, u8 cl, u8 se, u8 dk] true 5 none)]) (by kernel_rfl) trivial ?_
    refine AWP.seq ?_
    refine AWP.regionT tcok hmix [] [4] [] (os := []) (s' := St.mk [(4, T.plain (vb false))] []) (by kernel_rfl) trivial ?_
    refine AWP.ret ?_
    refine ⟨Or.inr rfl, Eq.trans (b := some ([], vb false)) (by kernel_rfl) ?_⟩
    (simp [late, Bool.and_assoc])
  · refine AWP.seq ?_
    refine AWP.regionT tcok hmix [] [2, 3, 4] [2, 3] (os := []) (s' := St.mk [(2, T.plain (V.ptr 2 0)), (3, T.plain (V.ptr 3 0)), (4, T.plain (vb false))] [(2, Blk.mk [u8 1, u16 s, u8 cl, u8 se, u8 dk] true 5 none), (3, Blk.mk [u8 c1, u8 c2, u8 c3, u16 t0, u16 t1, u16 t2, u16 t3] true 7 none)]) (by kernel_rfl) trivial ?_
    refine AWP.seq ?_
    refine AWP.regionT tcok hmix [] [2, 3, 4, 5] [2, 3] (os := []) (s' := St.mk [(2, T.plain (V.ptr 2 0)), (3, T.plain (V.ptr 3 0)), (4, T.plain (vb false)), (5, T.plain (u16 t1))] [(2, Blk.mk [u8 1, u16 s, u8 cl, u8 se, u8 dk] true 5 none), (3, Blk.mk [u8 c1, u8 c2, u8 c3, u16 t0, u16 t1, u16 t2, u16 t3] true 7 none)]) (by kernel_rfl) trivial ?_
    refine AWP.seq ?_
    refine AWP.regionT tcok hmix [] [2, 4, 5, 6] [2] (os := []) (s' := St.mk [(2, T.plain (V.ptr 2 0)), (4, T.plain (vb false)), (5, T.plain (u16 t1)), (6, T.plain (vb true))] [(2, Blk.mk [u8 1, u16 s, u8 cl, u8 se, u8 dk] true 5 none)]) (by kernel_rfl) trivial ?_
    refine AWP.seq ?_
    refine AWP.regionT tcok hmix [] [4] [] (os := []) (s' := St.mk [(4, T.plain (vb (true && decide (t1 > 0) && decide (s ≥ t1))))] []) (by kernel_rfl) trivial ?_
    refine AWP.ret ?_
    refine ⟨Or.inr rfl, Eq.trans (b := some ([], vb (true && decide (t1 > 0) && decide (s ≥ t1)))) (by kernel_rfl) ?_⟩
    (simp [late, Bool.and_assoc])
  · refine AWP.seq ?_
    refine AWP.regionT tcok hmix [] [2, 3, 4] [2, 3] (os := []) (s' := St.mk [(2, T.plain (V.ptr 2 0)), (3, T.plain (V.ptr 3 0)), (4, T.plain (vb false))] [(2, Blk.mk [u8 2, u16 s, u8 cl, u8 se, u8 dk] true 5 none), (3, Blk.mk [u8 c1, u8 c2, u8 c3, u16 t0, u16 t1, u16 t2, u16 t3] true 7 none)]) (by kernel_rfl) trivial ?_
    refine AWP.seq ?_
    refine AWP.regionT tcok hmix [] [2, 3, 4, 5] [2, 3] (os := []) (s' := St.mk [(2, T.plain (V.ptr 2 0)), (3, T.plain (V.ptr 3 0)), (4, T.plain (vb false)), (5, T.plain (u16 t2))] [(2, Blk.mk [u8 2, u16 s, u8 cl, u8 se, u8 dk] true 5 none), (3, Blk.mk [u8 c1, u8 c2, u8 c3, u16 t0, u16 t1, u16 t2, u16 t3] true 7 none)]) (by kernel_rfl) trivial ?_
    refine AWP.seq ?_
    refine AWP.regionT tcok hmix [] [2, 4, 5, 6] [2] (os := []) (s' := St.mk [(2, T.plain (V.ptr 2 0)), (4, T.plain (vb false)), (5, T.plain (u16 t2)), (6, T.plain (vb (false || true && decide (se < c2))))] [(2, Blk.mk [u8 2, u16 s, u8 cl, u8 se, u8 dk] true 5 none)]) (by kernel_rfl) trivial ?_
    refine AWP.seq ?_
    refine AWP.regionT tcok hmix [] [4] [] (os := []) (s' := St.mk [(4, T.plain (vb ((false || true && decide (se < c2)) && decide (t2 > 0) && decide (s ≥ t2))))] []) (by kernel_rfl) trivial ?_
    refine AWP.ret ?_
    refine ⟨Or.inr rfl, Eq.trans (b := some ([], vb ((false || true && decide (se < c2)) && decide (t2 > 0) && decide (s ≥ t2)))) (by kernel_rfl) ?_⟩
    (simp [late, Bool.and_assoc])
  · refine AWP.seq ?_
    refine AWP.regionT tcok hmix [] [2, 3, 4] [2, 3] (os := []) (s' := St.mk [(2, T.plain (V.ptr 2 0)), (3, T.plain (V.ptr 3 0)), (4, T.plain (vb false))] [(2, Blk.mk [u8 3, u16 s, u8 cl, u8 se, u8 dk] true 5 none), (3, Blk.mk [u8 c1, u8 c2, u8 c3, u16 t0, u16 t1, u16 t2, u16 t3] true 7 none)]) (by kernel_rfl) trivial ?_
    refine AWP.seq ?_
    refine AWP.regionT tcok hmix [] [2, 3, 4, 5] [2, 3] (os := []) (s' := St.mk [(2, T.plain (V.ptr 2 0)), (3, T.plain (V.ptr 3 0)), (4, T.plain (vb false)), (5, T.plain (u16 t3))] [(2, Blk.mk [u8 3, u16 s, u8 cl, u8 se, u8 dk] true 5 none), (3, Blk.mk [u8 c1, u8 c2, u8 c3, u16 t0, u16 t1, u16 t2, u16 t3] true 7 none)]) (by kernel_rfl) trivial ?_
    refine AWP.seq ?_
    refine AWP.regionT tcok hmix [] [2, 4, 5, 6] [2] (os := []) (s' := St.mk [(2, T.plain (V.ptr 2 0)), (4, T.plain (vb false)), (5, T.plain (u16 t3)), (6, T.plain (vb false))] [(2, Blk.mk [u8 3, u16 s, u8 cl, u8 se, u8 dk] true 5 none)]) (by kernel_rfl) trivial ?_
    refine AWP.seq ?_
    refine AWP.regionT tcok hmix [] [4] [] (os := []) (s' := St.mk [(4, T.plain (vb false))] []) (by kernel_rfl) trivial ?_
    refine AWP.ret ?_
    refine ⟨Or.inr rfl, Eq.trans (b := some ([], vb false)) (by kernel_rfl) ?_⟩
    (simp [late, Bool.and_assoc])
theorem con_step (m s cl se dk c1 c2 c3 t0 t1 t2 t3 : Int) (x y z : Bool) (h : m = 0 ∨ m = 1 ∨ m = 2 ∨ m = 3) (h1 : 0 ≤ s) (h2 : s < 65536) (h3 : 0 ≤ cl) (h4 : cl < 256) (h5 : 0 ≤ se) (h6 : se < 256) (h7 : 0 ≤ dk) (h8 : dk < 256) :
    Con Try.prog 9 [] [.agg true [u8 m, u16 s, u8 cl, u8 se, u8 dk], .agg true [u8 c1, u8 c2, u8 c3, u16 t0, u16 t1, u16 t2, u16 t3], vb x, vb y, vb z] []
      (.tup [(step ⟨m, s, cl, se, dk⟩ ⟨c1, c2, c3, t0, t1, t2, t3⟩ x y z).1.v, u8 (step ⟨m, s, cl, se, dk⟩ ⟨c1, c2, c3, t0, t1, t2, t3⟩ x y z).2]) := by
  refine Con.of (C := ⟨Try.prog, tc, Try.f9.ntmps⟩) [] tcok Try.func9 rfl rfl (by kernel_rfl) (by kernel_rfl) ?_
  refine AWP.seq ?_
  refine AWP.regionT tcok hmix [] [2, 3, 4, 5, 6, 10, 11] [5, 6, 10] (os := []) (s' := St.mk [(2, T.plain (vb x)), (3, T.plain (vb y)), (4, T.plain (vb z)), (5, T.plain (V.ptr 5 0)), (6, T.plain (V.ptr 6 0)), (10, T.plain (V.ptr 10 0)), (11, T.plain (u8 0))] [(5, Blk.mk [u8 m, u16 s, u8 cl, u8 se, u8 dk] true 5 none), (6, Blk.mk [u8 c1, u8 c2, u8 c3, u16 t0, u16 t1, u16 t2, u16 t3] true 7 none), (10, Blk.mk [u8 0, u16 0, u8 0, u8 0, u8 0] true 5 none)]) (by kernel_rfl) trivial ?_
  refine AWP.seq ?_
  refine AWP.seq ?_
  refine AWP.regionT tcok hmix [(8, ⟨none, some ⟨vb true, [], []⟩⟩)] [2, 3, 5, 6, 10, 11, 22] [5, 6, 10] (os := [(z && m != (0 : Int)) = false → Con Try.prog (12 : Nat) [] [V.agg true [u8 m, u16 s, u8 cl, u8 se, u8 dk]] [] (vb true) ∧ True]) (s' := St.mk [(2, T.plain (vb x)), (3, T.plain (vb y)), (5, T.plain (V.ptr 5 0)), (6, T.plain (V.ptr 6 0)), (10, T.plain (V.ptr 10 0)), (11, T.plain (u8 0)), (22, T.plain (vb (z && m != 0 || false)))] [(5, Blk.mk [u8 m, u16 s, u8 cl, u8 se, u8 dk] true 5 none), (6, Blk.mk [u8 c1, u8 c2, u8 c3, u16 t0, u16 t1, u16 t2, u16 t3] true 7 none), (10, Blk.mk [u8 0, u16 0, u8 0, u8 0, u8 0] true 5 none)]) (by kernel_rfl) ⟨(by intro hc0; try simp only [Bool.or_false, Bool.false_or, Bool.true_and, Bool.and_true, decide_eq_true_eq, decide_eq_false_iff_not, Bool.and_eq_true, Bool.or_eq_true, Bool.or_eq_false_iff, Bool.not_eq_true', Bool.and_eq_false_iff, beq_iff_eq, bne_iff_ne, beq_eq_false_iff_ne, Bool.not_eq_false'] at hc0; exact ⟨(Go.Proofs.Ytklbonfbiakebaa.con_right (m) (s) (cl) (se) (dk) (by omega)), trivial⟩), trivial⟩ ?_
  refine AWP.cond (b := z && m != 0 || false) (by kernel_rfl) (fun hq3 => ?_) (fun hq3 => ?_)
  · try simp only [Bool.or_false, Bool.false_or, Bool.true_and, Bool.and_true, decide_eq_true_eq, decide_eq_false_iff_not, Bool.and_eq_true, Bool.or_eq_true, Bool.or_eq_false_iff, Bool.not_eq_true', Bool.and_eq_false_iff, beq_iff_eq, bne_iff_ne, beq_eq_false_iff_ne, Bool.not_eq_false'] at hq3
    refine AWP.seq ?_
    refine AWP.regionT tcok hmix [(1, ⟨none, some ⟨Au.v Au.zero, [], []⟩⟩)] [2, 3, 5, 6, 10, 11] [5, 6, 10] (os := [Con Try.prog 11 [] [V.agg true [u8 m, u16 s, u8 cl, u8 se, u8 dk]] [] (V.agg true [u8 0, u16 0, u8 0, u8 0, u8 0])]) (s' := St.mk [(2, T.plain (vb x)), (3, T.plain (vb y)), (5, T.plain (V.ptr 5 0)), (6, T.plain (V.ptr 6 0)), (10, T.plain (V.ptr 10 0)), (11, T.plain (u8 1))] [(5, Blk.mk [u8 m, u16 s, u8 cl, u8 se, u8 dk] true 5 none), (6, Blk.mk [u8 c1, u8 c2, u8 c3, u16 t0, u16 t1, u16 t2, u16 t3] true 7 none), (10, Blk.mk [u8 0, u16 0, u8 0, u8 0, u8 0] true 5 none)]) (by kernel_rfl) ⟨(Go.Proofs.Ytklbonfbiakebaa.con_fall (m) (s) (cl) (se) (dk)), trivial⟩ ?_
    refine AWP.ret ?_
    refine ⟨Or.inr rfl, Eq.trans (b := some ([], V.tup [V.agg true [u8 0, u16 0, u8 0, u8 0, u8 0], u8 1])) (by kernel_rfl) ?_⟩
    (rcases h with rfl | rfl | rfl | rfl <;> simp_all [step, rest, count, Au.zero, Au.at])
  try simp only [Bool.or_false, Bool.false_or, Bool.true_and, Bool.and_true, decide_eq_true_eq, decide_eq_false_iff_not, Bool.and_eq_true, Bool.or_eq_true, Bool.or_eq_false_iff, Bool.not_eq_true', Bool.and_eq_false_iff, beq_iff_eq, bne_iff_ne, beq_eq_false_iff_ne, Bool.not_eq_false'] at hq3
  refine AWP.skip ?_
  refine AWP.seq ?_
  refine AWP.regionT tcok hmix [(3, ⟨none, some ⟨V.agg true [u8 m, u16 (since s), u8 (more cl x), u8 (more se y), u8 (more dk !y)], [], []⟩⟩)] [5, 6, 10, 11] [5, 6, 10] (os := [Con Try.prog 13 [] [V.agg true [u8 m, u16 s, u8 cl, u8 se, u8 dk], vb x, vb y] [] (V.agg true [u8 m, u16 (since s), u8 (more cl x), u8 (more se y), u8 (more dk !y)])]) (s' := St.mk [(5, T.plain (V.ptr 5 0)), (6, T.plain (V.ptr 6 0)), (10, T.plain (V.ptr 10 0)), (11, T.plain (u8 0))] [(5, Blk.mk [u8 m, u16 (since s), u8 (more cl x), u8 (more se y), u8 (more dk !y)] true 5 none), (6, Blk.mk [u8 c1, u8 c2, u8 c3, u16 t0, u16 t1, u16 t2, u16 t3] true 7 none), (10, Blk.mk [u8 0, u16 0, u8 0, u8 0, u8 0] true 5 none)]) (by kernel_rfl) ⟨(Go.Proofs.Ytklbonfbiakebaa.con_count (m) (s) (cl) (se) (dk) (x) (y) (by omega) (by omega) (by omega) (by omega) (by omega) (by omega) (by omega) (by omega)), trivial⟩ ?_
  refine AWP.seq ?_
  refine AWP.block ?_
  refine AWP.seq ?_
  refine AWP.regionT tcok hmix [(8, ⟨none, some ⟨vb (reached (more cl x) c1), [], []⟩⟩)] [5, 6, 10, 11, 29] [5, 6, 10] (os := [(m == (1 : Int)) = true → Con Try.prog (14 : Nat) [] [u8 (more cl x), u8 c1] [] (vb (reached (more cl x) c1)) ∧ True]) (s' := St.mk [(5, T.plain (V.ptr 5 0)), (6, T.plain (V.ptr 6 0)), (10, T.plain (V.ptr 10 0)), (11, T.plain (u8 0)), (29, T.plain (vb (m == 1 && reached (more cl x) c1)))] [(5, Blk.mk [u8 m, u16 (since s), u8 (more cl x), u8 (more se y), u8 (more dk !y)] true 5 none), (6, Blk.mk [u8 c1, u8 c2, u8 c3, u16 t0, u16 t1, u16 t2, u16 t3] true 7 none), (10, Blk.mk [u8 0, u16 0, u8 0, u8 0, u8 0] true 5 none)]) (by kernel_rfl) ⟨(fun _ => ⟨(Go.Proofs.Ytklbonfbiakebaa.con_reached (more cl x) (c1)), trivial⟩), trivial⟩ ?_
  refine AWP.cond (b := m == 1 && reached (more cl x) c1) (by kernel_rfl) (fun hq4 => ?_) (fun hq4 => ?_)
  · try simp only [Bool.or_false, Bool.false_or, Bool.true_and, Bool.and_true, decide_eq_true_eq, decide_eq_false_iff_not, Bool.and_eq_true, Bool.or_eq_true, Bool.or_eq_false_iff, Bool.not_eq_true', Bool.and_eq_false_iff, beq_iff_eq, bne_iff_ne, beq_eq_false_iff_ne, Bool.not_eq_false'] at hq4
    refine AWP.seq ?_
    refine AWP.regionT tcok hmix [] [5, 10, 11] [5, 10] (os := []) (s' := St.mk [(5, T.plain (V.ptr 5 0)), (10, T.plain (V.ptr 10 0)), (11, T.plain (u8 2))] [(5, Blk.mk [u8 m, u16 (since s), u8 (more cl x), u8 (more se y), u8 (more dk !y)] true 5 none), (10, Blk.mk [u8 2, u16 0, u8 0, u8 0, u8 0] true 5 none)]) (by kernel_rfl) trivial ?_
    refine AWP.ret ?_
    refine ⟨Or.inr rfl, Eq.trans (b := some ([], V.tup [V.agg true [u8 2, u16 0, u8 0, u8 0, u8 0], u8 2])) (by kernel_rfl) ?_⟩
    (rcases h with rfl | rfl | rfl | rfl <;> simp_all [step, rest, count, Au.zero, Au.at])
  try simp only [Bool.or_false, Bool.false_or, Bool.true_and, Bool.and_true, decide_eq_true_eq, decide_eq_false_iff_not, Bool.and_eq_true, Bool.or_eq_true, Bool.or_eq_false_iff, Bool.not_eq_true', Bool.and_eq_false_iff, beq_iff_eq, bne_iff_ne, beq_eq_false_iff_ne, Bool.not_eq_false'] at hq4
  refine AWP.seq ?_
  refine AWP.regionT tcok hmix [(8, ⟨none, some ⟨vb (reached (more dk !y) c3), [], []⟩⟩)] [5, 6, 10, 11, 41] [5, 6, 10] (os := [(m == (3 : Int)) = true → Con Try.prog (14 : Nat) [] [u8 (more dk !y), u8 c3] [] (vb (reached (more dk !y) c3)) ∧ True]) (s' := St.mk [(5, T.plain (V.ptr 5 0)), (6, T.plain (V.ptr 6 0)), (10, T.plain (V.ptr 10 0)), (11, T.plain (u8 0)), (41, T.plain (vb (m == 3 && reached (more dk !y) c3)))] [(5, Blk.mk [u8 m, u16 (since s), u8 (more cl x), u8 (more se y), u8 (more dk !y)] true 5 none), (6, Blk.mk [u8 c1, u8 c2, u8 c3, u16 t0, u16 t1, u16 t2, u16 t3] true 7 none), (10, Blk.mk [u8 0, u16 0, u8 0, u8 0, u8 0] true 5 none)]) (by kernel_rfl) ⟨(fun _ => ⟨(Go.Proofs.Ytklbonfbiakebaa.con_reached (more dk !y) (c3)), trivial⟩), trivial⟩ ?_
  refine AWP.cond (b := m == 3 && reached (more dk !y) c3) (by kernel_rfl) (fun hq5 => ?_) (fun hq5 => ?_)
  · try simp only [Bool.or_false, Bool.false_or, Bool.true_and, Bool.and_true, decide_eq_true_eq, decide_eq_false_iff_not, Bool.and_eq_true, Bool.or_eq_true, Bool.or_eq_false_iff, Bool.not_eq_true', Bool.and_eq_false_iff, beq_iff_eq, bne_iff_ne, beq_eq_false_iff_ne, Bool.not_eq_false'] at hq5
    refine AWP.seq ?_
    refine AWP.regionT tcok hmix [] [5, 10, 11] [5, 10] (os := []) (s' := St.mk [(5, T.plain (V.ptr 5 0)), (10, T.plain (V.ptr 10 0)), (11, T.plain (u8 4))] [(5, Blk.mk [u8 m, u16 (since s), u8 (more cl x), u8 (more se y), u8 (more dk !y)] true 5 none), (10, Blk.mk [u8 2, u16 0, u8 0, u8 0, u8 0] true 5 none)]) (by kernel_rfl) trivial ?_
    refine AWP.ret ?_
    refine ⟨Or.inr rfl, Eq.trans (b := some ([], V.tup [V.agg true [u8 2, u16 0, u8 0, u8 0, u8 0], u8 4])) (by kernel_rfl) ?_⟩
    (rcases h with rfl | rfl | rfl | rfl <;> simp_all [step, rest, count, Au.zero, Au.at])
  try simp only [Bool.or_false, Bool.false_or, Bool.true_and, Bool.and_true, decide_eq_true_eq, decide_eq_false_iff_not, Bool.and_eq_true, Bool.or_eq_true, Bool.or_eq_false_iff, Bool.not_eq_true', Bool.and_eq_false_iff, beq_iff_eq, bne_iff_ne, beq_eq_false_iff_ne, Bool.not_eq_false'] at hq5
  refine AWP.seq ?_
  refine AWP.regionT tcok hmix [(2, ⟨none, some ⟨vb (late m (since s) (more se y) c2 t1 t2), [], []⟩⟩)] [5, 10, 11, 53] [5, 10] (os := [Con Try.prog 15 [] [V.agg true [u8 m, u16 (since s), u8 (more cl x), u8 (more se y), u8 (more dk !y)], V.agg true [u8 c1, u8 c2, u8 c3, u16 t0, u16 t1, u16 t2, u16 t3]] [] (vb (late m (since s) (more se y) c2 t1 t2))]) (s' := St.mk [(5, T.plain (V.ptr 5 0)), (10, T.plain (V.ptr 10 0)), (11, T.plain (u8 0)), (53, T.plain (vb (late m (since s) (more se y) c2 t1 t2)))] [(5, Blk.mk [u8 m, u16 (since s), u8 (more cl x), u8 (more se y), u8 (more dk !y)] true 5 none), (10, Blk.mk [u8 0, u16 0, u8 0, u8 0, u8 0] true 5 none)]) (by kernel_rfl) ⟨(Go.Proofs.Ytklbonfbiakebaa.con_late (m) (since s) (more cl x) (more se y) (more dk !y) (c1) (c2) (c3) (t0) (t1) (t2) (t3) (by omega)), trivial⟩ ?_
  refine AWP.cond (b := late m (since s) (more se y) c2 t1 t2) (by kernel_rfl) (fun hq6 => ?_) (fun hq6 => ?_)
  · try simp only [Bool.or_false, Bool.false_or, Bool.true_and, Bool.and_true, decide_eq_true_eq, decide_eq_false_iff_not, Bool.and_eq_true, Bool.or_eq_true, Bool.or_eq_false_iff, Bool.not_eq_true', Bool.and_eq_false_iff, beq_iff_eq, bne_iff_ne, beq_eq_false_iff_ne, Bool.not_eq_false'] at hq6
    refine AWP.seq ?_
    refine AWP.regionT tcok hmix [(1, ⟨none, some ⟨Au.v Au.zero, [], []⟩⟩)] [5, 10, 11] [5, 10] (os := [Con Try.prog 11 [] [V.agg true [u8 m, u16 (since s), u8 (more cl x), u8 (more se y), u8 (more dk !y)]] [] (V.agg true [u8 0, u16 0, u8 0, u8 0, u8 0])]) (s' := St.mk [(5, T.plain (V.ptr 5 0)), (10, T.plain (V.ptr 10 0)), (11, T.plain (u8 3))] [(5, Blk.mk [u8 m, u16 (since s), u8 (more cl x), u8 (more se y), u8 (more dk !y)] true 5 none), (10, Blk.mk [u8 0, u16 0, u8 0, u8 0, u8 0] true 5 none)]) (by kernel_rfl) ⟨(Go.Proofs.Ytklbonfbiakebaa.con_fall (m) (since s) (more cl x) (more se y) (more dk !y)), trivial⟩ ?_
    refine AWP.ret ?_
    refine ⟨Or.inr rfl, Eq.trans (b := some ([], V.tup [V.agg true [u8 0, u16 0, u8 0, u8 0, u8 0], u8 3])) (by kernel_rfl) ?_⟩
    (rcases h with rfl | rfl | rfl | rfl <;> simp_all [step, rest, count, Au.zero, Au.at])
  try simp only [Bool.or_false, Bool.false_or, Bool.true_and, Bool.and_true, decide_eq_true_eq, decide_eq_false_iff_not, Bool.and_eq_true, Bool.or_eq_true, Bool.or_eq_false_iff, Bool.not_eq_true', Bool.and_eq_false_iff, beq_iff_eq, bne_iff_ne, beq_eq_false_iff_ne, Bool.not_eq_false'] at hq6
  refine AWP.skip ?_
  refine AWP.seq ?_
  refine AWP.regionT tcok hmix [] [10, 11] [10] (os := []) (s' := St.mk [(10, T.plain (V.ptr 10 0)), (11, T.plain (u8 0))] [(10, Blk.mk [u8 m, u16 (since s), u8 (more cl x), u8 (more se y), u8 (more dk !y)] true 5 none)]) (by kernel_rfl) trivial ?_
  refine AWP.ret ?_
  refine ⟨Or.inr rfl, Eq.trans (b := some ([], V.tup [V.agg true [u8 m, u16 (since s), u8 (more cl x), u8 (more se y), u8 (more dk !y)], u8 0])) (by kernel_rfl) ?_⟩
  (rcases h with rfl | rfl | rfl | rfl <;> simp_all [step, rest, count, Au.zero, Au.at])
theorem con_ask (m s cl se dk c1 c2 c3 t0 t1 t2 t3 q : Int) (h : m = 0 ∨ m = 1 ∨ m = 2 ∨ m = 3) (hq : 0 ≤ q) :
    Con Try.prog 7 [] [.agg true [u8 m, u16 s, u8 cl, u8 se, u8 dk], .agg true [u8 c1, u8 c2, u8 c3, u16 t0, u16 t1, u16 t2, u16 t3], u8 q] []
      (.tup [(ask ⟨m, s, cl, se, dk⟩ ⟨c1, c2, c3, t0, t1, t2, t3⟩ q).1.v, i64 (ask ⟨m, s, cl, se, dk⟩ ⟨c1, c2, c3, t0, t1, t2, t3⟩ q).2]) := by
  have hq' : q = 0 ∨ q = 1 ∨ q = 2 ∨ q = 3 ∨ 3 < q := by omega
  refine Con.of (C := ⟨Try.prog, tc, Try.f7.ntmps⟩) [] tcok Try.func7 rfl rfl (by kernel_rfl) (by kernel_rfl) ?_
  refine AWP.seq ?_
  refine AWP.regionT tcok hmix [] [2, 3, 4, 6, 7] [3, 4, 6] (os := []) (s' := St.mk [(2, T.plain (u8 q)), (3, T.plain (V.ptr 3 0)), (4, T.plain (V.ptr 4 0)), (6, T.plain (V.ptr 6 0)), (7, T.plain (i64 0))] [(3, Blk.mk [u8 m, u16 s, u8 cl, u8 se, u8 dk] true 5 none), (4, Blk.mk [u8 c1, u8 c2, u8 c3, u16 t0, u16 t1, u16 t2, u16 t3] true 7 none), (6, Blk.mk [u8 0, u16 0, u8 0, u8 0, u8 0] true 5 none)]) (by kernel_rfl) trivial ?_
  refine AWP.seq ?_
  refine AWP.regionT tcok hmix [] [2, 3, 4, 6, 7, 8] [3, 4, 6] (os := []) (s' := St.mk [(2, T.plain (u8 q)), (3, T.plain (V.ptr 3 0)), (4, T.plain (V.ptr 4 0)), (6, T.plain (V.ptr 6 0)), (7, T.plain (i64 0)), (8, T.plain (vb false))] [(3, Blk.mk [u8 m, u16 s, u8 cl, u8 se, u8 dk] true 5 none), (4, Blk.mk [u8 c1, u8 c2, u8 c3, u16 t0, u16 t1, u16 t2, u16 t3] true 7 none), (6, Blk.mk [u8 0, u16 0, u8 0, u8 0, u8 0] true 5 none)]) (by kernel_rfl) trivial ?_
  refine AWP.seq ?_
  refine AWP.seq ?_
  refine AWP.regionT tcok hmix [] [2, 3, 4, 6, 7, 8, 9] [3, 4, 6] (os := []) (s' := St.mk [(2, T.plain (u8 q)), (3, T.plain (V.ptr 3 0)), (4, T.plain (V.ptr 4 0)), (6, T.plain (V.ptr 6 0)), (7, T.plain (i64 0)), (8, T.plain (vb false)), (9, T.plain (u8 q))] [(3, Blk.mk [u8 m, u16 s, u8 cl, u8 se, u8 dk] true 5 none), (4, Blk.mk [u8 c1, u8 c2, u8 c3, u16 t0, u16 t1, u16 t2, u16 t3] true 7 none), (6, Blk.mk [u8 0, u16 0, u8 0, u8 0, u8 0] true 5 none)]) (by kernel_rfl) trivial ?_
  refine AWP.block ?_
  refine AWP.seq ?_
  refine AWP.regionT tcok hmix [] [2, 3, 4, 6, 7, 8, 9, 11] [3, 4, 6] (os := []) (s' := St.mk [(2, T.plain (u8 q)), (3, T.plain (V.ptr 3 0)), (4, T.plain (V.ptr 4 0)), (6, T.plain (V.ptr 6 0)), (7, T.plain (i64 0)), (8, T.plain (vb false)), (9, T.plain (u8 q)), (11, T.plain (vb (q == 0)))] [(3, Blk.mk [u8 m, u16 s, u8 cl, u8 se, u8 dk] true 5 none), (4, Blk.mk [u8 c1, u8 c2, u8 c3, u16 t0, u16 t1, u16 t2, u16 t3] true 7 none), (6, Blk.mk [u8 0, u16 0, u8 0, u8 0, u8 0] true 5 none)]) (by kernel_rfl) trivial ?_
  refine AWP.cond (b := q == 0) (by kernel_rfl) (fun hq7 => ?_) (fun hq7 => ?_)
  · try simp only [Bool.or_false, Bool.false_or, Bool.true_and, Bool.and_true, decide_eq_true_eq, decide_eq_false_iff_not, Bool.and_eq_true, Bool.or_eq_true, Bool.or_eq_false_iff, Bool.not_eq_true', Bool.and_eq_false_iff, beq_iff_eq, bne_iff_ne, beq_eq_false_iff_ne, Bool.not_eq_false'] at hq7
    refine AWP.seq ?_
    refine AWP.regionT tcok hmix [(1, ⟨none, some ⟨Au.v Au.zero, [], []⟩⟩)] [2, 3, 6, 7, 8] [3, 6] (os := [Con Try.prog 11 [] [V.agg true [u8 m, u16 s, u8 cl, u8 se, u8 dk]] [] (V.agg true [u8 0, u16 0, u8 0, u8 0, u8 0])]) (s' := St.mk [(2, T.plain (u8 q)), (3, T.plain (V.ptr 3 0)), (6, T.plain (V.ptr 6 0)), (7, T.plain (i64 0)), (8, T.plain (vb false))] [(3, Blk.mk [u8 m, u16 s, u8 cl, u8 se, u8 dk] true 5 none), (6, Blk.mk [u8 0, u16 0, u8 0, u8 0, u8 0] true 5 none)]) (by kernel_rfl) ⟨(Go.Proofs.Ytklbonfbiakebaa.con_fall (m) (s) (cl) (se) (dk)), trivial⟩ ?_
    refine AWP.ret ?_
    refine ⟨Or.inr rfl, Eq.trans (b := some ([], V.tup [V.agg true [u8 0, u16 0, u8 0, u8 0, u8 0], i64 0])) (by kernel_rfl) ?_⟩
    (rcases hq' with rfl | rfl | rfl | rfl | hq' <;> rcases h with rfl | rfl | rfl | rfl <;> first | (exfalso; omega) | (simp [ask, Au.zero, Au.at]; done) | (simp [ask, Au.zero, Au.at, *]; done) | (simp [ask, Au.zero, Au.at, show ¬ c2 ≤ se by omega]; done) | (simp [ask, Au.zero, Au.at, show ¬ q = 0 by omega, hq']; done))
  try simp only [Bool.or_false, Bool.false_or, Bool.true_and, Bool.and_true, decide_eq_true_eq, decide_eq_false_iff_not, Bool.and_eq_true, Bool.or_eq_true, Bool.or_eq_false_iff, Bool.not_eq_true', Bool.and_eq_false_iff, beq_iff_eq, bne_iff_ne, beq_eq_false_iff_ne, Bool.not_eq_false'] at hq7
  refine AWP.seq ?_
  refine AWP.regionT tcok hmix [] [2, 3, 4, 6, 7, 8, 9, 15] [3, 4, 6] (os := []) (s' := St.mk [(2, T.plain (u8 q)), (3, T.plain (V.ptr 3 0)), (4, T.plain (V.ptr 4 0)), (6, T.plain (V.ptr 6 0)), (7, T.plain (i64 0)), (8, T.plain (vb false)), (9, T.plain (u8 q)), (15, T.plain (vb (q == 1)))] [(3, Blk.mk [u8 m, u16 s, u8 cl, u8 se, u8 dk] true 5 none), (4, Blk.mk [u8 c1, u8 c2, u8 c3, u16 t0, u16 t1, u16 t2, u16 t3] true 7 none), (6, Blk.mk [u8 0, u16 0, u8 0, u8 0, u8 0] true 5 none)]) (by kernel_rfl) trivial ?_
  refine AWP.cond (b := q == 1) (by kernel_rfl) (fun hq8 => ?_) (fun hq8 => ?_)
  · try simp only [Bool.or_false, Bool.false_or, Bool.true_and, Bool.and_true, decide_eq_true_eq, decide_eq_false_iff_not, Bool.and_eq_true, Bool.or_eq_true, Bool.or_eq_false_iff, Bool.not_eq_true', Bool.and_eq_false_iff, beq_iff_eq, bne_iff_ne, beq_eq_false_iff_ne, Bool.not_eq_false'] at hq8
    refine AWP.region tcok hmix [] (os := []) (sf := St.mk [(2, T.plain (u8 q)), (3, T.plain (V.ptr 3 0)), (4, T.plain (V.ptr 4 0)), (6, T.plain (V.ptr 6 0)), (7, T.plain (i64 0)), (8, T.plain (vb (m == 0))), (9, T.plain (u8 q)), (15, T.plain (vb (q == 1))), (17, T.plain (V.ptr 3 0)), (18, T.plain (u8 m)), (19, T.plain (vb (m == 0)))] [(3, Blk.mk [u8 m, u16 s, u8 cl, u8 se, u8 dk] true 5 none), (4, Blk.mk [u8 c1, u8 c2, u8 c3, u16 t0, u16 t1, u16 t2, u16 t3] true 7 none), (6, Blk.mk [u8 0, u16 0, u8 0, u8 0, u8 0] true 5 none)]) (by kernel_rfl) trivial ?_
    refine AWP.keep' [2, 3, 6, 7, 8] [3, 6] (sf := St.mk [(2, T.plain (u8 q)), (3, T.plain (V.ptr 3 0)), (6, T.plain (V.ptr 6 0)), (7, T.plain (i64 0)), (8, T.plain (vb (m == 0)))] [(3, Blk.mk [u8 m, u16 s, u8 cl, u8 se, u8 dk] true 5 none), (6, Blk.mk [u8 0, u16 0, u8 0, u8 0, u8 0] true 5 none)]) (by kernel_rfl) ?_
    refine AWP.seq ?_
    refine AWP.block ?_
    refine AWP.seq ?_
    refine AWP.regionT tcok hmix [(0, ⟨some (u8 1), none⟩)] [2, 3, 6, 7, 8, 42] [3, 6] (os := [u8 q = u8 1]) (s' := St.mk [(2, T.plain (u8 q)), (3, T.plain (V.ptr 3 0)), (6, T.plain (V.ptr 6 0)), (7, T.plain (i64 0)), (8, T.plain (vb (m == 0))), (42, T.plain (vb (1 == m)))] [(3, Blk.mk [u8 m, u16 s, u8 cl, u8 se, u8 dk] true 5 none), (6, Blk.mk [u8 0, u16 0, u8 0, u8 0, u8 0] true 5 none)]) (by kernel_rfl) ⟨(in_eq hq8), trivial⟩ ?_
    refine AWP.cond (b := 1 == m) (by kernel_rfl) (fun hq9 => ?_) (fun hq9 => ?_)
    · try simp only [Bool.or_false, Bool.false_or, Bool.true_and, Bool.and_true, decide_eq_true_eq, decide_eq_false_iff_not, Bool.and_eq_true, Bool.or_eq_true, Bool.or_eq_false_iff, Bool.not_eq_true', Bool.and_eq_false_iff, beq_iff_eq, bne_iff_ne, beq_eq_false_iff_ne, Bool.not_eq_false'] at hq9
      refine AWP.seq ?_
      refine AWP.regionT tcok hmix [] [2, 6, 7] [6] (os := []) (s' := St.mk [(2, T.plain (u8 q)), (6, T.plain (V.ptr 6 0)), (7, T.plain (i64 0))] [(6, Blk.mk [u8 m, u16 s, u8 cl, u8 se, u8 dk] true 5 none)]) (by kernel_rfl) trivial ?_
      refine AWP.ret ?_
      refine ⟨Or.inr rfl, Eq.trans (b := some ([], V.tup [V.agg true [u8 m, u16 s, u8 cl, u8 se, u8 dk], i64 0])) (by kernel_rfl) ?_⟩
      (rcases hq' with rfl | rfl | rfl | rfl | hq' <;> rcases h with rfl | rfl | rfl | rfl <;> first | (exfalso; omega) | (simp [ask, Au.zero, Au.at]; done) | (simp [ask, Au.zero, Au.at, *]; done) | (simp [ask, Au.zero, Au.at, show ¬ c2 ≤ se by omega]; done) | (simp [ask, Au.zero, Au.at, show ¬ q = 0 by omega, hq']; done))
    try simp only [Bool.or_false, Bool.false_or, Bool.true_and, Bool.and_true, decide_eq_true_eq, decide_eq_false_iff_not, Bool.and_eq_true, Bool.or_eq_true, Bool.or_eq_false_iff, Bool.not_eq_true', Bool.and_eq_false_iff, beq_iff_eq, bne_iff_ne, beq_eq_false_iff_ne, Bool.not_eq_false'] at hq9
    refine AWP.seq ?_
    refine AWP.regionT tcok hmix [] [2, 3, 6, 7, 48] [3, 6] (os := []) (s' := St.mk [(2, T.plain (u8 q)), (3, T.plain (V.ptr 3 0)), (6, T.plain (V.ptr 6 0)), (7, T.plain (i64 0)), (48, T.plain (vb !m == 0))] [(3, Blk.mk [u8 m, u16 s, u8 cl, u8 se, u8 dk] true 5 none), (6, Blk.mk [u8 0, u16 0, u8 0, u8 0, u8 0] true 5 none)]) (by kernel_rfl) trivial ?_
    refine AWP.cond (b := !m == 0) (by kernel_rfl) (fun hq10 => ?_) (fun hq10 => ?_)
    · try simp only [Bool.or_false, Bool.false_or, Bool.true_and, Bool.and_true, decide_eq_true_eq, decide_eq_false_iff_not, Bool.and_eq_true, Bool.or_eq_true, Bool.or_eq_false_iff, Bool.not_eq_true', Bool.and_eq_false_iff, beq_iff_eq, bne_iff_ne, beq_eq_false_iff_ne, Bool.not_eq_false'] at hq10
      refine AWP.seq ?_
      refine AWP.regionT tcok hmix [] [2, 6, 7] [6] (os := []) (s' := St.mk [(2, T.plain (u8 q)), (6, T.plain (V.ptr 6 0)), (7, T.plain (i64 7))] [(6, Blk.mk [u8 m, u16 s, u8 cl, u8 se, u8 dk] true 5 none)]) (by kernel_rfl) trivial ?_
      refine AWP.ret ?_
      refine ⟨Or.inr rfl, Eq.trans (b := some ([], V.tup [V.agg true [u8 m, u16 s, u8 cl, u8 se, u8 dk], i64 7])) (by kernel_rfl) ?_⟩
      (rcases hq' with rfl | rfl | rfl | rfl | hq' <;> rcases h with rfl | rfl | rfl | rfl <;> first | (exfalso; omega) | (simp [ask, Au.zero, Au.at]; done) | (simp [ask, Au.zero, Au.at, *]; done) | (simp [ask, Au.zero, Au.at, show ¬ c2 ≤ se by omega]; done) | (simp [ask, Au.zero, Au.at, show ¬ q = 0 by omega, hq']; done))
    try simp only [Bool.or_false, Bool.false_or, Bool.true_and, Bool.and_true, decide_eq_true_eq, decide_eq_false_iff_not, Bool.and_eq_true, Bool.or_eq_true, Bool.or_eq_false_iff, Bool.not_eq_true', Bool.and_eq_false_iff, beq_iff_eq, bne_iff_ne, beq_eq_false_iff_ne, Bool.not_eq_false'] at hq10
    refine AWP.skip ?_
    refine AWP.seq ?_
    refine AWP.regionT tcok hmix [(0, ⟨some (u8 1), none⟩)] [6, 7] [6] (os := [u8 q = u8 1]) (s' := St.mk [(6, T.plain (V.ptr 6 0)), (7, T.plain (i64 0))] [(6, Blk.mk [u8 1, u16 0, u8 0, u8 0, u8 0] true 5 none)]) (by kernel_rfl) ⟨(in_eq hq8), trivial⟩ ?_
    refine AWP.ret ?_
    refine ⟨Or.inr rfl, Eq.trans (b := some ([], V.tup [V.agg true [u8 1, u16 0, u8 0, u8 0, u8 0], i64 0])) (by kernel_rfl) ?_⟩
    (rcases hq' with rfl | rfl | rfl | rfl | hq' <;> rcases h with rfl | rfl | rfl | rfl <;> first | (exfalso; omega) | (simp [ask, Au.zero, Au.at]; done) | (simp [ask, Au.zero, Au.at, *]; done) | (simp [ask, Au.zero, Au.at, show ¬ c2 ≤ se by omega]; done) | (simp [ask, Au.zero, Au.at, show ¬ q = 0 by omega, hq']; done))
  try simp only [Bool.or_false, Bool.false_or, Bool.true_and, Bool.and_true, decide_eq_true_eq, decide_eq_false_iff_not, Bool.and_eq_true, Bool.or_eq_true, Bool.or_eq_false_iff, Bool.not_eq_true', Bool.and_eq_false_iff, beq_iff_eq, bne_iff_ne, beq_eq_false_iff_ne, Bool.not_eq_false'] at hq8
  refine AWP.seq ?_
  refine AWP.regionT tcok hmix [] [2, 3, 4, 6, 7, 8, 9, 20] [3, 4, 6] (os := []) (s' := St.mk [(2, T.plain (u8 q)), (3, T.plain (V.ptr 3 0)), (4, T.plain (V.ptr 4 0)), (6, T.plain (V.ptr 6 0)), (7, T.plain (i64 0)), (8, T.plain (vb false)), (9, T.plain (u8 q)), (20, T.plain (vb (q == 2)))] [(3, Blk.mk [u8 m, u16 s, u8 cl, u8 se, u8 dk] true 5 none), (4, Blk.mk [u8 c1, u8 c2, u8 c3, u16 t0, u16 t1, u16 t2, u16 t3] true 7 none), (6, Blk.mk [u8 0, u16 0, u8 0, u8 0, u8 0] true 5 none)]) (by kernel_rfl) trivial ?_
  refine AWP.cond (b := q == 2) (by kernel_rfl) (fun hq11 => ?_) (fun hq11 => ?_)
  · try simp only [Bool.or_false, Bool.false_or, Bool.true_and, Bool.and_true, decide_eq_true_eq, decide_eq_false_iff_not, Bool.and_eq_true, Bool.or_eq_true, Bool.or_eq_false_iff, Bool.not_eq_true', Bool.and_eq_false_iff, beq_iff_eq, bne_iff_ne, beq_eq_false_iff_ne, Bool.not_eq_false'] at hq11
    refine AWP.region tcok hmix [] (os := []) (sf := St.mk [(2, T.plain (u8 q)), (3, T.plain (V.ptr 3 0)), (4, T.plain (V.ptr 4 0)), (6, T.plain (V.ptr 6 0)), (7, T.plain (i64 0)), (8, T.plain (vb (m == 1 || m == 3))), (9, T.plain (u8 q)), (20, T.plain (vb (q == 2))), (22, T.plain (V.ptr 3 0)), (23, T.plain (u8 m)), (24, T.plain (vb (m == 1))), (25, T.plain (vb (m == 1))), (26, T.gd 25 false (V.ptr 3 0)), (27, T.gd 25 false (u8 m)), (28, T.gd 25 false (vb (m == 3))), (29, T.plain (vb (m == 1 || m == 3)))] [(3, Blk.mk [u8 m, u16 s, u8 cl, u8 se, u8 dk] true 5 none), (4, Blk.mk [u8 c1, u8 c2, u8 c3, u16 t0, u16 t1, u16 t2, u16 t3] true 7 none), (6, Blk.mk [u8 0, u16 0, u8 0, u8 0, u8 0] true 5 none)]) (by kernel_rfl) trivial ?_
    refine AWP.keep' [2, 3, 6, 7, 8] [3, 6] (sf := St.mk [(2, T.plain (u8 q)), (3, T.plain (V.ptr 3 0)), (6, T.plain (V.ptr 6 0)), (7, T.plain (i64 0)), (8, T.plain (vb (m == 1 || m == 3)))] [(3, Blk.mk [u8 m, u16 s, u8 cl, u8 se, u8 dk] true 5 none), (6, Blk.mk [u8 0, u16 0, u8 0, u8 0, u8 0] true 5 none)]) (by kernel_rfl) ?_
    refine AWP.seq ?_
    refine AWP.block ?_
    refine AWP.seq ?_
    refine AWP.regionT tcok hmix [(0, ⟨some (u8 2), none⟩)] [2, 3, 6, 7, 8, 42] [3, 6] (os := [u8 q = u8 2]) (s' := St.mk [(2, T.plain (u8 q)), (3, T.plain (V.ptr 3 0)), (6, T.plain (V.ptr 6 0)), (7, T.plain (i64 0)), (8, T.plain (vb (m == 1 || m == 3))), (42, T.plain (vb (2 == m)))] [(3, Blk.mk [u8 m, u16 s, u8 cl, u8 se, u8 dk] true 5 none), (6, Blk.mk [u8 0, u16 0, u8 0, u8 0, u8 0] true 5 none)]) (by kernel_rfl) ⟨(in_eq hq11), trivial⟩ ?_
    refine AWP.cond (b := 2 == m) (by kernel_rfl) (fun hq12 => ?_) (fun hq12 => ?_)
    · try simp only [Bool.or_false, Bool.false_or, Bool.true_and, Bool.and_true, decide_eq_true_eq, decide_eq_false_iff_not, Bool.and_eq_true, Bool.or_eq_true, Bool.or_eq_false_iff, Bool.not_eq_true', Bool.and_eq_false_iff, beq_iff_eq, bne_iff_ne, beq_eq_false_iff_ne, Bool.not_eq_false'] at hq12
      refine AWP.seq ?_
      refine AWP.regionT tcok hmix [] [2, 6, 7] [6] (os := []) (s' := St.mk [(2, T.plain (u8 q)), (6, T.plain (V.ptr 6 0)), (7, T.plain (i64 0))] [(6, Blk.mk [u8 m, u16 s, u8 cl, u8 se, u8 dk] true 5 none)]) (by kernel_rfl) trivial ?_
      refine AWP.ret ?_
      refine ⟨Or.inr rfl, Eq.trans (b := some ([], V.tup [V.agg true [u8 m, u16 s, u8 cl, u8 se, u8 dk], i64 0])) (by kernel_rfl) ?_⟩
      (rcases hq' with rfl | rfl | rfl | rfl | hq' <;> rcases h with rfl | rfl | rfl | rfl <;> first | (exfalso; omega) | (simp [ask, Au.zero, Au.at]; done) | (simp [ask, Au.zero, Au.at, *]; done) | (simp [ask, Au.zero, Au.at, show ¬ c2 ≤ se by omega]; done) | (simp [ask, Au.zero, Au.at, show ¬ q = 0 by omega, hq']; done))
    try simp only [Bool.or_false, Bool.false_or, Bool.true_and, Bool.and_true, decide_eq_true_eq, decide_eq_false_iff_not, Bool.and_eq_true, Bool.or_eq_true, Bool.or_eq_false_iff, Bool.not_eq_true', Bool.and_eq_false_iff, beq_iff_eq, bne_iff_ne, beq_eq_false_iff_ne, Bool.not_eq_false'] at hq12
    refine AWP.seq ?_
    refine AWP.regionT tcok hmix [] [2, 3, 6, 7, 48] [3, 6] (os := []) (s' := St.mk [(2, T.plain (u8 q)), (3, T.plain (V.ptr 3 0)), (6, T.plain (V.ptr 6 0)), (7, T.plain (i64 0)), (48, T.plain (vb !(m == 1 || m == 3)))] [(3, Blk.mk [u8 m, u16 s, u8 cl, u8 se, u8 dk] true 5 none), (6, Blk.mk [u8 0, u16 0, u8 0, u8 0, u8 0] true 5 none)]) (by kernel_rfl) trivial ?_
    refine AWP.cond (b := !(m == 1 || m == 3)) (by kernel_rfl) (fun hq13 => ?_) (fun hq13 => ?_)
    · try simp only [Bool.or_false, Bool.false_or, Bool.true_and, Bool.and_true, decide_eq_true_eq, decide_eq_false_iff_not, Bool.and_eq_true, Bool.or_eq_true, Bool.or_eq_false_iff, Bool.not_eq_true', Bool.and_eq_false_iff, beq_iff_eq, bne_iff_ne, beq_eq_false_iff_ne, Bool.not_eq_false'] at hq13
      refine AWP.seq ?_
      refine AWP.regionT tcok hmix [] [2, 6, 7] [6] (os := []) (s' := St.mk [(2, T.plain (u8 q)), (6, T.plain (V.ptr 6 0)), (7, T.plain (i64 7))] [(6, Blk.mk [u8 m, u16 s, u8 cl, u8 se, u8 dk] true 5 none)]) (by kernel_rfl) trivial ?_
      refine AWP.ret ?_
      refine ⟨Or.inr rfl, Eq.trans (b := some ([], V.tup [V.agg true [u8 m, u16 s, u8 cl, u8 se, u8 dk], i64 7])) (by kernel_rfl) ?_⟩
      (rcases hq' with rfl | rfl | rfl | rfl | hq' <;> rcases h with rfl | rfl | rfl | rfl <;> first | (exfalso; omega) | (simp [ask, Au.zero, Au.at]; done) | (simp [ask, Au.zero, Au.at, *]; done) | (simp [ask, Au.zero, Au.at, show ¬ c2 ≤ se by omega]; done) | (simp [ask, Au.zero, Au.at, show ¬ q = 0 by omega, hq']; done))
    try simp only [Bool.or_false, Bool.false_or, Bool.true_and, Bool.and_true, decide_eq_true_eq, decide_eq_false_iff_not, Bool.and_eq_true, Bool.or_eq_true, Bool.or_eq_false_iff, Bool.not_eq_true', Bool.and_eq_false_iff, beq_iff_eq, bne_iff_ne, beq_eq_false_iff_ne, Bool.not_eq_false'] at hq13
    refine AWP.skip ?_
    refine AWP.seq ?_
    refine AWP.regionT tcok hmix [(0, ⟨some (u8 2), none⟩)] [6, 7] [6] (os := [u8 q = u8 2]) (s' := St.mk [(6, T.plain (V.ptr 6 0)), (7, T.plain (i64 0))] [(6, Blk.mk [u8 2, u16 0, u8 0, u8 0, u8 0] true 5 none)]) (by kernel_rfl) ⟨(in_eq hq11), trivial⟩ ?_
    refine AWP.ret ?_
    refine ⟨Or.inr rfl, Eq.trans (b := some ([], V.tup [V.agg true [u8 2, u16 0, u8 0, u8 0, u8 0], i64 0])) (by kernel_rfl) ?_⟩
    (rcases hq' with rfl | rfl | rfl | rfl | hq' <;> rcases h with rfl | rfl | rfl | rfl <;> first | (exfalso; omega) | (simp [ask, Au.zero, Au.at]; done) | (simp [ask, Au.zero, Au.at, *]; done) | (simp [ask, Au.zero, Au.at, show ¬ c2 ≤ se by omega]; done) | (simp [ask, Au.zero, Au.at, show ¬ q = 0 by omega, hq']; done))
  try simp only [Bool.or_false, Bool.false_or, Bool.true_and, Bool.and_true, decide_eq_true_eq, decide_eq_false_iff_not, Bool.and_eq_true, Bool.or_eq_true, Bool.or_eq_false_iff, Bool.not_eq_true', Bool.and_eq_false_iff, beq_iff_eq, bne_iff_ne, beq_eq_false_iff_ne, Bool.not_eq_false'] at hq11
  refine AWP.seq ?_
  refine AWP.regionT tcok hmix [] [2, 3, 4, 6, 7, 8, 30] [3, 4, 6] (os := []) (s' := St.mk [(2, T.plain (u8 q)), (3, T.plain (V.ptr 3 0)), (4, T.plain (V.ptr 4 0)), (6, T.plain (V.ptr 6 0)), (7, T.plain (i64 0)), (8, T.plain (vb false)), (30, T.plain (vb (q == 3)))] [(3, Blk.mk [u8 m, u16 s, u8 cl, u8 se, u8 dk] true 5 none), (4, Blk.mk [u8 c1, u8 c2, u8 c3, u16 t0, u16 t1, u16 t2, u16 t3] true 7 none), (6, Blk.mk [u8 0, u16 0, u8 0, u8 0, u8 0] true 5 none)]) (by kernel_rfl) trivial ?_
  refine AWP.cond (b := q == 3) (by kernel_rfl) (fun hq14 => ?_) (fun hq14 => ?_)
  · try simp only [Bool.or_false, Bool.false_or, Bool.true_and, Bool.and_true, decide_eq_true_eq, decide_eq_false_iff_not, Bool.and_eq_true, Bool.or_eq_true, Bool.or_eq_false_iff, Bool.not_eq_true', Bool.and_eq_false_iff, beq_iff_eq, bne_iff_ne, beq_eq_false_iff_ne, Bool.not_eq_false'] at hq14
    refine AWP.region tcok hmix [] (os := []) (sf := St.mk [(2, T.plain (u8 q)), (3, T.plain (V.ptr 3 0)), (4, T.plain (V.ptr 4 0)), (6, T.plain (V.ptr 6 0)), (7, T.plain (i64 0)), (8, T.plain (vb (m == 2 && decide (se ≥ c2)))), (30, T.plain (vb (q == 3))), (32, T.plain (V.ptr 3 0)), (33, T.plain (u8 m)), (34, T.plain (vb (m == 2))), (35, T.plain (vb (m == 2))), (36, T.gd 35 true (V.ptr 3 3)), (37, T.gd 35 true (u8 se)), (38, T.gd 35 true (V.ptr 4 1)), (39, T.gd 35 true (u8 c2)), (40, T.gd 35 true (vb (decide (se ≥ c2)))), (41, T.plain (vb (m == 2 && decide (se ≥ c2))))] [(3, Blk.mk [u8 m, u16 s, u8 cl, u8 se, u8 dk] true 5 none), (4, Blk.mk [u8 c1, u8 c2, u8 c3, u16 t0, u16 t1, u16 t2, u16 t3] true 7 none), (6, Blk.mk [u8 0, u16 0, u8 0, u8 0, u8 0] true 5 none)]) (by kernel_rfl) trivial ?_
    refine AWP.keep' [2, 3, 6, 7, 8] [3, 6] (sf := St.mk [(2, T.plain (u8 q)), (3, T.plain (V.ptr 3 0)), (6, T.plain (V.ptr 6 0)), (7, T.plain (i64 0)), (8, T.plain (vb (m == 2 && decide (se ≥ c2))))] [(3, Blk.mk [u8 m, u16 s, u8 cl, u8 se, u8 dk] true 5 none), (6, Blk.mk [u8 0, u16 0, u8 0, u8 0, u8 0] true 5 none)]) (by kernel_rfl) ?_
    refine AWP.seq ?_
    refine AWP.block ?_
    refine AWP.seq ?_
    refine AWP.regionT tcok hmix [(0, ⟨some (u8 3), none⟩)] [2, 3, 6, 7, 8, 42] [3, 6] (os := [u8 q = u8 3]) (s' := St.mk [(2, T.plain (u8 q)), (3, T.plain (V.ptr 3 0)), (6, T.plain (V.ptr 6 0)), (7, T.plain (i64 0)), (8, T.plain (vb (m == 2 && decide (se ≥ c2)))), (42, T.plain (vb (3 == m)))] [(3, Blk.mk [u8 m, u16 s, u8 cl, u8 se, u8 dk] true 5 none), (6, Blk.mk [u8 0, u16 0, u8 0, u8 0, u8 0] true 5 none)]) (by kernel_rfl) ⟨(in_eq hq14), trivial⟩ ?_
    refine AWP.cond (b := 3 == m) (by kernel_rfl) (fun hq15 => ?_) (fun hq15 => ?_)
    · try simp only [Bool.or_false, Bool.false_or, Bool.true_and, Bool.and_true, decide_eq_true_eq, decide_eq_false_iff_not, Bool.and_eq_true, Bool.or_eq_true, Bool.or_eq_false_iff, Bool.not_eq_true', Bool.and_eq_false_iff, beq_iff_eq, bne_iff_ne, beq_eq_false_iff_ne, Bool.not_eq_false'] at hq15
      refine AWP.seq ?_
      refine AWP.regionT tcok hmix [] [2, 6, 7] [6] (os := []) (s' := St.mk [(2, T.plain (u8 q)), (6, T.plain (V.ptr 6 0)), (7, T.plain (i64 0))] [(6, Blk.mk [u8 m, u16 s, u8 cl, u8 se, u8 dk] true 5 none)]) (by kernel_rfl) trivial ?_
      refine AWP.ret ?_
      refine ⟨Or.inr rfl, Eq.trans (b := some ([], V.tup [V.agg true [u8 m, u16 s, u8 cl, u8 se, u8 dk], i64 0])) (by kernel_rfl) ?_⟩
      (rcases hq' with rfl | rfl | rfl | rfl | hq' <;> rcases h with rfl | rfl | rfl | rfl <;> first | (exfalso; omega) | (simp [ask, Au.zero, Au.at]; done) | (simp [ask, Au.zero, Au.at, *]; done) | (simp [ask, Au.zero, Au.at, show ¬ c2 ≤ se by omega]; done) | (simp [ask, Au.zero, Au.at, show ¬ q = 0 by omega, hq']; done))
    try simp only [Bool.or_false, Bool.false_or, Bool.true_and, Bool.and_true, decide_eq_true_eq, decide_eq_false_iff_not, Bool.and_eq_true, Bool.or_eq_true, Bool.or_eq_false_iff, Bool.not_eq_true', Bool.and_eq_false_iff, beq_iff_eq, bne_iff_ne, beq_eq_false_iff_ne, Bool.not_eq_false'] at hq15
    refine AWP.seq ?_
    refine AWP.regionT tcok hmix [] [2, 3, 6, 7, 48] [3, 6] (os := []) (s' := St.mk [(2, T.plain (u8 q)), (3, T.plain (V.ptr 3 0)), (6, T.plain (V.ptr 6 0)), (7, T.plain (i64 0)), (48, T.plain (vb !(m == 2 && decide (se ≥ c2))))] [(3, Blk.mk [u8 m, u16 s, u8 cl, u8 se, u8 dk] true 5 none), (6, Blk.mk [u8 0, u16 0, u8 0, u8 0, u8 0] true 5 none)]) (by kernel_rfl) trivial ?_
    refine AWP.cond (b := !(m == 2 && decide (se ≥ c2))) (by kernel_rfl) (fun hq16 => ?_) (fun hq16 => ?_)
    · try simp only [Bool.or_false, Bool.false_or, Bool.true_and, Bool.and_true, decide_eq_true_eq, decide_eq_false_iff_not, Bool.and_eq_true, Bool.or_eq_true, Bool.or_eq_false_iff, Bool.not_eq_true', Bool.and_eq_false_iff, beq_iff_eq, bne_iff_ne, beq_eq_false_iff_ne, Bool.not_eq_false'] at hq16
      refine AWP.seq ?_
      refine AWP.regionT tcok hmix [] [2, 6, 7] [6] (os := []) (s' := St.mk [(2, T.plain (u8 q)), (6, T.plain (V.ptr 6 0)), (7, T.plain (i64 7))] [(6, Blk.mk [u8 m, u16 s, u8 cl, u8 se, u8 dk] true 5 none)]) (by kernel_rfl) trivial ?_
      refine AWP.ret ?_
      refine ⟨Or.inr rfl, Eq.trans (b := some ([], V.tup [V.agg true [u8 m, u16 s, u8 cl, u8 se, u8 dk], i64 7])) (by kernel_rfl) ?_⟩
      (rcases hq' with rfl | rfl | rfl | rfl | hq' <;> rcases h with rfl | rfl | rfl | rfl <;> first | (exfalso; omega) | (simp [ask, Au.zero, Au.at]; done) | (simp [ask, Au.zero, Au.at, *]; done) | (simp [ask, Au.zero, Au.at, show ¬ c2 ≤ se by omega]; done) | (simp [ask, Au.zero, Au.at, show ¬ q = 0 by omega, hq']; done))
    try simp only [Bool.or_false, Bool.false_or, Bool.true_and, Bool.and_true, decide_eq_true_eq, decide_eq_false_iff_not, Bool.and_eq_true, Bool.or_eq_true, Bool.or_eq_false_iff, Bool.not_eq_true', Bool.and_eq_false_iff, beq_iff_eq, bne_iff_ne, beq_eq_false_iff_ne, Bool.not_eq_false'] at hq16
    refine AWP.skip ?_
    refine AWP.seq ?_
    refine AWP.regionT tcok hmix [(0, ⟨some (u8 3), none⟩)] [6, 7] [6] (os := [u8 q = u8 3]) (s' := St.mk [(6, T.plain (V.ptr 6 0)), (7, T.plain (i64 0))] [(6, Blk.mk [u8 3, u16 0, u8 0, u8 0, u8 0] true 5 none)]) (by kernel_rfl) ⟨(in_eq hq14), trivial⟩ ?_
    refine AWP.ret ?_
    refine ⟨Or.inr rfl, Eq.trans (b := some ([], V.tup [V.agg true [u8 3, u16 0, u8 0, u8 0, u8 0], i64 0])) (by kernel_rfl) ?_⟩
    (rcases hq' with rfl | rfl | rfl | rfl | hq' <;> rcases h with rfl | rfl | rfl | rfl <;> first | (exfalso; omega) | (simp [ask, Au.zero, Au.at]; done) | (simp [ask, Au.zero, Au.at, *]; done) | (simp [ask, Au.zero, Au.at, show ¬ c2 ≤ se by omega]; done) | (simp [ask, Au.zero, Au.at, show ¬ q = 0 by omega, hq']; done))
  try simp only [Bool.or_false, Bool.false_or, Bool.true_and, Bool.and_true, decide_eq_true_eq, decide_eq_false_iff_not, Bool.and_eq_true, Bool.or_eq_true, Bool.or_eq_false_iff, Bool.not_eq_true', Bool.and_eq_false_iff, beq_iff_eq, bne_iff_ne, beq_eq_false_iff_ne, Bool.not_eq_false'] at hq14
  refine AWP.seq ?_
  refine AWP.regionT tcok hmix [] [2, 3, 6, 7, 8] [3, 6] (os := []) (s' := St.mk [(2, T.plain (u8 q)), (3, T.plain (V.ptr 3 0)), (6, T.plain (V.ptr 6 0)), (7, T.plain (i64 1)), (8, T.plain (vb false))] [(3, Blk.mk [u8 m, u16 s, u8 cl, u8 se, u8 dk] true 5 none), (6, Blk.mk [u8 m, u16 s, u8 cl, u8 se, u8 dk] true 5 none)]) (by kernel_rfl) trivial ?_
  refine AWP.ret ?_
  refine ⟨Or.inr rfl, Eq.trans (b := some ([], V.tup [V.agg true [u8 m, u16 s, u8 cl, u8 se, u8 dk], i64 1])) (by kernel_rfl) ?_⟩
  (rcases hq' with rfl | rfl | rfl | rfl | hq' <;> rcases h with rfl | rfl | rfl | rfl <;> first | (exfalso; omega) | (simp [ask, Au.zero, Au.at]; done) | (simp [ask, Au.zero, Au.at, *]; done) | (simp [ask, Au.zero, Au.at, show ¬ c2 ≤ se by omega]; done) | (simp [ask, Au.zero, Au.at, show ¬ q = 0 by omega, hq']; done))
def up (n k : Int) : Int := if n < k then n + 1 else n
theorem up_bd (n k : Int) (h0 : 0 ≤ n) (h : n ≤ k) : 0 ≤ up n k ∧ up n k ≤ k := by unfold up; split <;> omega
theorem since_up (s : Int) : since s = up s 65535 := rfl
theorem more_up (n : Int) (is : Bool) : more n is = if is then up n 255 else 0 := rfl
theorem con_up (n k : Int) (h : 0 ≤ n) (h1 : n ≤ k) (h2 : k < 100000) : Con Try.prog 16 [] [i64 n, i64 k] [] (i64 (up n k)) := by
  refine Con.of (C := ⟨Try.prog, tc, Try.f16.ntmps⟩) [] tcok Try.func16 rfl rfl (by kernel_rfl) (by kernel_rfl) ?_
  refine AWP.seq ?_
  refine AWP.regionT tcok hmix [] [0, 1, 4] [] (os := []) (s' := St.mk [(0, T.plain (i64 n)), (1, T.plain (i64 k)), (4, T.plain (i64 0))] []) (by kernel_rfl) trivial ?_
  refine AWP.seq ?_
  refine AWP.seq ?_
  refine AWP.regionT tcok hmix [] [0, 4, 7] [] (os := []) (s' := St.mk [(0, T.plain (i64 n)), (4, T.plain (i64 0)), (7, T.plain (vb (decide (n < k))))] []) (by kernel_rfl) trivial ?_
  refine AWP.cond (b := decide (n < k)) (by kernel_rfl) (fun hq17 => ?_) (fun hq17 => ?_)
  · try simp only [Bool.or_false, Bool.false_or, Bool.true_and, Bool.and_true, decide_eq_true_eq, decide_eq_false_iff_not, Bool.and_eq_true, Bool.or_eq_true, Bool.or_eq_false_iff, Bool.not_eq_true', Bool.and_eq_false_iff, beq_iff_eq, bne_iff_ne, beq_eq_false_iff_ne, Bool.not_eq_false'] at hq17
    refine AWP.seq ?_
    refine AWP.regionT tcok hmix [(1, ⟨some (i64 (n + 1)), none⟩)] [0, 4] [] (os := [i64 (IntKind.wrap IntKind.i64 (n + 1)) = i64 (n + 1)]) (s' := St.mk [(0, T.plain (i64 n)), (4, T.plain (i64 (n + 1)))] []) (by kernel_rfl) ⟨(wr_i64 (by omega) (by omega)), trivial⟩ ?_
    refine AWP.ret ?_
    refine ⟨Or.inr rfl, Eq.trans (b := some ([], i64 (n + 1))) (by kernel_rfl) ?_⟩
    (simp [up, *])
  try simp only [Bool.or_false, Bool.false_or, Bool.true_and, Bool.and_true, decide_eq_true_eq, decide_eq_false_iff_not, Bool.and_eq_true, Bool.or_eq_true, Bool.or_eq_false_iff, Bool.not_eq_true', Bool.and_eq_false_iff, beq_iff_eq, bne_iff_ne, beq_eq_false_iff_ne, Bool.not_eq_false'] at hq17
  refine AWP.skip ?_
  refine AWP.seq ?_
  refine AWP.regionT tcok hmix [] [4] [] (os := []) (s' := St.mk [(4, T.plain (i64 n))] []) (by kernel_rfl) trivial ?_
  refine AWP.ret ?_
  refine ⟨Or.inr rfl, Eq.trans (b := some ([], i64 n)) (by kernel_rfl) ?_⟩
  (simp [up, *])
theorem con_rstep0 (s cl se dk c1 c2 c3 t0 t1 t2 t3 : Int) (x y z : Bool) (h1 : 0 ≤ s) (h2 : s < 65536) (h3 : 0 ≤ cl) (h4 : cl < 256) (h5 : 0 ≤ se) (h6 : se < 256) (h7 : 0 ≤ dk) (h8 : dk < 256) :
    Con Try.prog 10 [] [.agg true [u8 0, u16 s, u8 cl, u8 se, u8 dk], .agg true [u8 c1, u8 c2, u8 c3, u16 t0, u16 t1, u16 t2, u16 t3], vb x, vb y, vb z] []
      (.tup [(step ⟨0, s, cl, se, dk⟩ ⟨c1, c2, c3, t0, t1, t2, t3⟩ x y z).1.v, i64 (step ⟨0, s, cl, se, dk⟩ ⟨c1, c2, c3, t0, t1, t2, t3⟩ x y z).2]) := by
  have b1 := up_bd s 65535 h1 (by omega)
  have b2 := up_bd cl 255 h3 (by omega)
  have b3 := up_bd se 255 h5 (by omega)
  have b4 := up_bd dk 255 h7 (by omega)
  refine Con.of (C := ⟨Try.prog, tc, Try.f10.ntmps⟩) [] tcok Try.func10 rfl rfl (by kernel_rfl) (by kernel_rfl) ?_
  refine AWP.seq ?_
  refine AWP.regionT tcok hmix [] [2, 3, 4, 5, 6, 10, 11] [5, 6, 10] (os := []) (s' := St.mk [(2, T.plain (vb x)), (3, T.plain (vb y)), (4, T.plain (vb z)), (5, T.plain (V.ptr 5 0)), (6, T.plain (V.ptr 6 0)), (10, T.plain (V.ptr 10 0)), (11, T.plain (i64 0))] [(5, Blk.mk [u8 0, u16 s, u8 cl, u8 se, u8 dk] true 5 none), (6, Blk.mk [u8 c1, u8 c2, u8 c3, u16 t0, u16 t1, u16 t2, u16 t3] true 7 none), (10, Blk.mk [u8 0, u16 0, u8 0, u8 0, u8 0] true 5 none)]) (by kernel_rfl) trivial ?_
  refine AWP.seq ?_
  refine AWP.seq ?_
  refine AWP.regionT tcok hmix [] [2, 3, 5, 6, 10, 11, 20] [5, 6, 10] (os := []) (s' := St.mk [(2, T.plain (vb x)), (3, T.plain (vb y)), (5, T.plain (V.ptr 5 0)), (6, T.plain (V.ptr 6 0)), (10, T.plain (V.ptr 10 0)), (11, T.plain (i64 0)), (20, T.plain (vb (z && false)))] [(5, Blk.mk [u8 0, u16 s, u8 cl, u8 se, u8 dk] true 5 none), (6, Blk.mk [u8 c1, u8 c2, u8 c3, u16 t0, u16 t1, u16 t2, u16 t3] true 7 none), (10, Blk.mk [u8 0, u16 0, u8 0, u8 0, u8 0] true 5 none)]) (by kernel_rfl) trivial ?_
  refine AWP.cond (b := z && false) (by kernel_rfl) (fun hq18 => ?_) (fun hq18 => ?_)
  · try simp only [Bool.or_false, Bool.false_or, Bool.true_and, Bool.and_true, decide_eq_true_eq, decide_eq_false_iff_not, Bool.and_eq_true, Bool.or_eq_true, Bool.or_eq_false_iff, Bool.not_eq_true', Bool.and_eq_false_iff, beq_iff_eq, bne_iff_ne, beq_eq_false_iff_ne, Bool.not_eq_false'] at hq18
    (simp [bl] at hq18; done)
  try simp only [Bool.or_false, Bool.false_or, Bool.true_and, Bool.and_true, decide_eq_true_eq, decide_eq_false_iff_not, Bool.and_eq_true, Bool.or_eq_true, Bool.or_eq_false_iff, Bool.not_eq_true', Bool.and_eq_false_iff, beq_iff_eq, bne_iff_ne, beq_eq_false_iff_ne, Bool.not_eq_false'] at hq18
  refine AWP.skip ?_
  refine AWP.seq ?_
  refine AWP.regionT tcok hmix [(2, ⟨some (i64 s), none⟩), (3, ⟨none, some ⟨i64 (up s 65535), [], []⟩⟩), (4, ⟨some (u16 (up s 65535)), none⟩)] [2, 3, 5, 6, 10, 11] [5, 6, 10] (os := [i64 (IntKind.wrap IntKind.i64 s) = i64 s, Con Try.prog 16 [] [i64 s, i64 65535] [] (i64 (up s 65535)), u16 (IntKind.wrap IntKind.u16 (up s 65535)) = u16 (up s 65535)]) (s' := St.mk [(2, T.plain (vb x)), (3, T.plain (vb y)), (5, T.plain (V.ptr 5 0)), (6, T.plain (V.ptr 6 0)), (10, T.plain (V.ptr 10 0)), (11, T.plain (i64 0))] [(5, Blk.mk [u8 0, u16 (up s 65535), u8 cl, u8 se, u8 dk] true 5 none), (6, Blk.mk [u8 c1, u8 c2, u8 c3, u16 t0, u16 t1, u16 t2, u16 t3] true 7 none), (10, Blk.mk [u8 0, u16 0, u8 0, u8 0, u8 0] true 5 none)]) (by kernel_rfl) ⟨(wr_i64 (by omega) (by omega)), (Go.Proofs.Ytklbonfbiakebaa.con_up (s) (65535) (by omega) (by omega) (by omega)), (wr_u16 (by omega) (by omega)), trivial⟩ ?_
  refine AWP.seq ?_
  refine AWP.regionT tcok hmix [(2, ⟨some (i64 cl), none⟩), (3, ⟨none, some ⟨i64 (up cl 255), [], []⟩⟩), (6, ⟨some (i64 se), none⟩), (7, ⟨none, some ⟨i64 (up se 255), [], []⟩⟩), (10, ⟨some (i64 dk), none⟩), (11, ⟨none, some ⟨i64 (up dk 255), [], []⟩⟩)] [2, 3, 5, 6, 10, 11, 12, 13, 14] [5, 6, 10] (os := [i64 (IntKind.wrap IntKind.i64 cl) = i64 cl, Con Try.prog 16 [] [i64 cl, i64 255] [] (i64 (up cl 255)), i64 (IntKind.wrap IntKind.i64 se) = i64 se, Con Try.prog 16 [] [i64 se, i64 255] [] (i64 (up se 255)), i64 (IntKind.wrap IntKind.i64 dk) = i64 dk, Con Try.prog 16 [] [i64 dk, i64 255] [] (i64 (up dk 255))]) (s' := St.mk [(2, T.plain (vb x)), (3, T.plain (vb y)), (5, T.plain (V.ptr 5 0)), (6, T.plain (V.ptr 6 0)), (10, T.plain (V.ptr 10 0)), (11, T.plain (i64 0)), (12, T.plain (i64 (up cl 255))), (13, T.plain (i64 (up se 255))), (14, T.plain (i64 (up dk 255)))] [(5, Blk.mk [u8 0, u16 (up s 65535), u8 cl, u8 se, u8 dk] true 5 none), (6, Blk.mk [u8 c1, u8 c2, u8 c3, u16 t0, u16 t1, u16 t2, u16 t3] true 7 none), (10, Blk.mk [u8 0, u16 0, u8 0, u8 0, u8 0] true 5 none)]) (by kernel_rfl) ⟨(wr_i64 (by omega) (by omega)), (Go.Proofs.Ytklbonfbiakebaa.con_up (cl) (255) (by omega) (by omega) (by omega)), (wr_i64 (by omega) (by omega)), (Go.Proofs.Ytklbonfbiakebaa.con_up (se) (255) (by omega) (by omega) (by omega)), (wr_i64 (by omega) (by omega)), (Go.Proofs.Ytklbonfbiakebaa.con_up (dk) (255) (by omega) (by omega) (by omega)), trivial⟩ ?_
  refine AWP.seq ?_
  refine AWP.seq ?_
  refine AWP.regionT tcok hmix [] [3, 5, 6, 10, 11, 12, 13, 14, 41] [5, 6, 10] (os := []) (s' := St.mk [(3, T.plain (vb y)), (5, T.plain (V.ptr 5 0)), (6, T.plain (V.ptr 6 0)), (10, T.plain (V.ptr 10 0)), (11, T.plain (i64 0)), (12, T.plain (i64 (up cl 255))), (13, T.plain (i64 (up se 255))), (14, T.plain (i64 (up dk 255))), (41, T.plain (vb !x))] [(5, Blk.mk [u8 0, u16 (up s 65535), u8 cl, u8 se, u8 dk] true 5 none), (6, Blk.mk [u8 c1, u8 c2, u8 c3, u16 t0, u16 t1, u16 t2, u16 t3] true 7 none), (10, Blk.mk [u8 0, u16 0, u8 0, u8 0, u8 0] true 5 none)]) (by kernel_rfl) trivial ?_
  refine AWP.cond (b := !x) (by kernel_rfl) (fun hq19 => ?_) (fun hq19 => ?_)
  · try simp only [Bool.or_false, Bool.false_or, Bool.true_and, Bool.and_true, decide_eq_true_eq, decide_eq_false_iff_not, Bool.and_eq_true, Bool.or_eq_true, Bool.or_eq_false_iff, Bool.not_eq_true', Bool.and_eq_false_iff, beq_iff_eq, bne_iff_ne, beq_eq_false_iff_ne, Bool.not_eq_false'] at hq19
    refine AWP.regionT tcok hmix [] [3, 5, 6, 10, 11, 12, 13, 14] [5, 6, 10] (os := []) (s' := St.mk [(3, T.plain (vb y)), (5, T.plain (V.ptr 5 0)), (6, T.plain (V.ptr 6 0)), (10, T.plain (V.ptr 10 0)), (11, T.plain (i64 0)), (12, T.plain (i64 0)), (13, T.plain (i64 (up se 255))), (14, T.plain (i64 (up dk 255)))] [(5, Blk.mk [u8 0, u16 (up s 65535), u8 cl, u8 se, u8 dk] true 5 none), (6, Blk.mk [u8 c1, u8 c2, u8 c3, u16 t0, u16 t1, u16 t2, u16 t3] true 7 none), (10, Blk.mk [u8 0, u16 0, u8 0, u8 0, u8 0] true 5 none)]) (by kernel_rfl) trivial ?_
    refine AWP.seq ?_
    refine AWP.seq ?_
    refine AWP.regionT tcok hmix [] [5, 6, 10, 11, 12, 13, 14, 42] [5, 6, 10] (os := []) (s' := St.mk [(5, T.plain (V.ptr 5 0)), (6, T.plain (V.ptr 6 0)), (10, T.plain (V.ptr 10 0)), (11, T.plain (i64 0)), (12, T.plain (i64 0)), (13, T.plain (i64 (up se 255))), (14, T.plain (i64 (up dk 255))), (42, T.plain (vb y))] [(5, Blk.mk [u8 0, u16 (up s 65535), u8 cl, u8 se, u8 dk] true 5 none), (6, Blk.mk [u8 c1, u8 c2, u8 c3, u16 t0, u16 t1, u16 t2, u16 t3] true 7 none), (10, Blk.mk [u8 0, u16 0, u8 0, u8 0, u8 0] true 5 none)]) (by kernel_rfl) trivial ?_
    refine AWP.cond (b := y) (by kernel_rfl) (fun hq20 => ?_) (fun hq20 => ?_)
    · try simp only [Bool.or_false, Bool.false_or, Bool.true_and, Bool.and_true, decide_eq_true_eq, decide_eq_false_iff_not, Bool.and_eq_true, Bool.or_eq_true, Bool.or_eq_false_iff, Bool.not_eq_true', Bool.and_eq_false_iff, beq_iff_eq, bne_iff_ne, beq_eq_false_iff_ne, Bool.not_eq_false'] at hq20
      refine AWP.regionT tcok hmix [] [5, 6, 10, 11, 12, 13, 14] [5, 6, 10] (os := []) (s' := St.mk [(5, T.plain (V.ptr 5 0)), (6, T.plain (V.ptr 6 0)), (10, T.plain (V.ptr 10 0)), (11, T.plain (i64 0)), (12, T.plain (i64 0)), (13, T.plain (i64 (up se 255))), (14, T.plain (i64 0))] [(5, Blk.mk [u8 0, u16 (up s 65535), u8 cl, u8 se, u8 dk] true 5 none), (6, Blk.mk [u8 c1, u8 c2, u8 c3, u16 t0, u16 t1, u16 t2, u16 t3] true 7 none), (10, Blk.mk [u8 0, u16 0, u8 0, u8 0, u8 0] true 5 none)]) (by kernel_rfl) trivial ?_
      refine AWP.seq ?_
      refine AWP.regionT tcok hmix [(3, ⟨some (u8 (up se 255)), none⟩)] [5, 6, 10, 11] [5, 6, 10] (os := [u8 (IntKind.wrap IntKind.u8 (up se 255)) = u8 (up se 255)]) (s' := St.mk [(5, T.plain (V.ptr 5 0)), (6, T.plain (V.ptr 6 0)), (10, T.plain (V.ptr 10 0)), (11, T.plain (i64 0))] [(5, Blk.mk [u8 0, u16 (up s 65535), u8 0, u8 (up se 255), u8 0] true 5 none), (6, Blk.mk [u8 c1, u8 c2, u8 c3, u16 t0, u16 t1, u16 t2, u16 t3] true 7 none), (10, Blk.mk [u8 0, u16 0, u8 0, u8 0, u8 0] true 5 none)]) (by kernel_rfl) ⟨(wr_u8 (by omega) (by omega)), trivial⟩ ?_
      refine AWP.seq ?_
      refine AWP.seq ?_
      refine AWP.regionT tcok hmix [] [5, 6, 10, 11, 66] [5, 6, 10] (os := []) (s' := St.mk [(5, T.plain (V.ptr 5 0)), (6, T.plain (V.ptr 6 0)), (10, T.plain (V.ptr 10 0)), (11, T.plain (i64 0)), (66, T.plain (vb false))] [(5, Blk.mk [u8 0, u16 (up s 65535), u8 0, u8 (up se 255), u8 0] true 5 none), (6, Blk.mk [u8 c1, u8 c2, u8 c3, u16 t0, u16 t1, u16 t2, u16 t3] true 7 none), (10, Blk.mk [u8 0, u16 0, u8 0, u8 0, u8 0] true 5 none)]) (by kernel_rfl) trivial ?_
      refine AWP.cond (b := false) (by kernel_rfl) (fun h => by cases h) (fun _ => ?_)
      refine AWP.skip ?_
      refine AWP.seq ?_
      refine AWP.seq ?_
      refine AWP.regionT tcok hmix [] [5, 6, 10, 11, 82] [5, 6, 10] (os := []) (s' := St.mk [(5, T.plain (V.ptr 5 0)), (6, T.plain (V.ptr 6 0)), (10, T.plain (V.ptr 10 0)), (11, T.plain (i64 0)), (82, T.plain (vb false))] [(5, Blk.mk [u8 0, u16 (up s 65535), u8 0, u8 (up se 255), u8 0] true 5 none), (6, Blk.mk [u8 c1, u8 c2, u8 c3, u16 t0, u16 t1, u16 t2, u16 t3] true 7 none), (10, Blk.mk [u8 0, u16 0, u8 0, u8 0, u8 0] true 5 none)]) (by kernel_rfl) trivial ?_
      refine AWP.cond (b := false) (by kernel_rfl) (fun h => by cases h) (fun _ => ?_)
      refine AWP.skip ?_
      refine AWP.seq ?_
      refine AWP.seq ?_
      refine AWP.regionT tcok hmix [] [5, 6, 10, 11, 98] [5, 6, 10] (os := []) (s' := St.mk [(5, T.plain (V.ptr 5 0)), (6, T.plain (V.ptr 6 0)), (10, T.plain (V.ptr 10 0)), (11, T.plain (i64 0)), (98, T.plain (vb false))] [(5, Blk.mk [u8 0, u16 (up s 65535), u8 0, u8 (up se 255), u8 0] true 5 none), (6, Blk.mk [u8 c1, u8 c2, u8 c3, u16 t0, u16 t1, u16 t2, u16 t3] true 7 none), (10, Blk.mk [u8 0, u16 0, u8 0, u8 0, u8 0] true 5 none)]) (by kernel_rfl) trivial ?_
      refine AWP.cond (b := false) (by kernel_rfl) (fun h => by cases h) (fun _ => ?_)
      refine AWP.skip ?_
      refine AWP.seq ?_
      refine AWP.regionT tcok hmix [] [10, 11] [10] (os := []) (s' := St.mk [(10, T.plain (V.ptr 10 0)), (11, T.plain (i64 0))] [(10, Blk.mk [u8 0, u16 (up s 65535), u8 0, u8 (up se 255), u8 0] true 5 none)]) (by kernel_rfl) trivial ?_
      refine AWP.ret ?_
      refine ⟨Or.inr rfl, Eq.trans (b := some ([], V.tup [V.agg true [u8 0, u16 (up s 65535), u8 0, u8 (up se 255), u8 0], i64 0])) (by kernel_rfl) ?_⟩
      (clear b1 b2 b3 b4 h1 h2 h3 h4 h5 h6 h7 h8; cases x <;> cases y <;> cases z <;> first | contradiction | (exfalso; simp at *; done) | (simp (disch := omega) [step, rest, count, Au.zero, Au.at, since_up, more_up, late, reached, if_pos, if_neg]; done))
    try simp only [Bool.or_false, Bool.false_or, Bool.true_and, Bool.and_true, decide_eq_true_eq, decide_eq_false_iff_not, Bool.and_eq_true, Bool.or_eq_true, Bool.or_eq_false_iff, Bool.not_eq_true', Bool.and_eq_false_iff, beq_iff_eq, bne_iff_ne, beq_eq_false_iff_ne, Bool.not_eq_false'] at hq20
    refine AWP.regionT tcok hmix [] [5, 6, 10, 11, 12, 13, 14] [5, 6, 10] (os := []) (s' := St.mk [(5, T.plain (V.ptr 5 0)), (6, T.plain (V.ptr 6 0)), (10, T.plain (V.ptr 10 0)), (11, T.plain (i64 0)), (12, T.plain (i64 0)), (13, T.plain (i64 0)), (14, T.plain (i64 (up dk 255)))] [(5, Blk.mk [u8 0, u16 (up s 65535), u8 cl, u8 se, u8 dk] true 5 none), (6, Blk.mk [u8 c1, u8 c2, u8 c3, u16 t0, u16 t1, u16 t2, u16 t3] true 7 none), (10, Blk.mk [u8 0, u16 0, u8 0, u8 0, u8 0] true 5 none)]) (by kernel_rfl) trivial ?_
    refine AWP.seq ?_
    refine AWP.regionT tcok hmix [(5, ⟨some (u8 (up dk 255)), none⟩)] [5, 6, 10, 11] [5, 6, 10] (os := [u8 (IntKind.wrap IntKind.u8 (up dk 255)) = u8 (up dk 255)]) (s' := St.mk [(5, T.plain (V.ptr 5 0)), (6, T.plain (V.ptr 6 0)), (10, T.plain (V.ptr 10 0)), (11, T.plain (i64 0))] [(5, Blk.mk [u8 0, u16 (up s 65535), u8 0, u8 0, u8 (up dk 255)] true 5 none), (6, Blk.mk [u8 c1, u8 c2, u8 c3, u16 t0, u16 t1, u16 t2, u16 t3] true 7 none), (10, Blk.mk [u8 0, u16 0, u8 0, u8 0, u8 0] true 5 none)]) (by kernel_rfl) ⟨(wr_u8 (by omega) (by omega)), trivial⟩ ?_
    refine AWP.seq ?_
    refine AWP.seq ?_
    refine AWP.regionT tcok hmix [] [5, 6, 10, 11, 66] [5, 6, 10] (os := []) (s' := St.mk [(5, T.plain (V.ptr 5 0)), (6, T.plain (V.ptr 6 0)), (10, T.plain (V.ptr 10 0)), (11, T.plain (i64 0)), (66, T.plain (vb false))] [(5, Blk.mk [u8 0, u16 (up s 65535), u8 0, u8 0, u8 (up dk 255)] true 5 none), (6, Blk.mk [u8 c1, u8 c2, u8 c3, u16 t0, u16 t1, u16 t2, u16 t3] true 7 none), (10, Blk.mk [u8 0, u16 0, u8 0, u8 0, u8 0] true 5 none)]) (by kernel_rfl) trivial ?_
    refine AWP.cond (b := false) (by kernel_rfl) (fun h => by cases h) (fun _ => ?_)
    refine AWP.skip ?_
    refine AWP.seq ?_
    refine AWP.seq ?_
    refine AWP.regionT tcok hmix [] [5, 6, 10, 11, 82] [5, 6, 10] (os := []) (s' := St.mk [(5, T.plain (V.ptr 5 0)), (6, T.plain (V.ptr 6 0)), (10, T.plain (V.ptr 10 0)), (11, T.plain (i64 0)), (82, T.plain (vb false))] [(5, Blk.mk [u8 0, u16 (up s 65535), u8 0, u8 0, u8 (up dk 255)] true 5 none), (6, Blk.mk [u8 c1, u8 c2, u8 c3, u16 t0, u16 t1, u16 t2, u16 t3] true 7 none), (10, Blk.mk [u8 0, u16 0, u8 0, u8 0, u8 0] true 5 none)]) (by kernel_rfl) trivial ?_
    refine AWP.cond (b := false) (by kernel_rfl) (fun h => by cases h) (fun _ => ?_)
    refine AWP.skip ?_
    refine AWP.seq ?_
    refine AWP.seq ?_
    refine AWP.regionT tcok hmix [] [5, 6, 10, 11, 98] [5, 6, 10] (os := []) (s' := St.mk [(5, T.plain (V.ptr 5 0)), (6, T.plain (V.ptr 6 0)), (10, T.plain (V.ptr 10 0)), (11, T.plain (i64 0)), (98, T.plain (vb false))] [(5, Blk.mk [u8 0, u16 (up s 65535), u8 0, u8 0, u8 (up dk 255)] true 5 none), (6, Blk.mk [u8 c1, u8 c2, u8 c3, u16 t0, u16 t1, u16 t2, u16 t3] true 7 none), (10, Blk.mk [u8 0, u16 0, u8 0, u8 0, u8 0] true 5 none)]) (by kernel_rfl) trivial ?_
    refine AWP.cond (b := false) (by kernel_rfl) (fun h => by cases h) (fun _ => ?_)
    refine AWP.skip ?_
    refine AWP.seq ?_
    refine AWP.regionT tcok hmix [] [10, 11] [10] (os := []) (s' := St.mk [(10, T.plain (V.ptr 10 0)), (11, T.plain (i64 0))] [(10, Blk.mk [u8 0, u16 (up s 65535), u8 0, u8 0, u8 (up dk 255)] true 5 none)]) (by kernel_rfl) trivial ?_
    refine AWP.ret ?_
    refine ⟨Or.inr rfl, Eq.trans (b := some ([], V.tup [V.agg true [u8 0, u16 (up s 65535), u8 0, u8 0, u8 (up dk 255)], i64 0])) (by kernel_rfl) ?_⟩
    (clear b1 b2 b3 b4 h1 h2 h3 h4 h5 h6 h7 h8; cases x <;> cases y <;> cases z <;> first | contradiction | (exfalso; simp at *; done) | (simp (disch := omega) [step, rest, count, Au.zero, Au.at, since_up, more_up, late, reached, if_pos, if_neg]; done))
  try simp only [Bool.or_false, Bool.false_or, Bool.true_and, Bool.and_true, decide_eq_true_eq, decide_eq_false_iff_not, Bool.and_eq_true, Bool.or_eq_true, Bool.or_eq_false_iff, Bool.not_eq_true', Bool.and_eq_false_iff, beq_iff_eq, bne_iff_ne, beq_eq_false_iff_ne, Bool.not_eq_false'] at hq19
  refine AWP.skip ?_
  refine AWP.seq ?_
  refine AWP.seq ?_
  refine AWP.regionT tcok hmix [] [5, 6, 10, 11, 12, 13, 14, 42] [5, 6, 10] (os := []) (s' := St.mk [(5, T.plain (V.ptr 5 0)), (6, T.plain (V.ptr 6 0)), (10, T.plain (V.ptr 10 0)), (11, T.plain (i64 0)), (12, T.plain (i64 (up cl 255))), (13, T.plain (i64 (up se 255))), (14, T.plain (i64 (up dk 255))), (42, T.plain (vb y))] [(5, Blk.mk [u8 0, u16 (up s 65535), u8 cl, u8 se, u8 dk] true 5 none), (6, Blk.mk [u8 c1, u8 c2, u8 c3, u16 t0, u16 t1, u16 t2, u16 t3] true 7 none), (10, Blk.mk [u8 0, u16 0, u8 0, u8 0, u8 0] true 5 none)]) (by kernel_rfl) trivial ?_
  refine AWP.cond (b := y) (by kernel_rfl) (fun hq27 => ?_) (fun hq27 => ?_)
  · try simp only [Bool.or_false, Bool.false_or, Bool.true_and, Bool.and_true, decide_eq_true_eq, decide_eq_false_iff_not, Bool.and_eq_true, Bool.or_eq_true, Bool.or_eq_false_iff, Bool.not_eq_true', Bool.and_eq_false_iff, beq_iff_eq, bne_iff_ne, beq_eq_false_iff_ne, Bool.not_eq_false'] at hq27
    refine AWP.regionT tcok hmix [] [5, 6, 10, 11, 12, 13, 14] [5, 6, 10] (os := []) (s' := St.mk [(5, T.plain (V.ptr 5 0)), (6, T.plain (V.ptr 6 0)), (10, T.plain (V.ptr 10 0)), (11, T.plain (i64 0)), (12, T.plain (i64 (up cl 255))), (13, T.plain (i64 (up se 255))), (14, T.plain (i64 0))] [(5, Blk.mk [u8 0, u16 (up s 65535), u8 cl, u8 se, u8 dk] true 5 none), (6, Blk.mk [u8 c1, u8 c2, u8 c3, u16 t0, u16 t1, u16 t2, u16 t3] true 7 none), (10, Blk.mk [u8 0, u16 0, u8 0, u8 0, u8 0] true 5 none)]) (by kernel_rfl) trivial ?_
    refine AWP.seq ?_
    refine AWP.regionT tcok hmix [(1, ⟨some (u8 (up cl 255)), none⟩), (3, ⟨some (u8 (up se 255)), none⟩)] [5, 6, 10, 11] [5, 6, 10] (os := [u8 (IntKind.wrap IntKind.u8 (up cl 255)) = u8 (up cl 255), u8 (IntKind.wrap IntKind.u8 (up se 255)) = u8 (up se 255)]) (s' := St.mk [(5, T.plain (V.ptr 5 0)), (6, T.plain (V.ptr 6 0)), (10, T.plain (V.ptr 10 0)), (11, T.plain (i64 0))] [(5, Blk.mk [u8 0, u16 (up s 65535), u8 (up cl 255), u8 (up se 255), u8 0] true 5 none), (6, Blk.mk [u8 c1, u8 c2, u8 c3, u16 t0, u16 t1, u16 t2, u16 t3] true 7 none), (10, Blk.mk [u8 0, u16 0, u8 0, u8 0, u8 0] true 5 none)]) (by kernel_rfl) ⟨(wr_u8 (by omega) (by omega)), (wr_u8 (by omega) (by omega)), trivial⟩ ?_
    refine AWP.seq ?_
    refine AWP.seq ?_
    refine AWP.regionT tcok hmix [] [5, 6, 10, 11, 66] [5, 6, 10] (os := []) (s' := St.mk [(5, T.plain (V.ptr 5 0)), (6, T.plain (V.ptr 6 0)), (10, T.plain (V.ptr 10 0)), (11, T.plain (i64 0)), (66, T.plain (vb false))] [(5, Blk.mk [u8 0, u16 (up s 65535), u8 (up cl 255), u8 (up se 255), u8 0] true 5 none), (6, Blk.mk [u8 c1, u8 c2, u8 c3, u16 t0, u16 t1, u16 t2, u16 t3] true 7 none), (10, Blk.mk [u8 0, u16 0, u8 0, u8 0, u8 0] true 5 none)]) (by kernel_rfl) trivial ?_
    refine AWP.cond (b := false) (by kernel_rfl) (fun h => by cases h) (fun _ => ?_)
    refine AWP.skip ?_
    refine AWP.seq ?_
    refine AWP.seq ?_
    refine AWP.regionT tcok hmix [] [5, 6, 10, 11, 82] [5, 6, 10] (os := []) (s' := St.mk [(5, T.plain (V.ptr 5 0)), (6, T.plain (V.ptr 6 0)), (10, T.plain (V.ptr 10 0)), (11, T.plain (i64 0)), (82, T.plain (vb false))] [(5, Blk.mk [u8 0, u16 (up s 65535), u8 (up cl 255), u8 (up se 255), u8 0] true 5 none), (6, Blk.mk [u8 c1, u8 c2, u8 c3, u16 t0, u16 t1, u16 t2, u16 t3] true 7 none), (10, Blk.mk [u8 0, u16 0, u8 0, u8 0, u8 0] true 5 none)]) (by kernel_rfl) trivial ?_
    refine AWP.cond (b := false) (by kernel_rfl) (fun h => by cases h) (fun _ => ?_)
    refine AWP.skip ?_
    refine AWP.seq ?_
    refine AWP.seq ?_
    refine AWP.regionT tcok hmix [] [5, 6, 10, 11, 98] [5, 6, 10] (os := []) (s' := St.mk [(5, T.plain (V.ptr 5 0)), (6, T.plain (V.ptr 6 0)), (10, T.plain (V.ptr 10 0)), (11, T.plain (i64 0)), (98, T.plain (vb false))] [(5, Blk.mk [u8 0, u16 (up s 65535), u8 (up cl 255), u8 (up se 255), u8 0] true 5 none), (6, Blk.mk [u8 c1, u8 c2, u8 c3, u16 t0, u16 t1, u16 t2, u16 t3] true 7 none), (10, Blk.mk [u8 0, u16 0, u8 0, u8 0, u8 0] true 5 none)]) (by kernel_rfl) trivial ?_
    refine AWP.cond (b := false) (by kernel_rfl) (fun h => by cases h) (fun _ => ?_)
    refine AWP.skip ?_
    refine AWP.seq ?_
    refine AWP.regionT tcok hmix [] [10, 11] [10] (os := []) (s' := St.mk [(10, T.plain (V.ptr 10 0)), (11, T.plain (i64 0))] [(10, Blk.mk [u8 0, u16 (up s 65535), u8 (up cl 255), u8 (up se 255), u8 0] true 5 none)]) (by kernel_rfl) trivial ?_
    refine AWP.ret ?_
    refine ⟨Or.inr rfl, Eq.trans (b := some ([], V.tup [V.agg true [u8 0, u16 (up s 65535), u8 (up cl 255), u8 (up se 255), u8 0], i64 0])) (by kernel_rfl) ?_⟩
    (clear b1 b2 b3 b4 h1 h2 h3 h4 h5 h6 h7 h8; cases x <;> cases y <;> cases z <;> first | contradiction | (exfalso; simp at *; done) | (simp (disch := omega) [step, rest, count, Au.zero, Au.at, since_up, more_up, late, reached, if_pos, if_neg]; done))
  try simp only [Bool.or_false, Bool.false_or, Bool.true_and, Bool.and_true, decide_eq_true_eq, decide_eq_false_iff_not, Bool.and_eq_true, Bool.or_eq_true, Bool.or_eq_false_iff, Bool.not_eq_true', Bool.and_eq_false_iff, beq_iff_eq, bne_iff_ne, beq_eq_false_iff_ne, Bool.not_eq_false'] at hq27
  refine AWP.regionT tcok hmix [] [5, 6, 10, 11, 12, 13, 14] [5, 6, 10] (os := []) (s' := St.mk [(5, T.plain (V.ptr 5 0)), (6, T.plain (V.ptr 6 0)), (10, T.plain (V.ptr 10 0)), (11, T.plain (i64 0)), (12, T.plain (i64 (up cl 255))), (13, T.plain (i64 0)), (14, T.plain (i64 (up dk 255)))] [(5, Blk.mk [u8 0, u16 (up s 65535), u8 cl, u8 se, u8 dk] true 5 none), (6, Blk.mk [u8 c1, u8 c2, u8 c3, u16 t0, u16 t1, u16 t2, u16 t3] true 7 none), (10, Blk.mk [u8 0, u16 0, u8 0, u8 0, u8 0] true 5 none)]) (by kernel_rfl) trivial ?_
  refine AWP.seq ?_
  refine AWP.regionT tcok hmix [(1, ⟨some (u8 (up cl 255)), none⟩), (5, ⟨some (u8 (up dk 255)), none⟩)] [5, 6, 10, 11] [5, 6, 10] (os := [u8 (IntKind.wrap IntKind.u8 (up cl 255)) = u8 (up cl 255), u8 (IntKind.wrap IntKind.u8 (up dk 255)) = u8 (up dk 255)]) (s' := St.mk [(5, T.plain (V.ptr 5 0)), (6, T.plain (V.ptr 6 0)), (10, T.plain (V.ptr 10 0)), (11, T.plain (i64 0))] [(5, Blk.mk [u8 0, u16 (up s 65535), u8 (up cl 255), u8 0, u8 (up dk 255)] true 5 none), (6, Blk.mk [u8 c1, u8 c2, u8 c3, u16 t0, u16 t1, u16 t2, u16 t3] true 7 none), (10, Blk.mk [u8 0, u16 0, u8 0, u8 0, u8 0] true 5 none)]) (by kernel_rfl) ⟨(wr_u8 (by omega) (by omega)), (wr_u8 (by omega) (by omega)), trivial⟩ ?_
  refine AWP.seq ?_
  refine AWP.seq ?_
  refine AWP.regionT tcok hmix [] [5, 6, 10, 11, 66] [5, 6, 10] (os := []) (s' := St.mk [(5, T.plain (V.ptr 5 0)), (6, T.plain (V.ptr 6 0)), (10, T.plain (V.ptr 10 0)), (11, T.plain (i64 0)), (66, T.plain (vb false))] [(5, Blk.mk [u8 0, u16 (up s 65535), u8 (up cl 255), u8 0, u8 (up dk 255)] true 5 none), (6, Blk.mk [u8 c1, u8 c2, u8 c3, u16 t0, u16 t1, u16 t2, u16 t3] true 7 none), (10, Blk.mk [u8 0, u16 0, u8 0, u8 0, u8 0] true 5 none)]) (by kernel_rfl) trivial ?_
  refine AWP.cond (b := false) (by kernel_rfl) (fun h => by cases h) (fun _ => ?_)
  refine AWP.skip ?_
  refine AWP.seq ?_
  refine AWP.seq ?_
  refine AWP.regionT tcok hmix [] [5, 6, 10, 11, 82] [5, 6, 10] (os := []) (s' := St.mk [(5, T.plain (V.ptr 5 0)), (6, T.plain (V.ptr 6 0)), (10, T.plain (V.ptr 10 0)), (11, T.plain (i64 0)), (82, T.plain (vb false))] [(5, Blk.mk [u8 0, u16 (up s 65535), u8 (up cl 255), u8 0, u8 (up dk 255)] true 5 none), (6, Blk.mk [u8 c1, u8 c2, u8 c3, u16 t0, u16 t1, u16 t2, u16 t3] true 7 none), (10, Blk.mk [u8 0, u16 0, u8 0, u8 0, u8 0] true 5 none)]) (by kernel_rfl) trivial ?_
  refine AWP.cond (b := false) (by kernel_rfl) (fun h => by cases h) (fun _ => ?_)
  refine AWP.skip ?_
  refine AWP.seq ?_
  refine AWP.seq ?_
  refine AWP.regionT tcok hmix [] [5, 6, 10, 11, 98] [5, 6, 10] (os := []) (s' := St.mk [(5, T.plain (V.ptr 5 0)), (6, T.plain (V.ptr 6 0)), (10, T.plain (V.ptr 10 0)), (11, T.plain (i64 0)), (98, T.plain (vb false))] [(5, Blk.mk [u8 0, u16 (up s 65535), u8 (up cl 255), u8 0, u8 (up dk 255)] true 5 none), (6, Blk.mk [u8 c1, u8 c2, u8 c3, u16 t0, u16 t1, u16 t2, u16 t3] true 7 none), (10, Blk.mk [u8 0, u16 0, u8 0, u8 0, u8 0] true 5 none)]) (by kernel_rfl) trivial ?_
  refine AWP.cond (b := false) (by kernel_rfl) (fun h => by cases h) (fun _ => ?_)
  refine AWP.skip ?_
  refine AWP.seq ?_
  refine AWP.regionT tcok hmix [] [10, 11] [10] (os := []) (s' := St.mk [(10, T.plain (V.ptr 10 0)), (11, T.plain (i64 0))] [(10, Blk.mk [u8 0, u16 (up s 65535), u8 (up cl 255), u8 0, u8 (up dk 255)] true 5 none)]) (by kernel_rfl) trivial ?_
  refine AWP.ret ?_
  refine ⟨Or.inr rfl, Eq.trans (b := some ([], V.tup [V.agg true [u8 0, u16 (up s 65535), u8 (up cl 255), u8 0, u8 (up dk 255)], i64 0])) (by kernel_rfl) ?_⟩
  (clear b1 b2 b3 b4 h1 h2 h3 h4 h5 h6 h7 h8; cases x <;> cases y <;> cases z <;> first | contradiction | (exfalso; simp at *; done) | (simp (disch := omega) [step, rest, count, Au.zero, Au.at, since_up, more_up, late, reached, if_pos, if_neg]; done))
theorem con_rstep1 (s cl se dk c1 c2 c3 t0 t1 t2 t3 : Int) (x y z : Bool) (h1 : 0 ≤ s) (h2 : s < 65536) (h3 : 0 ≤ cl) (h4 : cl < 256) (h5 : 0 ≤ se) (h6 : se < 256) (h7 : 0 ≤ dk) (h8 : dk < 256) :
    Con Try.prog 10 [] [.agg true [u8 1, u16 s, u8 cl, u8 se, u8 dk], .agg true [u8 c1, u8 c2, u8 c3, u16 t0, u16 t1, u16 t2, u16 t3], vb x, vb y, vb z] []
      (.tup [(step ⟨1, s, cl, se, dk⟩ ⟨c1, c2, c3, t0, t1, t2, t3⟩ x y z).1.v, i64 (step ⟨1, s, cl, se, dk⟩ ⟨c1, c2, c3, t0, t1, t2, t3⟩ x y z).2]) := by
  have b1 := up_bd s 65535 h1 (by omega)
  have b2 := up_bd cl 255 h3 (by omega)
  have b3 := up_bd se 255 h5 (by omega)
  have b4 := up_bd dk 255 h7 (by omega)
  refine Con.of (C := ⟨Try.prog, tc, Try.f10.ntmps⟩) [] tcok Try.func10 rfl rfl (by kernel_rfl) (by kernel_rfl) ?_
  refine AWP.seq ?_
  refine AWP.regionT tcok hmix [] [2, 3, 4, 5, 6, 10, 11] [5, 6, 10] (os := []) (s' := St.mk [(2, T.plain (vb x)), (3, T.plain (vb y)), (4, T.plain (vb z)), (5, T.plain (V.ptr 5 0)), (6, T.plain (V.ptr 6 0)), (10, T.plain (V.ptr 10 0)), (11, T.plain (i64 0))] [(5, Blk.mk [u8 1, u16 s, u8 cl, u8 se, u8 dk] true 5 none), (6, Blk.mk [u8 c1, u8 c2, u8 c3, u16 t0, u16 t1, u16 t2, u16 t3] true 7 none), (10, Blk.mk [u8 0, u16 0, u8 0, u8 0, u8 0] true 5 none)]) (by kernel_rfl) trivial ?_
  refine AWP.seq ?_
  refine AWP.seq ?_
  refine AWP.regionT tcok hmix [] [2, 3, 5, 6, 10, 11, 20] [5, 6, 10] (os := []) (s' := St.mk [(2, T.plain (vb x)), (3, T.plain (vb y)), (5, T.plain (V.ptr 5 0)), (6, T.plain (V.ptr 6 0)), (10, T.plain (V.ptr 10 0)), (11, T.plain (i64 0)), (20, T.plain (vb (z && true)))] [(5, Blk.mk [u8 1, u16 s, u8 cl, u8 se, u8 dk] true 5 none), (6, Blk.mk [u8 c1, u8 c2, u8 c3, u16 t0, u16 t1, u16 t2, u16 t3] true 7 none), (10, Blk.mk [u8 0, u16 0, u8 0, u8 0, u8 0] true 5 none)]) (by kernel_rfl) trivial ?_
  refine AWP.cond (b := z && true) (by kernel_rfl) (fun hq34 => ?_) (fun hq34 => ?_)
  · try simp only [Bool.or_false, Bool.false_or, Bool.true_and, Bool.and_true, decide_eq_true_eq, decide_eq_false_iff_not, Bool.and_eq_true, Bool.or_eq_true, Bool.or_eq_false_iff, Bool.not_eq_true', Bool.and_eq_false_iff, beq_iff_eq, bne_iff_ne, beq_eq_false_iff_ne, Bool.not_eq_false'] at hq34
    refine AWP.seq ?_
    refine AWP.regionT tcok hmix [] [2, 3, 5, 6, 10, 11] [5, 6, 10] (os := []) (s' := St.mk [(2, T.plain (vb x)), (3, T.plain (vb y)), (5, T.plain (V.ptr 5 0)), (6, T.plain (V.ptr 6 0)), (10, T.plain (V.ptr 10 0)), (11, T.plain (i64 1))] [(5, Blk.mk [u8 1, u16 s, u8 cl, u8 se, u8 dk] true 5 none), (6, Blk.mk [u8 c1, u8 c2, u8 c3, u16 t0, u16 t1, u16 t2, u16 t3] true 7 none), (10, Blk.mk [u8 0, u16 0, u8 0, u8 0, u8 0] true 5 none)]) (by kernel_rfl) trivial ?_
    refine AWP.ret ?_
    refine ⟨Or.inr rfl, Eq.trans (b := some ([], V.tup [V.agg true [u8 0, u16 0, u8 0, u8 0, u8 0], i64 1])) (by kernel_rfl) ?_⟩
    (clear b1 b2 b3 b4 h1 h2 h3 h4 h5 h6 h7 h8; cases x <;> cases y <;> cases z <;> first | contradiction | (exfalso; simp at *; done) | (simp (disch := omega) [step, rest, count, Au.zero, Au.at, since_up, more_up, late, reached, if_pos, if_neg]; done))
  try simp only [Bool.or_false, Bool.false_or, Bool.true_and, Bool.and_true, decide_eq_true_eq, decide_eq_false_iff_not, Bool.and_eq_true, Bool.or_eq_true, Bool.or_eq_false_iff, Bool.not_eq_true', Bool.and_eq_false_iff, beq_iff_eq, bne_iff_ne, beq_eq_false_iff_ne, Bool.not_eq_false'] at hq34
  refine AWP.skip ?_
  refine AWP.seq ?_
  refine AWP.regionT tcok hmix [(2, ⟨some (i64 s), none⟩), (3, ⟨none, some ⟨i64 (up s 65535), [], []⟩⟩), (4, ⟨some (u16 (up s 65535)), none⟩)] [2, 3, 5, 6, 10, 11] [5, 6, 10] (os := [i64 (IntKind.wrap IntKind.i64 s) = i64 s, Con Try.prog 16 [] [i64 s, i64 65535] [] (i64 (up s 65535)), u16 (IntKind.wrap IntKind.u16 (up s 65535)) = u16 (up s 65535)]) (s' := St.mk [(2, T.plain (vb x)), (3, T.plain (vb y)), (5, T.plain (V.ptr 5 0)), (6, T.plain (V.ptr 6 0)), (10, T.plain (V.ptr 10 0)), (11, T.plain (i64 0))] [(5, Blk.mk [u8 1, u16 (up s 65535), u8 cl, u8 se, u8 dk] true 5 none), (6, Blk.mk [u8 c1, u8 c2, u8 c3, u16 t0, u16 t1, u16 t2, u16 t3] true 7 none), (10, Blk.mk [u8 0, u16 0, u8 0, u8 0, u8 0] true 5 none)]) (by kernel_rfl) ⟨(wr_i64 (by omega) (by omega)), (Go.Proofs.Ytklbonfbiakebaa.con_up (s) (65535) (by omega) (by omega) (by omega)), (wr_u16 (by omega) (by omega)), trivial⟩ ?_
  refine AWP.seq ?_
  refine AWP.regionT tcok hmix [(2, ⟨some (i64 cl), none⟩), (3, ⟨none, some ⟨i64 (up cl 255), [], []⟩⟩), (6, ⟨some (i64 se), none⟩), (7, ⟨none, some ⟨i64 (up se 255), [], []⟩⟩), (10, ⟨some (i64 dk), none⟩), (11, ⟨none, some ⟨i64 (up dk 255), [], []⟩⟩)] [2, 3, 5, 6, 10, 11, 12, 13, 14] [5, 6, 10] (os := [i64 (IntKind.wrap IntKind.i64 cl) = i64 cl, Con Try.prog 16 [] [i64 cl, i64 255] [] (i64 (up cl 255)), i64 (IntKind.wrap IntKind.i64 se) = i64 se, Con Try.prog 16 [] [i64 se, i64 255] [] (i64 (up se 255)), i64 (IntKind.wrap IntKind.i64 dk) = i64 dk, Con Try.prog 16 [] [i64 dk, i64 255] [] (i64 (up dk 255))]) (s' := St.mk [(2, T.plain (vb x)), (3, T.plain (vb y)), (5, T.plain (V.ptr 5 0)), (6, T.plain (V.ptr 6 0)), (10, T.plain (V.ptr 10 0)), (11, T.plain (i64 0)), (12, T.plain (i64 (up cl 255))), (13, T.plain (i64 (up se 255))), (14, T.plain (i64 (up dk 255)))] [(5, Blk.mk [u8 1, u16 (up s 65535), u8 cl, u8 se, u8 dk] true 5 none), (6, Blk.mk [u8 c1, u8 c2, u8 c3, u16 t0, u16 t1, u16 t2, u16 t3] true 7 none), (10, Blk.mk [u8 0, u16 0, u8 0, u8 0, u8 0] true 5 none)]) (by kernel_rfl) ⟨(wr_i64 (by omega) (by omega)), (Go.Proofs.Ytklbonfbiakebaa.con_up (cl) (255) (by omega) (by omega) (by omega)), (wr_i64 (by omega) (by omega)), (Go.Proofs.Ytklbonfbiakebaa.con_up (se) (255) (by omega) (by omega) (by omega)), (wr_i64 (by omega) (by omega)), (Go.Proofs.Ytklbonfbiakebaa.con_up (dk) (255) (by omega) (by omega) (by omega)), trivial⟩ ?_
  refine AWP.seq ?_
  refine AWP.seq ?_
  refine AWP.regionT tcok hmix [] [3, 5, 6, 10, 11, 12, 13, 14, 41] [5, 6, 10] (os := []) (s' := St.mk [(3, T.plain (vb y)), (5, T.plain (V.ptr 5 0)), (6, T.plain (V.ptr 6 0)), (10, T.plain (V.ptr 10 0)), (11, T.plain (i64 0)), (12, T.plain (i64 (up cl 255))), (13, T.plain (i64 (up se 255))), (14, T.plain (i64 (up dk 255))), (41, T.plain (vb !x))] [(5, Blk.mk [u8 1, u16 (up s 65535), u8 cl, u8 se, u8 dk] true 5 none), (6, Blk.mk [u8 c1, u8 c2, u8 c3, u16 t0, u16 t1, u16 t2, u16 t3] true 7 none), (10, Blk.mk [u8 0, u16 0, u8 0, u8 0, u8 0] true 5 none)]) (by kernel_rfl) trivial ?_
  refine AWP.cond (b := !x) (by kernel_rfl) (fun hq35 => ?_) (fun hq35 => ?_)
  · try simp only [Bool.or_false, Bool.false_or, Bool.true_and, Bool.and_true, decide_eq_true_eq, decide_eq_false_iff_not, Bool.and_eq_true, Bool.or_eq_true, Bool.or_eq_false_iff, Bool.not_eq_true', Bool.and_eq_false_iff, beq_iff_eq, bne_iff_ne, beq_eq_false_iff_ne, Bool.not_eq_false'] at hq35
    refine AWP.regionT tcok hmix [] [3, 5, 6, 10, 11, 12, 13, 14] [5, 6, 10] (os := []) (s' := St.mk [(3, T.plain (vb y)), (5, T.plain (V.ptr 5 0)), (6, T.plain (V.ptr 6 0)), (10, T.plain (V.ptr 10 0)), (11, T.plain (i64 0)), (12, T.plain (i64 0)), (13, T.plain (i64 (up se 255))), (14, T.plain (i64 (up dk 255)))] [(5, Blk.mk [u8 1, u16 (up s 65535), u8 cl, u8 se, u8 dk] true 5 none), (6, Blk.mk [u8 c1, u8 c2, u8 c3, u16 t0, u16 t1, u16 t2, u16 t3] true 7 none), (10, Blk.mk [u8 0, u16 0, u8 0, u8 0, u8 0] true 5 none)]) (by kernel_rfl) trivial ?_
    refine AWP.seq ?_
    refine AWP.seq ?_
    refine AWP.regionT tcok hmix [] [5, 6, 10, 11, 12, 13, 14, 42] [5, 6, 10] (os := []) (s' := St.mk [(5, T.plain (V.ptr 5 0)), (6, T.plain (V.ptr 6 0)), (10, T.plain (V.ptr 10 0)), (11, T.plain (i64 0)), (12, T.plain (i64 0)), (13, T.plain (i64 (up se 255))), (14, T.plain (i64 (up dk 255))), (42, T.plain (vb y))] [(5, Blk.mk [u8 1, u16 (up s 65535), u8 cl, u8 se, u8 dk] true 5 none), (6, Blk.mk [u8 c1, u8 c2, u8 c3, u16 t0, u16 t1, u16 t2, u16 t3] true 7 none), (10, Blk.mk [u8 0, u16 0, u8 0, u8 0, u8 0] true 5 none)]) (by kernel_rfl) trivial ?_
    refine AWP.cond (b := y) (by kernel_rfl) (fun hq36 => ?_) (fun hq36 => ?_)
    · try simp only [Bool.or_false, Bool.false_or, Bool.true_and, Bool.and_true, decide_eq_true_eq, decide_eq_false_iff_not, Bool.and_eq_true, Bool.or_eq_true, Bool.or_eq_false_iff, Bool.not_eq_true', Bool.and_eq_false_iff, beq_iff_eq, bne_iff_ne, beq_eq_false_iff_ne, Bool.not_eq_false'] at hq36
      refine AWP.regionT tcok hmix [] [5, 6, 10, 11, 12, 13, 14] [5, 6, 10] (os := []) (s' := St.mk [(5, T.plain (V.ptr 5 0)), (6, T.plain (V.ptr 6 0)), (10, T.plain (V.ptr 10 0)), (11, T.plain (i64 0)), (12, T.plain (i64 0)), (13, T.plain (i64 (up se 255))), (14, T.plain (i64 0))] [(5, Blk.mk [u8 1, u16 (up s 65535), u8 cl, u8 se, u8 dk] true 5 none), (6, Blk.mk [u8 c1, u8 c2, u8 c3, u16 t0, u16 t1, u16 t2, u16 t3] true 7 none), (10, Blk.mk [u8 0, u16 0, u8 0, u8 0, u8 0] true 5 none)]) (by kernel_rfl) trivial ?_
      refine AWP.seq ?_
      refine AWP.regionT tcok hmix [(3, ⟨some (u8 (up se 255)), none⟩)] [5, 6, 10, 11] [5, 6, 10] (os := [u8 (IntKind.wrap IntKind.u8 (up se 255)) = u8 (up se 255)]) (s' := St.mk [(5, T.plain (V.ptr 5 0)), (6, T.plain (V.ptr 6 0)), (10, T.plain (V.ptr 10 0)), (11, T.plain (i64 0))] [(5, Blk.mk [u8 1, u16 (up s 65535), u8 0, u8 (up se 255), u8 0] true 5 none), (6, Blk.mk [u8 c1, u8 c2, u8 c3, u16 t0, u16 t1, u16 t2, u16 t3] true 7 none), (10, Blk.mk [u8 0, u16 0, u8 0, u8 0, u8 0] true 5 none)]) (by kernel_rfl) ⟨(wr_u8 (by omega) (by omega)), trivial⟩ ?_
      refine AWP.seq ?_
      refine AWP.seq ?_
      refine AWP.regionT tcok hmix [] [5, 6, 10, 11, 66] [5, 6, 10] (os := []) (s' := St.mk [(5, T.plain (V.ptr 5 0)), (6, T.plain (V.ptr 6 0)), (10, T.plain (V.ptr 10 0)), (11, T.plain (i64 0)), (66, T.plain (vb (true && decide (c1 > 0) && decide (0 ≥ c1))))] [(5, Blk.mk [u8 1, u16 (up s 65535), u8 0, u8 (up se 255), u8 0] true 5 none), (6, Blk.mk [u8 c1, u8 c2, u8 c3, u16 t0, u16 t1, u16 t2, u16 t3] true 7 none), (10, Blk.mk [u8 0, u16 0, u8 0, u8 0, u8 0] true 5 none)]) (by kernel_rfl) trivial ?_
      refine AWP.cond (b := true && decide (c1 > 0) && decide (0 ≥ c1)) (by kernel_rfl) (fun hq37 => ?_) (fun hq37 => ?_)
      · try simp only [Bool.or_false, Bool.false_or, Bool.true_and, Bool.and_true, decide_eq_true_eq, decide_eq_false_iff_not, Bool.and_eq_true, Bool.or_eq_true, Bool.or_eq_false_iff, Bool.not_eq_true', Bool.and_eq_false_iff, beq_iff_eq, bne_iff_ne, beq_eq_false_iff_ne, Bool.not_eq_false'] at hq37
        (exfalso; omega)
      try simp only [Bool.or_false, Bool.false_or, Bool.true_and, Bool.and_true, decide_eq_true_eq, decide_eq_false_iff_not, Bool.and_eq_true, Bool.or_eq_true, Bool.or_eq_false_iff, Bool.not_eq_true', Bool.and_eq_false_iff, beq_iff_eq, bne_iff_ne, beq_eq_false_iff_ne, Bool.not_eq_false'] at hq37
      refine AWP.skip ?_
      refine AWP.seq ?_
      refine AWP.seq ?_
      refine AWP.regionT tcok hmix [] [5, 6, 10, 11, 82] [5, 6, 10] (os := []) (s' := St.mk [(5, T.plain (V.ptr 5 0)), (6, T.plain (V.ptr 6 0)), (10, T.plain (V.ptr 10 0)), (11, T.plain (i64 0)), (82, T.plain (vb false))] [(5, Blk.mk [u8 1, u16 (up s 65535), u8 0, u8 (up se 255), u8 0] true 5 none), (6, Blk.mk [u8 c1, u8 c2, u8 c3, u16 t0, u16 t1, u16 t2, u16 t3] true 7 none), (10, Blk.mk [u8 0, u16 0, u8 0, u8 0, u8 0] true 5 none)]) (by kernel_rfl) trivial ?_
      refine AWP.cond (b := false) (by kernel_rfl) (fun h => by cases h) (fun _ => ?_)
      refine AWP.skip ?_
      refine AWP.seq ?_
      refine AWP.seq ?_
      refine AWP.regionT tcok hmix [] [5, 6, 10, 11, 98] [5, 6, 10] (os := []) (s' := St.mk [(5, T.plain (V.ptr 5 0)), (6, T.plain (V.ptr 6 0)), (10, T.plain (V.ptr 10 0)), (11, T.plain (i64 0)), (98, T.plain (vb true))] [(5, Blk.mk [u8 1, u16 (up s 65535), u8 0, u8 (up se 255), u8 0] true 5 none), (6, Blk.mk [u8 c1, u8 c2, u8 c3, u16 t0, u16 t1, u16 t2, u16 t3] true 7 none), (10, Blk.mk [u8 0, u16 0, u8 0, u8 0, u8 0] true 5 none)]) (by kernel_rfl) trivial ?_
      refine AWP.cond (b := true) (by kernel_rfl) (fun _ => ?_) (fun h => by cases h)
      refine AWP.seq ?_
      refine AWP.regionT tcok hmix [] [5, 10, 11, 114] [5, 10] (os := []) (s' := St.mk [(5, T.plain (V.ptr 5 0)), (10, T.plain (V.ptr 10 0)), (11, T.plain (i64 0)), (114, T.plain (vb (decide (t1 > 0) && decide (up s 65535 ≥ t1))))] [(5, Blk.mk [u8 1, u16 (up s 65535), u8 0, u8 (up se 255), u8 0] true 5 none), (10, Blk.mk [u8 0, u16 0, u8 0, u8 0, u8 0] true 5 none)]) (by kernel_rfl) trivial ?_
      refine AWP.cond (b := decide (t1 > 0) && decide (up s 65535 ≥ t1)) (by kernel_rfl) (fun hq40 => ?_) (fun hq40 => ?_)
      · try simp only [Bool.or_false, Bool.false_or, Bool.true_and, Bool.and_true, decide_eq_true_eq, decide_eq_false_iff_not, Bool.and_eq_true, Bool.or_eq_true, Bool.or_eq_false_iff, Bool.not_eq_true', Bool.and_eq_false_iff, beq_iff_eq, bne_iff_ne, beq_eq_false_iff_ne, Bool.not_eq_false'] at hq40
        refine AWP.seq ?_
        refine AWP.regionT tcok hmix [] [5, 10, 11] [5, 10] (os := []) (s' := St.mk [(5, T.plain (V.ptr 5 0)), (10, T.plain (V.ptr 10 0)), (11, T.plain (i64 3))] [(5, Blk.mk [u8 1, u16 (up s 65535), u8 0, u8 (up se 255), u8 0] true 5 none), (10, Blk.mk [u8 0, u16 0, u8 0, u8 0, u8 0] true 5 none)]) (by kernel_rfl) trivial ?_
        refine AWP.ret ?_
        refine ⟨Or.inr rfl, Eq.trans (b := some ([], V.tup [V.agg true [u8 0, u16 0, u8 0, u8 0, u8 0], i64 3])) (by kernel_rfl) ?_⟩
        (clear b1 b2 b3 b4 h1 h2 h3 h4 h5 h6 h7 h8; cases x <;> cases y <;> cases z <;> first | contradiction | (exfalso; simp at *; done) | (simp (disch := omega) [step, rest, count, Au.zero, Au.at, since_up, more_up, late, reached, if_pos, if_neg]; done))
      try simp only [Bool.or_false, Bool.false_or, Bool.true_and, Bool.and_true, decide_eq_true_eq, decide_eq_false_iff_not, Bool.and_eq_true, Bool.or_eq_true, Bool.or_eq_false_iff, Bool.not_eq_true', Bool.and_eq_false_iff, beq_iff_eq, bne_iff_ne, beq_eq_false_iff_ne, Bool.not_eq_false'] at hq40
      refine AWP.skip ?_
      refine AWP.seq ?_
      refine AWP.regionT tcok hmix [] [10, 11] [10] (os := []) (s' := St.mk [(10, T.plain (V.ptr 10 0)), (11, T.plain (i64 0))] [(10, Blk.mk [u8 1, u16 (up s 65535), u8 0, u8 (up se 255), u8 0] true 5 none)]) (by kernel_rfl) trivial ?_
      refine AWP.ret ?_
      refine ⟨Or.inr rfl, Eq.trans (b := some ([], V.tup [V.agg true [u8 1, u16 (up s 65535), u8 0, u8 (up se 255), u8 0], i64 0])) (by kernel_rfl) ?_⟩
      (clear b1 b2 b3 b4 h1 h2 h3 h4 h5 h6 h7 h8; cases x <;> cases y <;> cases z <;> first | contradiction | (exfalso; simp at *; done) | (simp (disch := omega) [step, rest, count, Au.zero, Au.at, since_up, more_up, late, reached, if_pos, if_neg]; done))
    try simp only [Bool.or_false, Bool.false_or, Bool.true_and, Bool.and_true, decide_eq_true_eq, decide_eq_false_iff_not, Bool.and_eq_true, Bool.or_eq_true, Bool.or_eq_false_iff, Bool.not_eq_true', Bool.and_eq_false_iff, beq_iff_eq, bne_iff_ne, beq_eq_false_iff_ne, Bool.not_eq_false'] at hq36
    refine AWP.regionT tcok hmix [] [5, 6, 10, 11, 12, 13, 14] [5, 6, 10] (os := []) (s' := St.mk [(5, T.plain (V.ptr 5 0)), (6, T.plain (V.ptr 6 0)), (10, T.plain (V.ptr 10 0)), (11, T.plain (i64 0)), (12, T.plain (i64 0)), (13, T.plain (i64 0)), (14, T.plain (i64 (up dk 255)))] [(5, Blk.mk [u8 1, u16 (up s 65535), u8 cl, u8 se, u8 dk] true 5 none), (6, Blk.mk [u8 c1, u8 c2, u8 c3, u16 t0, u16 t1, u16 t2, u16 t3] true 7 none), (10, Blk.mk [u8 0, u16 0, u8 0, u8 0, u8 0] true 5 none)]) (by kernel_rfl) trivial ?_
    refine AWP.seq ?_
    refine AWP.regionT tcok hmix [(5, ⟨some (u8 (up dk 255)), none⟩)] [5, 6, 10, 11] [5, 6, 10] (os := [u8 (IntKind.wrap IntKind.u8 (up dk 255)) = u8 (up dk 255)]) (s' := St.mk [(5, T.plain (V.ptr 5 0)), (6, T.plain (V.ptr 6 0)), (10, T.plain (V.ptr 10 0)), (11, T.plain (i64 0))] [(5, Blk.mk [u8 1, u16 (up s 65535), u8 0, u8 0, u8 (up dk 255)] true 5 none), (6, Blk.mk [u8 c1, u8 c2, u8 c3, u16 t0, u16 t1, u16 t2, u16 t3] true 7 none), (10, Blk.mk [u8 0, u16 0, u8 0, u8 0, u8 0] true 5 none)]) (by kernel_rfl) ⟨(wr_u8 (by omega) (by omega)), trivial⟩ ?_
    refine AWP.seq ?_
    refine AWP.seq ?_
    refine AWP.regionT tcok hmix [] [5, 6, 10, 11, 66] [5, 6, 10] (os := []) (s' := St.mk [(5, T.plain (V.ptr 5 0)), (6, T.plain (V.ptr 6 0)), (10, T.plain (V.ptr 10 0)), (11, T.plain (i64 0)), (66, T.plain (vb (true && decide (c1 > 0) && decide (0 ≥ c1))))] [(5, Blk.mk [u8 1, u16 (up s 65535), u8 0, u8 0, u8 (up dk 255)] true 5 none), (6, Blk.mk [u8 c1, u8 c2, u8 c3, u16 t0, u16 t1, u16 t2, u16 t3] true 7 none), (10, Blk.mk [u8 0, u16 0, u8 0, u8 0, u8 0] true 5 none)]) (by kernel_rfl) trivial ?_
    refine AWP.cond (b := true && decide (c1 > 0) && decide (0 ≥ c1)) (by kernel_rfl) (fun hq41 => ?_) (fun hq41 => ?_)
    · try simp only [Bool.or_false, Bool.false_or, Bool.true_and, Bool.and_true, decide_eq_true_eq, decide_eq_false_iff_not, Bool.and_eq_true, Bool.or_eq_true, Bool.or_eq_false_iff, Bool.not_eq_true', Bool.and_eq_false_iff, beq_iff_eq, bne_iff_ne, beq_eq_false_iff_ne, Bool.not_eq_false'] at hq41
      (exfalso; omega)
    try simp only [Bool.or_false, Bool.false_or, Bool.true_and, Bool.and_true, decide_eq_true_eq, decide_eq_false_iff_not, Bool.and_eq_true, Bool.or_eq_true, Bool.or_eq_false_iff, Bool.not_eq_true', Bool.and_eq_false_iff, beq_iff_eq, bne_iff_ne, beq_eq_false_iff_ne, Bool.not_eq_false'] at hq41
    refine AWP.skip ?_
    refine AWP.seq ?_
    refine AWP.seq ?_
    refine AWP.regionT tcok hmix [] [5, 6, 10, 11, 82] [5, 6, 10] (os := []) (s' := St.mk [(5, T.plain (V.ptr 5 0)), (6, T.plain (V.ptr 6 0)), (10, T.plain (V.ptr 10 0)), (11, T.plain (i64 0)), (82, T.plain (vb false))] [(5, Blk.mk [u8 1, u16 (up s 65535), u8 0, u8 0, u8 (up dk 255)] true 5 none), (6, Blk.mk [u8 c1, u8 c2, u8 c3, u16 t0, u16 t1, u16 t2, u16 t3] true 7 none), (10, Blk.mk [u8 0, u16 0, u8 0, u8 0, u8 0] true 5 none)]) (by kernel_rfl) trivial ?_
    refine AWP.cond (b := false) (by kernel_rfl) (fun h => by cases h) (fun _ => ?_)
    refine AWP.skip ?_
    refine AWP.seq ?_
    refine AWP.seq ?_
    refine AWP.regionT tcok hmix [] [5, 6, 10, 11, 98] [5, 6, 10] (os := []) (s' := St.mk [(5, T.plain (V.ptr 5 0)), (6, T.plain (V.ptr 6 0)), (10, T.plain (V.ptr 10 0)), (11, T.plain (i64 0)), (98, T.plain (vb true))] [(5, Blk.mk [u8 1, u16 (up s 65535), u8 0, u8 0, u8 (up dk 255)] true 5 none), (6, Blk.mk [u8 c1, u8 c2, u8 c3, u16 t0, u16 t1, u16 t2, u16 t3] true 7 none), (10, Blk.mk [u8 0, u16 0, u8 0, u8 0, u8 0] true 5 none)]) (by kernel_rfl) trivial ?_
    refine AWP.cond (b := true) (by kernel_rfl) (fun _ => ?_) (fun h => by cases h)
    refine AWP.seq ?_
    refine AWP.regionT tcok hmix [] [5, 10, 11, 114] [5, 10] (os := []) (s' := St.mk [(5, T.plain (V.ptr 5 0)), (10, T.plain (V.ptr 10 0)), (11, T.plain (i64 0)), (114, T.plain (vb (decide (t1 > 0) && decide (up s 65535 ≥ t1))))] [(5, Blk.mk [u8 1, u16 (up s 65535), u8 0, u8 0, u8 (up dk 255)] true 5 none), (10, Blk.mk [u8 0, u16 0, u8 0, u8 0, u8 0] true 5 none)]) (by kernel_rfl) trivial ?_
    refine AWP.cond (b := decide (t1 > 0) && decide (up s 65535 ≥ t1)) (by kernel_rfl) (fun hq44 => ?_) (fun hq44 => ?_)
    · try simp only [Bool.or_false, Bool.false_or, Bool.true_and, Bool.and_true, decide_eq_true_eq, decide_eq_false_iff_not, Bool.and_eq_true, Bool.or_eq_true, Bool.or_eq_false_iff, Bool.not_eq_true', Bool.and_eq_false_iff, beq_iff_eq, bne_iff_ne, beq_eq_false_iff_ne, Bool.not_eq_false'] at hq44
      refine AWP.seq ?_
      refine AWP.regionT tcok hmix [] [5, 10, 11] [5, 10] (os := []) (s' := St.mk [(5, T.plain (V.ptr 5 0)), (10, T.plain (V.ptr 10 0)), (11, T.plain (i64 3))] [(5, Blk.mk [u8 1, u16 (up s 65535), u8 0, u8 0, u8 (up dk 255)] true 5 none), (10, Blk.mk [u8 0, u16 0, u8 0, u8 0, u8 0] true 5 none)]) (by kernel_rfl) trivial ?_
      refine AWP.ret ?_
      refine ⟨Or.inr rfl, Eq.trans (b := some ([], V.tup [V.agg true [u8 0, u16 0, u8 0, u8 0, u8 0], i64 3])) (by kernel_rfl) ?_⟩
      (clear b1 b2 b3 b4 h1 h2 h3 h4 h5 h6 h7 h8; cases x <;> cases y <;> cases z <;> first | contradiction | (exfalso; simp at *; done) | (simp (disch := omega) [step, rest, count, Au.zero, Au.at, since_up, more_up, late, reached, if_pos, if_neg]; done))
    try simp only [Bool.or_false, Bool.false_or, Bool.true_and, Bool.and_true, decide_eq_true_eq, decide_eq_false_iff_not, Bool.and_eq_true, Bool.or_eq_true, Bool.or_eq_false_iff, Bool.not_eq_true', Bool.and_eq_false_iff, beq_iff_eq, bne_iff_ne, beq_eq_false_iff_ne, Bool.not_eq_false'] at hq44
    refine AWP.skip ?_
    refine AWP.seq ?_
    refine AWP.regionT tcok hmix [] [10, 11] [10] (os := []) (s' := St.mk [(10, T.plain (V.ptr 10 0)), (11, T.plain (i64 0))] [(10, Blk.mk [u8 1, u16 (up s 65535), u8 0, u8 0, u8 (up dk 255)] true 5 none)]) (by kernel_rfl) trivial ?_
    refine AWP.ret ?_
    refine ⟨Or.inr rfl, Eq.trans (b := some ([], V.tup [V.agg true [u8 1, u16 (up s 65535), u8 0, u8 0, u8 (up dk 255)], i64 0])) (by kernel_rfl) ?_⟩
    (clear b1 b2 b3 b4 h1 h2 h3 h4 h5 h6 h7 h8; cases x <;> cases y <;> cases z <;> first | contradiction | (exfalso; simp at *; done) | (simp (disch := omega) [step, rest, count, Au.zero, Au.at, since_up, more_up, late, reached, if_pos, if_neg]; done))
  try simp only [Bool.or_false, Bool.false_or, Bool.true_and, Bool.and_true, decide_eq_true_eq, decide_eq_false_iff_not, Bool.and_eq_true, Bool.or_eq_true, Bool.or_eq_false_iff, Bool.not_eq_true', Bool.and_eq_false_iff, beq_iff_eq, bne_iff_ne, beq_eq_false_iff_ne, Bool.not_eq_false'] at hq35
  refine AWP.skip ?_
  refine AWP.seq ?_
  refine AWP.seq ?_
  refine AWP.regionT tcok hmix [] [5, 6, 10, 11, 12, 13, 14, 42] [5, 6, 10] (os := []) (s' := St.mk [(5, T.plain (V.ptr 5 0)), (6, T.plain (V.ptr 6 0)), (10, T.plain (V.ptr 10 0)), (11, T.plain (i64 0)), (12, T.plain (i64 (up cl 255))), (13, T.plain (i64 (up se 255))), (14, T.plain (i64 (up dk 255))), (42, T.plain (vb y))] [(5, Blk.mk [u8 1, u16 (up s 65535), u8 cl, u8 se, u8 dk] true 5 none), (6, Blk.mk [u8 c1, u8 c2, u8 c3, u16 t0, u16 t1, u16 t2, u16 t3] true 7 none), (10, Blk.mk [u8 0, u16 0, u8 0, u8 0, u8 0] true 5 none)]) (by kernel_rfl) trivial ?_
  refine AWP.cond (b := y) (by kernel_rfl) (fun hq45 => ?_) (fun hq45 => ?_)
  · try simp only [Bool.or_false, Bool.false_or, Bool.true_and, Bool.and_true, decide_eq_true_eq, decide_eq_false_iff_not, Bool.and_eq_true, Bool.or_eq_true, Bool.or_eq_false_iff, Bool.not_eq_true', Bool.and_eq_false_iff, beq_iff_eq, bne_iff_ne, beq_eq_false_iff_ne, Bool.not_eq_false'] at hq45
    refine AWP.regionT tcok hmix [] [5, 6, 10, 11, 12, 13, 14] [5, 6, 10] (os := []) (s' := St.mk [(5, T.plain (V.ptr 5 0)), (6, T.plain (V.ptr 6 0)), (10, T.plain (V.ptr 10 0)), (11, T.plain (i64 0)), (12, T.plain (i64 (up cl 255))), (13, T.plain (i64 (up se 255))), (14, T.plain (i64 0))] [(5, Blk.mk [u8 1, u16 (up s 65535), u8 cl, u8 se, u8 dk] true 5 none), (6, Blk.mk [u8 c1, u8 c2, u8 c3, u16 t0, u16 t1, u16 t2, u16 t3] true 7 none), (10, Blk.mk [u8 0, u16 0, u8 0, u8 0, u8 0] true 5 none)]) (by kernel_rfl) trivial ?_
    refine AWP.seq ?_
    refine AWP.regionT tcok hmix [(1, ⟨some (u8 (up cl 255)), none⟩), (3, ⟨some (u8 (up se 255)), none⟩)] [5, 6, 10, 11] [5, 6, 10] (os := [u8 (IntKind.wrap IntKind.u8 (up cl 255)) = u8 (up cl 255), u8 (IntKind.wrap IntKind.u8 (up se 255)) = u8 (up se 255)]) (s' := St.mk [(5, T.plain (V.ptr 5 0)), (6, T.plain (V.ptr 6 0)), (10, T.plain (V.ptr 10 0)), (11, T.plain (i64 0))] [(5, Blk.mk [u8 1, u16 (up s 65535), u8 (up cl 255), u8 (up se 255), u8 0] true 5 none), (6, Blk.mk [u8 c1, u8 c2, u8 c3, u16 t0, u16 t1, u16 t2, u16 t3] true 7 none), (10, Blk.mk [u8 0, u16 0, u8 0, u8 0, u8 0] true 5 none)]) (by kernel_rfl) ⟨(wr_u8 (by omega) (by omega)), (wr_u8 (by omega) (by omega)), trivial⟩ ?_
    refine AWP.seq ?_
    refine AWP.seq ?_
    refine AWP.regionT tcok hmix [] [5, 6, 10, 11, 66] [5, 6, 10] (os := []) (s' := St.mk [(5, T.plain (V.ptr 5 0)), (6, T.plain (V.ptr 6 0)), (10, T.plain (V.ptr 10 0)), (11, T.plain (i64 0)), (66, T.plain (vb (true && decide (c1 > 0) && decide (up cl 255 ≥ c1))))] [(5, Blk.mk [u8 1, u16 (up s 65535), u8 (up cl 255), u8 (up se 255), u8 0] true 5 none), (6, Blk.mk [u8 c1, u8 c2, u8 c3, u16 t0, u16 t1, u16 t2, u16 t3] true 7 none), (10, Blk.mk [u8 0, u16 0, u8 0, u8 0, u8 0] true 5 none)]) (by kernel_rfl) trivial ?_
    refine AWP.cond (b := true && decide (c1 > 0) && decide (up cl 255 ≥ c1)) (by kernel_rfl) (fun hq46 => ?_) (fun hq46 => ?_)
    · try simp only [Bool.or_false, Bool.false_or, Bool.true_and, Bool.and_true, decide_eq_true_eq, decide_eq_false_iff_not, Bool.and_eq_true, Bool.or_eq_true, Bool.or_eq_false_iff, Bool.not_eq_true', Bool.and_eq_false_iff, beq_iff_eq, bne_iff_ne, beq_eq_false_iff_ne, Bool.not_eq_false'] at hq46
      refine AWP.seq ?_
      refine AWP.regionT tcok hmix [] [5, 6, 10, 11] [5, 6, 10] (os := []) (s' := St.mk [(5, T.plain (V.ptr 5 0)), (6, T.plain (V.ptr 6 0)), (10, T.plain (V.ptr 10 0)), (11, T.plain (i64 2))] [(5, Blk.mk [u8 1, u16 (up s 65535), u8 (up cl 255), u8 (up se 255), u8 0] true 5 none), (6, Blk.mk [u8 c1, u8 c2, u8 c3, u16 t0, u16 t1, u16 t2, u16 t3] true 7 none), (10, Blk.mk [u8 2, u16 0, u8 0, u8 0, u8 0] true 5 none)]) (by kernel_rfl) trivial ?_
      refine AWP.ret ?_
      refine ⟨Or.inr rfl, Eq.trans (b := some ([], V.tup [V.agg true [u8 2, u16 0, u8 0, u8 0, u8 0], i64 2])) (by kernel_rfl) ?_⟩
      (clear b1 b2 b3 b4 h1 h2 h3 h4 h5 h6 h7 h8; cases x <;> cases y <;> cases z <;> first | contradiction | (exfalso; simp at *; done) | (simp (disch := omega) [step, rest, count, Au.zero, Au.at, since_up, more_up, late, reached, if_pos, if_neg]; done))
    try simp only [Bool.or_false, Bool.false_or, Bool.true_and, Bool.and_true, decide_eq_true_eq, decide_eq_false_iff_not, Bool.and_eq_true, Bool.or_eq_true, Bool.or_eq_false_iff, Bool.not_eq_true', Bool.and_eq_false_iff, beq_iff_eq, bne_iff_ne, beq_eq_false_iff_ne, Bool.not_eq_false'] at hq46
    refine AWP.skip ?_
    refine AWP.seq ?_
    refine AWP.seq ?_
    refine AWP.regionT tcok hmix [] [5, 6, 10, 11, 82] [5, 6, 10] (os := []) (s' := St.mk [(5, T.plain (V.ptr 5 0)), (6, T.plain (V.ptr 6 0)), (10, T.plain (V.ptr 10 0)), (11, T.plain (i64 0)), (82, T.plain (vb false))] [(5, Blk.mk [u8 1, u16 (up s 65535), u8 (up cl 255), u8 (up se 255), u8 0] true 5 none), (6, Blk.mk [u8 c1, u8 c2, u8 c3, u16 t0, u16 t1, u16 t2, u16 t3] true 7 none), (10, Blk.mk [u8 0, u16 0, u8 0, u8 0, u8 0] true 5 none)]) (by kernel_rfl) trivial ?_
    refine AWP.cond (b := false) (by kernel_rfl) (fun h => by cases h) (fun _ => ?_)
    refine AWP.skip ?_
    refine AWP.seq ?_
    refine AWP.seq ?_
    refine AWP.regionT tcok hmix [] [5, 6, 10, 11, 98] [5, 6, 10] (os := []) (s' := St.mk [(5, T.plain (V.ptr 5 0)), (6, T.plain (V.ptr 6 0)), (10, T.plain (V.ptr 10 0)), (11, T.plain (i64 0)), (98, T.plain (vb true))] [(5, Blk.mk [u8 1, u16 (up s 65535), u8 (up cl 255), u8 (up se 255), u8 0] true 5 none), (6, Blk.mk [u8 c1, u8 c2, u8 c3, u16 t0, u16 t1, u16 t2, u16 t3] true 7 none), (10, Blk.mk [u8 0, u16 0, u8 0, u8 0, u8 0] true 5 none)]) (by kernel_rfl) trivial ?_
    refine AWP.cond (b := true) (by kernel_rfl) (fun _ => ?_) (fun h => by cases h)
    refine AWP.seq ?_
    refine AWP.regionT tcok hmix [] [5, 10, 11, 114] [5, 10] (os := []) (s' := St.mk [(5, T.plain (V.ptr 5 0)), (10, T.plain (V.ptr 10 0)), (11, T.plain (i64 0)), (114, T.plain (vb (decide (t1 > 0) && decide (up s 65535 ≥ t1))))] [(5, Blk.mk [u8 1, u16 (up s 65535), u8 (up cl 255), u8 (up se 255), u8 0] true 5 none), (10, Blk.mk [u8 0, u16 0, u8 0, u8 0, u8 0] true 5 none)]) (by kernel_rfl) trivial ?_
    refine AWP.cond (b := decide (t1 > 0) && decide (up s 65535 ≥ t1)) (by kernel_rfl) (fun hq49 => ?_) (fun hq49 => ?_)
    · try simp only [Bool.or_false, Bool.false_or, Bool.true_and, Bool.and_true, decide_eq_true_eq, decide_eq_false_iff_not, Bool.and_eq_true, Bool.or_eq_true, Bool.or_eq_false_iff, Bool.not_eq_true', Bool.and_eq_false_iff, beq_iff_eq, bne_iff_ne, beq_eq_false_iff_ne, Bool.not_eq_false'] at hq49
      refine AWP.seq ?_
      refine AWP.regionT tcok hmix [] [5, 10, 11] [5, 10] (os := []) (s' := St.mk [(5, T.plain (V.ptr 5 0)), (10, T.plain (V.ptr 10 0)), (11, T.plain (i64 3))] [(5, Blk.mk [u8 1, u16 (up s 65535), u8 (up cl 255), u8 (up se 255), u8 0] true 5 none), (10, Blk.mk [u8 0, u16 0, u8 0, u8 0, u8 0] true 5 none)]) (by kernel_rfl) trivial ?_
      refine AWP.ret ?_
      refine ⟨Or.inr rfl, Eq.trans (b := some ([], V.tup [V.agg true [u8 0, u16 0, u8 0, u8 0, u8 0], i64 3])) (by kernel_rfl) ?_⟩
      (clear b1 b2 b3 b4 h1 h2 h3 h4 h5 h6 h7 h8; cases x <;> cases y <;> cases z <;> first | contradiction | (exfalso; simp at *; done) | (simp (disch := omega) [step, rest, count, Au.zero, Au.at, since_up, more_up, late, reached, if_pos, if_neg]; done))
    try simp only [Bool.or_false, Bool.false_or, Bool.true_and, Bool.and_true, decide_eq_true_eq, decide_eq_false_iff_not, Bool.and_eq_true, Bool.or_eq_true, Bool.or_eq_false_iff, Bool.not_eq_true', Bool.and_eq_false_iff, beq_iff_eq, bne_iff_ne, beq_eq_false_iff_ne, Bool.not_eq_false'] at hq49
    refine AWP.skip ?_
    refine AWP.seq ?_
    refine AWP.regionT tcok hmix [] [10, 11] [10] (os := []) (s' := St.mk [(10, T.plain (V.ptr 10 0)), (11, T.plain (i64 0))] [(10, Blk.mk [u8 1, u16 (up s 65535), u8 (up cl 255), u8 (up se 255), u8 0] true 5 none)]) (by kernel_rfl) trivial ?_
    refine AWP.ret ?_
    refine ⟨Or.inr rfl, Eq.trans (b := some ([], V.tup [V.agg true [u8 1, u16 (up s 65535), u8 (up cl 255), u8 (up se 255), u8 0], i64 0])) (by kernel_rfl) ?_⟩
    (clear b1 b2 b3 b4 h1 h2 h3 h4 h5 h6 h7 h8; cases x <;> cases y <;> cases z <;> first | contradiction | (exfalso; simp at *; done) | (simp (disch := omega) [step, rest, count, Au.zero, Au.at, since_up, more_up, late, reached, if_pos, if_neg]; done))
  try simp only [Bool.or_false, Bool.false_or, Bool.true_and, Bool.and_true, decide_eq_true_eq, decide_eq_false_iff_not, Bool.and_eq_true, Bool.or_eq_true, Bool.or_eq_false_iff, Bool.not_eq_true', Bool.and_eq_false_iff, beq_iff_eq, bne_iff_ne, beq_eq_false_iff_ne, Bool.not_eq_false'] at hq45
  refine AWP.regionT tcok hmix [] [5, 6, 10, 11, 12, 13, 14] [5, 6, 10] (os := []) (s' := St.mk [(5, T.plain (V.ptr 5 0)), (6, T.plain (V.ptr 6 0)), (10, T.plain (V.ptr 10 0)), (11, T.plain (i64 0)), (12, T.plain (i64 (up cl 255))), (13, T.plain (i64 0)), (14, T.plain (i64 (up dk 255)))] [(5, Blk.mk [u8 1, u16 (up s 65535), u8 cl, u8 se, u8 dk] true 5 none), (6, Blk.mk [u8 c1, u8 c2, u8 c3, u16 t0, u16 t1, u16 t2, u16 t3] true 7 none), (10, Blk.mk [u8 0, u16 0, u8 0, u8 0, u8 0] true 5 none)]) (by kernel_rfl) trivial ?_
  refine AWP.seq ?_
  refine AWP.regionT tcok hmix [(1, ⟨some (u8 (up cl 255)), none⟩), (5, ⟨some (u8 (up dk 255)), none⟩)] [5, 6, 10, 11] [5, 6, 10] (os := [u8 (IntKind.wrap IntKind.u8 (up cl 255)) = u8 (up cl 255), u8 (IntKind.wrap IntKind.u8 (up dk 255)) = u8 (up dk 255)]) (s' := St.mk [(5, T.plain (V.ptr 5 0)), (6, T.plain (V.ptr 6 0)), (10, T.plain (V.ptr 10 0)), (11, T.plain (i64 0))] [(5, Blk.mk [u8 1, u16 (up s 65535), u8 (up cl 255), u8 0, u8 (up dk 255)] true 5 none), (6, Blk.mk [u8 c1, u8 c2, u8 c3, u16 t0, u16 t1, u16 t2, u16 t3] true 7 none), (10, Blk.mk [u8 0, u16 0, u8 0, u8 0, u8 0] true 5 none)]) (by kernel_rfl) ⟨(wr_u8 (by omega) (by omega)), (wr_u8 (by omega) (by omega)), trivial⟩ ?_
  refine AWP.seq ?_
  refine AWP.seq ?_
  refine AWP.regionT tcok hmix [] [5, 6, 10, 11, 66] [5, 6, 10] (os := []) (s' := St.mk [(5, T.plain (V.ptr 5 0)), (6, T.plain (V.ptr 6 0)), (10, T.plain (V.ptr 10 0)), (11, T.plain (i64 0)), (66, T.plain (vb (true && decide (c1 > 0) && decide (up cl 255 ≥ c1))))] [(5, Blk.mk [u8 1, u16 (up s 65535), u8 (up cl 255), u8 0, u8 (up dk 255)] true 5 none), (6, Blk.mk [u8 c1, u8 c2, u8 c3, u16 t0, u16 t1, u16 t2, u16 t3] true 7 none), (10, Blk.mk [u8 0, u16 0, u8 0, u8 0, u8 0] true 5 none)]) (by kernel_rfl) trivial ?_
  refine AWP.cond (b := true && decide (c1 > 0) && decide (up cl 255 ≥ c1)) (by kernel_rfl) (fun hq50 => ?_) (fun hq50 => ?_)
  · try simp only [Bool.or_false, Bool.false_or, Bool.true_and, Bool.and_true, decide_eq_true_eq, decide_eq_false_iff_not, Bool.and_eq_true, Bool.or_eq_true, Bool.or_eq_false_iff, Bool.not_eq_true', Bool.and_eq_false_iff, beq_iff_eq, bne_iff_ne, beq_eq_false_iff_ne, Bool.not_eq_false'] at hq50
    refine AWP.seq ?_
    refine AWP.regionT tcok hmix [] [5, 6, 10, 11] [5, 6, 10] (os := []) (s' := St.mk [(5, T.plain (V.ptr 5 0)), (6, T.plain (V.ptr 6 0)), (10, T.plain (V.ptr 10 0)), (11, T.plain (i64 2))] [(5, Blk.mk [u8 1, u16 (up s 65535), u8 (up cl 255), u8 0, u8 (up dk 255)] true 5 none), (6, Blk.mk [u8 c1, u8 c2, u8 c3, u16 t0, u16 t1, u16 t2, u16 t3] true 7 none), (10, Blk.mk [u8 2, u16 0, u8 0, u8 0, u8 0] true 5 none)]) (by kernel_rfl) trivial ?_
    refine AWP.ret ?_
    refine ⟨Or.inr rfl, Eq.trans (b := some ([], V.tup [V.agg true [u8 2, u16 0, u8 0, u8 0, u8 0], i64 2])) (by kernel_rfl) ?_⟩
    (clear b1 b2 b3 b4 h1 h2 h3 h4 h5 h6 h7 h8; cases x <;> cases y <;> cases z <;> first | contradiction | (exfalso; simp at *; done) | (simp (disch := omega) [step, rest, count, Au.zero, Au.at, since_up, more_up, late, reached, if_pos, if_neg]; done))
  try simp only [Bool.or_false, Bool.false_or, Bool.true_and, Bool.and_true, decide_eq_true_eq, decide_eq_false_iff_not, Bool.and_eq_true, Bool.or_eq_true, Bool.or_eq_false_iff, Bool.not_eq_true', Bool.and_eq_false_iff, beq_iff_eq, bne_iff_ne, beq_eq_false_iff_ne, Bool.not_eq_false'] at hq50
  refine AWP.skip ?_
  refine AWP.seq ?_
  refine AWP.seq ?_
  refine AWP.regionT tcok hmix [] [5, 6, 10, 11, 82] [5, 6, 10] (os := []) (s' := St.mk [(5, T.plain (V.ptr 5 0)), (6, T.plain (V.ptr 6 0)), (10, T.plain (V.ptr 10 0)), (11, T.plain (i64 0)), (82, T.plain (vb false))] [(5, Blk.mk [u8 1, u16 (up s 65535), u8 (up cl 255), u8 0, u8 (up dk 255)] true 5 none), (6, Blk.mk [u8 c1, u8 c2, u8 c3, u16 t0, u16 t1, u16 t2, u16 t3] true 7 none), (10, Blk.mk [u8 0, u16 0, u8 0, u8 0, u8 0] true 5 none)]) (by kernel_rfl) trivial ?_
  refine AWP.cond (b := false) (by kernel_rfl) (fun h => by cases h) (fun _ => ?_)
  refine AWP.skip ?_
  refine AWP.seq ?_
  refine AWP.seq ?_
  refine AWP.regionT tcok hmix [] [5, 6, 10, 11, 98] [5, 6, 10] (os := []) (s' := St.mk [(5, T.plain (V.ptr 5 0)), (6, T.plain (V.ptr 6 0)), (10, T.plain (V.ptr 10 0)), (11, T.plain (i64 0)), (98, T.plain (vb true))] [(5, Blk.mk [u8 1, u16 (up s 65535), u8 (up cl 255), u8 0, u8 (up dk 255)] true 5 none), (6, Blk.mk [u8 c1, u8 c2, u8 c3, u16 t0, u16 t1, u16 t2, u16 t3] true 7 none), (10, Blk.mk [u8 0, u16 0, u8 0, u8 0, u8 0] true 5 none)]) (by kernel_rfl) trivial ?_
  refine AWP.cond (b := true) (by kernel_rfl) (fun _ => ?_) (fun h => by cases h)
  refine AWP.seq ?_
  refine AWP.regionT tcok hmix [] [5, 10, 11, 114] [5, 10] (os := []) (s' := St.mk [(5, T.plain (V.ptr 5 0)), (10, T.plain (V.ptr 10 0)), (11, T.plain (i64 0)), (114, T.plain (vb (decide (t1 > 0) && decide (up s 65535 ≥ t1))))] [(5, Blk.mk [u8 1, u16 (up s 65535), u8 (up cl 255), u8 0, u8 (up dk 255)] true 5 none), (10, Blk.mk [u8 0, u16 0, u8 0, u8 0, u8 0] true 5 none)]) (by kernel_rfl) trivial ?_
  refine AWP.cond (b := decide (t1 > 0) && decide (up s 65535 ≥ t1)) (by kernel_rfl) (fun hq53 => ?_) (fun hq53 => ?_)
  · try simp only [Bool.or_false, Bool.false_or, Bool.true_and, Bool.and_true, decide_eq_true_eq, decide_eq_false_iff_not, Bool.and_eq_true, Bool.or_eq_true, Bool.or_eq_false_iff, Bool.not_eq_true', Bool.and_eq_false_iff, beq_iff_eq, bne_iff_ne, beq_eq_false_iff_ne, Bool.not_eq_false'] at hq53
    refine AWP.seq ?_
    refine AWP.regionT tcok hmix [] [5, 10, 11] [5, 10] (os := []) (s' := St.mk [(5, T.plain (V.ptr 5 0)), (10, T.plain (V.ptr 10 0)), (11, T.plain (i64 3))] [(5, Blk.mk [u8 1, u16 (up s 65535), u8 (up cl 255), u8 0, u8 (up dk 255)] true 5 none), (10, Blk.mk [u8 0, u16 0, u8 0, u8 0, u8 0] true 5 none)]) (by kernel_rfl) trivial ?_
    refine AWP.ret ?_
    refine ⟨Or.inr rfl, Eq.trans (b := some ([], V.tup [V.agg true [u8 0, u16 0, u8 0, u8 0, u8 0], i64 3])) (by kernel_rfl) ?_⟩
    (clear b1 b2 b3 b4 h1 h2 h3 h4 h5 h6 h7 h8; cases x <;> cases y <;> cases z <;> first | contradiction | (exfalso; simp at *; done) | (simp (disch := omega) [step, rest, count, Au.zero, Au.at, since_up, more_up, late, reached, if_pos, if_neg]; done))
  try simp only [Bool.or_false, Bool.false_or, Bool.true_and, Bool.and_true, decide_eq_true_eq, decide_eq_false_iff_not, Bool.and_eq_true, Bool.or_eq_true, Bool.or_eq_false_iff, Bool.not_eq_true', Bool.and_eq_false_iff, beq_iff_eq, bne_iff_ne, beq_eq_false_iff_ne, Bool.not_eq_false'] at hq53
  refine AWP.skip ?_
  refine AWP.seq ?_
  refine AWP.regionT tcok hmix [] [10, 11] [10] (os := []) (s' := St.mk [(10, T.plain (V.ptr 10 0)), (11, T.plain (i64 0))] [(10, Blk.mk [u8 1, u16 (up s 65535), u8 (up cl 255), u8 0, u8 (up dk 255)] true 5 none)]) (by kernel_rfl) trivial ?_
  refine AWP.ret ?_
  refine ⟨Or.inr rfl, Eq.trans (b := some ([], V.tup [V.agg true [u8 1, u16 (up s 65535), u8 (up cl 255), u8 0, u8 (up dk 255)], i64 0])) (by kernel_rfl) ?_⟩
  (clear b1 b2 b3 b4 h1 h2 h3 h4 h5 h6 h7 h8; cases x <;> cases y <;> cases z <;> first | contradiction | (exfalso; simp at *; done) | (simp (disch := omega) [step, rest, count, Au.zero, Au.at, since_up, more_up, late, reached, if_pos, if_neg]; done))
theorem con_rstep2 (s cl se dk c1 c2 c3 t0 t1 t2 t3 : Int) (x y z : Bool) (h1 : 0 ≤ s) (h2 : s < 65536) (h3 : 0 ≤ cl) (h4 : cl < 256) (h5 : 0 ≤ se) (h6 : se < 256) (h7 : 0 ≤ dk) (h8 : dk < 256) :
    Con Try.prog 10 [] [.agg true [u8 2, u16 s, u8 cl, u8 se, u8 dk], .agg true [u8 c1, u8 c2, u8 c3, u16 t0, u16 t1, u16 t2, u16 t3], vb x, vb y, vb z] []
      (.tup [(step ⟨2, s, cl, se, dk⟩ ⟨c1, c2, c3, t0, t1, t2, t3⟩ x y z).1.v, i64 (step ⟨2, s, cl, se, dk⟩ ⟨c1, c2, c3, t0, t1, t2, t3⟩ x y z).2]) := by
  have b1 := up_bd s 65535 h1 (by omega)
  have b2 := up_bd cl 255 h3 (by omega)
  have b3 := up_bd se 255 h5 (by omega)
  have b4 := up_bd dk 255 h7 (by omega)
  refine Con.of (C := ⟨Try.prog, tc, Try.f10.ntmps⟩) [] tcok Try.func10 rfl rfl (by kernel_rfl) (by kernel_rfl) ?_
  refine AWP.seq ?_
  refine AWP.regionT tcok hmix [] [2, 3, 4, 5, 6, 10, 11] [5, 6, 10] (os := []) (s' := St.mk [(2, T.plain (vb x)), (3, T.plain (vb y)), (4, T.plain (vb z)), (5, T.plain (V.ptr 5 0)), (6, T.plain (V.ptr 6 0)), (10, T.plain (V.ptr 10 0)), (11, T.plain (i64 0))] [(5, Blk.mk [u8 2, u16 s, u8 cl, u8 se, u8 dk] true 5 none), (6, Blk.mk [u8 c1, u8 c2, u8 c3, u16 t0, u16 t1, u16 t2, u16 t3] true 7 none), (10, Blk.mk [u8 0, u16 0, u8 0, u8 0, u8 0] true 5 none)]) (by kernel_rfl) trivial ?_
  refine AWP.seq ?_
  refine AWP.seq ?_
  refine AWP.regionT tcok hmix [] [2, 3, 5, 6, 10, 11, 20] [5, 6, 10] (os := []) (s' := St.mk [(2, T.plain (vb x)), (3, T.plain (vb y)), (5, T.plain (V.ptr 5 0)), (6, T.plain (V.ptr 6 0)), (10, T.plain (V.ptr 10 0)), (11, T.plain (i64 0)), (20, T.plain (vb (z && true)))] [(5, Blk.mk [u8 2, u16 s, u8 cl, u8 se, u8 dk] true 5 none), (6, Blk.mk [u8 c1, u8 c2, u8 c3, u16 t0, u16 t1, u16 t2, u16 t3] true 7 none), (10, Blk.mk [u8 0, u16 0, u8 0, u8 0, u8 0] true 5 none)]) (by kernel_rfl) trivial ?_
  refine AWP.cond (b := z && true) (by kernel_rfl) (fun hq54 => ?_) (fun hq54 => ?_)
  · try simp only [Bool.or_false, Bool.false_or, Bool.true_and, Bool.and_true, decide_eq_true_eq, decide_eq_false_iff_not, Bool.and_eq_true, Bool.or_eq_true, Bool.or_eq_false_iff, Bool.not_eq_true', Bool.and_eq_false_iff, beq_iff_eq, bne_iff_ne, beq_eq_false_iff_ne, Bool.not_eq_false'] at hq54
    refine AWP.seq ?_
    refine AWP.regionT tcok hmix [] [2, 3, 5, 6, 10, 11] [5, 6, 10] (os := []) (s' := St.mk [(2, T.plain (vb x)), (3, T.plain (vb y)), (5, T.plain (V.ptr 5 0)), (6, T.plain (V.ptr 6 0)), (10, T.plain (V.ptr 10 0)), (11, T.plain (i64 1))] [(5, Blk.mk [u8 2, u16 s, u8 cl, u8 se, u8 dk] true 5 none), (6, Blk.mk [u8 c1, u8 c2, u8 c3, u16 t0, u16 t1, u16 t2, u16 t3] true 7 none), (10, Blk.mk [u8 0, u16 0, u8 0, u8 0, u8 0] true 5 none)]) (by kernel_rfl) trivial ?_
    refine AWP.ret ?_
    refine ⟨Or.inr rfl, Eq.trans (b := some ([], V.tup [V.agg true [u8 0, u16 0, u8 0, u8 0, u8 0], i64 1])) (by kernel_rfl) ?_⟩
    (clear b1 b2 b3 b4 h1 h2 h3 h4 h5 h6 h7 h8; cases x <;> cases y <;> cases z <;> first | contradiction | (exfalso; simp at *; done) | (simp (disch := omega) [step, rest, count, Au.zero, Au.at, since_up, more_up, late, reached, if_pos, if_neg]; done))
  try simp only [Bool.or_false, Bool.false_or, Bool.true_and, Bool.and_true, decide_eq_true_eq, decide_eq_false_iff_not, Bool.and_eq_true, Bool.or_eq_true, Bool.or_eq_false_iff, Bool.not_eq_true', Bool.and_eq_false_iff, beq_iff_eq, bne_iff_ne, beq_eq_false_iff_ne, Bool.not_eq_false'] at hq54
  refine AWP.skip ?_
  refine AWP.seq ?_
  refine AWP.regionT tcok hmix [(2, ⟨some (i64 s), none⟩), (3, ⟨none, some ⟨i64 (up s 65535), [], []⟩⟩), (4, ⟨some (u16 (up s 65535)), none⟩)] [2, 3, 5, 6, 10, 11] [5, 6, 10] (os := [i64 (IntKind.wrap IntKind.i64 s) = i64 s, Con Try.prog 16 [] [i64 s, i64 65535] [] (i64 (up s 65535)), u16 (IntKind.wrap IntKind.u16 (up s 65535)) = u16 (up s 65535)]) (s' := St.mk [(2, T.plain (vb x)), (3, T.plain (vb y)), (5, T.plain (V.ptr 5 0)), (6, T.plain (V.ptr 6 0)), (10, T.plain (V.ptr 10 0)), (11, T.plain (i64 0))] [(5, Blk.mk [u8 2, u16 (up s 65535), u8 cl, u8 se, u8 dk] true 5 none), (6, Blk.mk [u8 c1, u8 c2, u8 c3, u16 t0, u16 t1, u16 t2, u16 t3] true 7 none), (10, Blk.mk [u8 0, u16 0, u8 0, u8 0, u8 0] true 5 none)]) (by kernel_rfl) ⟨(wr_i64 (by omega) (by omega)), (Go.Proofs.Ytklbonfbiakebaa.con_up (s) (65535) (by omega) (by omega) (by omega)), (wr_u16 (by omega) (by omega)), trivial⟩ ?_
  refine AWP.seq ?_
  refine AWP.regionT tcok hmix [(2, ⟨some (i64 cl), none⟩), (3, ⟨none, some ⟨i64 (up cl 255), [], []⟩⟩), (6, ⟨some (i64 se), none⟩), (7, ⟨none, some ⟨i64 (up se 255), [], []⟩⟩), (10, ⟨some (i64 dk), none⟩), (11, ⟨none, some ⟨i64 (up dk 255), [], []⟩⟩)] [2, 3, 5, 6, 10, 11, 12, 13, 14] [5, 6, 10] (os := [i64 (IntKind.wrap IntKind.i64 cl) = i64 cl, Con Try.prog 16 [] [i64 cl, i64 255] [] (i64 (up cl 255)), i64 (IntKind.wrap IntKind.i64 se) = i64 se, Con Try.prog 16 [] [i64 se, i64 255] [] (i64 (up se 255)), i64 (IntKind.wrap IntKind.i64 dk) = i64 dk, Con Try.prog 16 [] [i64 dk, i64 255] [] (i64 (up dk 255))]) (s' := St.mk [(2, T.plain (vb x)), (3, T.plain (vb y)), (5, T.plain (V.ptr 5 0)), (6, T.plain (V.ptr 6 0)), (10, T.plain (V.ptr 10 0)), (11, T.plain (i64 0)), (12, T.plain (i64 (up cl 255))), (13, T.plain (i64 (up se 255))), (14, T.plain (i64 (up dk 255)))] [(5, Blk.mk [u8 2, u16 (up s 65535), u8 cl, u8 se, u8 dk] true 5 none), (6, Blk.mk [u8 c1, u8 c2, u8 c3, u16 t0, u16 t1, u16 t2, u16 t3] true 7 none), (10, Blk.mk [u8 0, u16 0, u8 0, u8 0, u8 0] true 5 none)]) (by kernel_rfl) ⟨(wr_i64 (by omega) (by omega)), (Go.Proofs.Ytklbonfbiakebaa.con_up (cl) (255) (by omega) (by omega) (by omega)), (wr_i64 (by omega) (by omega)), (Go.Proofs.Ytklbonfbiakebaa.con_up (se) (255) (by omega) (by omega) (by omega)), (wr_i64 (by omega) (by omega)), (Go.Proofs.Ytklbonfbiakebaa.con_up (dk) (255) (by omega) (by omega) (by omega)), trivial⟩ ?_
  refine AWP.seq ?_
  refine AWP.seq ?_
  refine AWP.regionT tcok hmix [] [3, 5, 6, 10, 11, 12, 13, 14, 41] [5, 6, 10] (os := []) (s' := St.mk [(3, T.plain (vb y)), (5, T.plain (V.ptr 5 0)), (6, T.plain (V.ptr 6 0)), (10, T.plain (V.ptr 10 0)), (11, T.plain (i64 0)), (12, T.plain (i64 (up cl 255))), (13, T.plain (i64 (up se 255))), (14, T.plain (i64 (up dk 255))), (41, T.plain (vb !x))] [(5, Blk.mk [u8 2, u16 (up s 65535), u8 cl, u8 se, u8 dk] true 5 none), (6, Blk.mk [u8 c1, u8 c2, u8 c3, u16 t0, u16 t1, u16 t2, u16 t3] true 7 none), (10, Blk.mk [u8 0, u16 0, u8 0, u8 0, u8 0] true 5 none)]) (by kernel_rfl) trivial ?_
  refine AWP.cond (b := !x) (by kernel_rfl) (fun hq55 => ?_) (fun hq55 => ?_)
  · try simp only [Bool.or_false, Bool.false_or, Bool.true_and, Bool.and_true, decide_eq_true_eq, decide_eq_false_iff_not, Bool.and_eq_true, Bool.or_eq_true, Bool.or_eq_false_iff, Bool.not_eq_true', Bool.and_eq_false_iff, beq_iff_eq, bne_iff_ne, beq_eq_false_iff_ne, Bool.not_eq_false'] at hq55
    refine AWP.regionT tcok hmix [] [3, 5, 6, 10, 11, 12, 13, 14] [5, 6, 10] (os := []) (s' := St.mk [(3, T.plain (vb y)), (5, T.plain (V.ptr 5 0)), (6, T.plain (V.ptr 6 0)), (10, T.plain (V.ptr 10 0)), (11, T.plain (i64 0)), (12, T.plain (i64 0)), (13, T.plain (i64 (up se 255))), (14, T.plain (i64 (up dk 255)))] [(5, Blk.mk [u8 2, u16 (up s 65535), u8 cl, u8 se, u8 dk] true 5 none), (6, Blk.mk [u8 c1, u8 c2, u8 c3, u16 t0, u16 t1, u16 t2, u16 t3] true 7 none), (10, Blk.mk [u8 0, u16 0, u8 0, u8 0, u8 0] true 5 none)]) (by kernel_rfl) trivial ?_
    refine AWP.seq ?_
    refine AWP.seq ?_
    refine AWP.regionT tcok hmix [] [5, 6, 10, 11, 12, 13, 14, 42] [5, 6, 10] (os := []) (s' := St.mk [(5, T.plain (V.ptr 5 0)), (6, T.plain (V.ptr 6 0)), (10, T.plain (V.ptr 10 0)), (11, T.plain (i64 0)), (12, T.plain (i64 0)), (13, T.plain (i64 (up se 255))), (14, T.plain (i64 (up dk 255))), (42, T.plain (vb y))] [(5, Blk.mk [u8 2, u16 (up s 65535), u8 cl, u8 se, u8 dk] true 5 none), (6, Blk.mk [u8 c1, u8 c2, u8 c3, u16 t0, u16 t1, u16 t2, u16 t3] true 7 none), (10, Blk.mk [u8 0, u16 0, u8 0, u8 0, u8 0] true 5 none)]) (by kernel_rfl) trivial ?_
    refine AWP.cond (b := y) (by kernel_rfl) (fun hq56 => ?_) (fun hq56 => ?_)
    · try simp only [Bool.or_false, Bool.false_or, Bool.true_and, Bool.and_true, decide_eq_true_eq, decide_eq_false_iff_not, Bool.and_eq_true, Bool.or_eq_true, Bool.or_eq_false_iff, Bool.not_eq_true', Bool.and_eq_false_iff, beq_iff_eq, bne_iff_ne, beq_eq_false_iff_ne, Bool.not_eq_false'] at hq56
      refine AWP.regionT tcok hmix [] [5, 6, 10, 11, 12, 13, 14] [5, 6, 10] (os := []) (s' := St.mk [(5, T.plain (V.ptr 5 0)), (6, T.plain (V.ptr 6 0)), (10, T.plain (V.ptr 10 0)), (11, T.plain (i64 0)), (12, T.plain (i64 0)), (13, T.plain (i64 (up se 255))), (14, T.plain (i64 0))] [(5, Blk.mk [u8 2, u16 (up s 65535), u8 cl, u8 se, u8 dk] true 5 none), (6, Blk.mk [u8 c1, u8 c2, u8 c3, u16 t0, u16 t1, u16 t2, u16 t3] true 7 none), (10, Blk.mk [u8 0, u16 0, u8 0, u8 0, u8 0] true 5 none)]) (by kernel_rfl) trivial ?_
      refine AWP.seq ?_
      refine AWP.regionT tcok hmix [(3, ⟨some (u8 (up se 255)), none⟩)] [5, 6, 10, 11] [5, 6, 10] (os := [u8 (IntKind.wrap IntKind.u8 (up se 255)) = u8 (up se 255)]) (s' := St.mk [(5, T.plain (V.ptr 5 0)), (6, T.plain (V.ptr 6 0)), (10, T.plain (V.ptr 10 0)), (11, T.plain (i64 0))] [(5, Blk.mk [u8 2, u16 (up s 65535), u8 0, u8 (up se 255), u8 0] true 5 none), (6, Blk.mk [u8 c1, u8 c2, u8 c3, u16 t0, u16 t1, u16 t2, u16 t3] true 7 none), (10, Blk.mk [u8 0, u16 0, u8 0, u8 0, u8 0] true 5 none)]) (by kernel_rfl) ⟨(wr_u8 (by omega) (by omega)), trivial⟩ ?_
      refine AWP.seq ?_
      refine AWP.seq ?_
      refine AWP.regionT tcok hmix [] [5, 6, 10, 11, 66] [5, 6, 10] (os := []) (s' := St.mk [(5, T.plain (V.ptr 5 0)), (6, T.plain (V.ptr 6 0)), (10, T.plain (V.ptr 10 0)), (11, T.plain (i64 0)), (66, T.plain (vb false))] [(5, Blk.mk [u8 2, u16 (up s 65535), u8 0, u8 (up se 255), u8 0] true 5 none), (6, Blk.mk [u8 c1, u8 c2, u8 c3, u16 t0, u16 t1, u16 t2, u16 t3] true 7 none), (10, Blk.mk [u8 0, u16 0, u8 0, u8 0, u8 0] true 5 none)]) (by kernel_rfl) trivial ?_
      refine AWP.cond (b := false) (by kernel_rfl) (fun h => by cases h) (fun _ => ?_)
      refine AWP.skip ?_
      refine AWP.seq ?_
      refine AWP.seq ?_
      refine AWP.regionT tcok hmix [] [5, 6, 10, 11, 82] [5, 6, 10] (os := []) (s' := St.mk [(5, T.plain (V.ptr 5 0)), (6, T.plain (V.ptr 6 0)), (10, T.plain (V.ptr 10 0)), (11, T.plain (i64 0)), (82, T.plain (vb false))] [(5, Blk.mk [u8 2, u16 (up s 65535), u8 0, u8 (up se 255), u8 0] true 5 none), (6, Blk.mk [u8 c1, u8 c2, u8 c3, u16 t0, u16 t1, u16 t2, u16 t3] true 7 none), (10, Blk.mk [u8 0, u16 0, u8 0, u8 0, u8 0] true 5 none)]) (by kernel_rfl) trivial ?_
      refine AWP.cond (b := false) (by kernel_rfl) (fun h => by cases h) (fun _ => ?_)
      refine AWP.skip ?_
      refine AWP.seq ?_
      refine AWP.seq ?_
      refine AWP.regionT tcok hmix [] [5, 6, 10, 11, 98] [5, 6, 10] (os := []) (s' := St.mk [(5, T.plain (V.ptr 5 0)), (6, T.plain (V.ptr 6 0)), (10, T.plain (V.ptr 10 0)), (11, T.plain (i64 0)), (98, T.plain (vb (false || true && decide (up se 255 < c2))))] [(5, Blk.mk [u8 2, u16 (up s 65535), u8 0, u8 (up se 255), u8 0] true 5 none), (6, Blk.mk [u8 c1, u8 c2, u8 c3, u16 t0, u16 t1, u16 t2, u16 t3] true 7 none), (10, Blk.mk [u8 0, u16 0, u8 0, u8 0, u8 0] true 5 none)]) (by kernel_rfl) trivial ?_
      refine AWP.cond (b := false || true && decide (up se 255 < c2)) (by kernel_rfl) (fun hq59 => ?_) (fun hq59 => ?_)
      · try simp only [Bool.or_false, Bool.false_or, Bool.true_and, Bool.and_true, decide_eq_true_eq, decide_eq_false_iff_not, Bool.and_eq_true, Bool.or_eq_true, Bool.or_eq_false_iff, Bool.not_eq_true', Bool.and_eq_false_iff, beq_iff_eq, bne_iff_ne, beq_eq_false_iff_ne, Bool.not_eq_false'] at hq59
        refine AWP.seq ?_
        refine AWP.regionT tcok hmix [] [5, 10, 11, 114] [5, 10] (os := []) (s' := St.mk [(5, T.plain (V.ptr 5 0)), (10, T.plain (V.ptr 10 0)), (11, T.plain (i64 0)), (114, T.plain (vb (decide (t2 > 0) && decide (up s 65535 ≥ t2))))] [(5, Blk.mk [u8 2, u16 (up s 65535), u8 0, u8 (up se 255), u8 0] true 5 none), (10, Blk.mk [u8 0, u16 0, u8 0, u8 0, u8 0] true 5 none)]) (by kernel_rfl) trivial ?_
        refine AWP.cond (b := decide (t2 > 0) && decide (up s 65535 ≥ t2)) (by kernel_rfl) (fun hq60 => ?_) (fun hq60 => ?_)
        · try simp only [Bool.or_false, Bool.false_or, Bool.true_and, Bool.and_true, decide_eq_true_eq, decide_eq_false_iff_not, Bool.and_eq_true, Bool.or_eq_true, Bool.or_eq_false_iff, Bool.not_eq_true', Bool.and_eq_false_iff, beq_iff_eq, bne_iff_ne, beq_eq_false_iff_ne, Bool.not_eq_false'] at hq60
          refine AWP.seq ?_
          refine AWP.regionT tcok hmix [] [5, 10, 11] [5, 10] (os := []) (s' := St.mk [(5, T.plain (V.ptr 5 0)), (10, T.plain (V.ptr 10 0)), (11, T.plain (i64 3))] [(5, Blk.mk [u8 2, u16 (up s 65535), u8 0, u8 (up se 255), u8 0] true 5 none), (10, Blk.mk [u8 0, u16 0, u8 0, u8 0, u8 0] true 5 none)]) (by kernel_rfl) trivial ?_
          refine AWP.ret ?_
          refine ⟨Or.inr rfl, Eq.trans (b := some ([], V.tup [V.agg true [u8 0, u16 0, u8 0, u8 0, u8 0], i64 3])) (by kernel_rfl) ?_⟩
          (clear b1 b2 b3 b4 h1 h2 h3 h4 h5 h6 h7 h8; cases x <;> cases y <;> cases z <;> first | contradiction | (exfalso; simp at *; done) | (simp (disch := omega) [step, rest, count, Au.zero, Au.at, since_up, more_up, late, reached, if_pos, if_neg]; done))
        try simp only [Bool.or_false, Bool.false_or, Bool.true_and, Bool.and_true, decide_eq_true_eq, decide_eq_false_iff_not, Bool.and_eq_true, Bool.or_eq_true, Bool.or_eq_false_iff, Bool.not_eq_true', Bool.and_eq_false_iff, beq_iff_eq, bne_iff_ne, beq_eq_false_iff_ne, Bool.not_eq_false'] at hq60
        refine AWP.skip ?_
        refine AWP.seq ?_
        refine AWP.regionT tcok hmix [] [10, 11] [10] (os := []) (s' := St.mk [(10, T.plain (V.ptr 10 0)), (11, T.plain (i64 0))] [(10, Blk.mk [u8 2, u16 (up s 65535), u8 0, u8 (up se 255), u8 0] true 5 none)]) (by kernel_rfl) trivial ?_
        refine AWP.ret ?_
        refine ⟨Or.inr rfl, Eq.trans (b := some ([], V.tup [V.agg true [u8 2, u16 (up s 65535), u8 0, u8 (up se 255), u8 0], i64 0])) (by kernel_rfl) ?_⟩
        (clear b1 b2 b3 b4 h1 h2 h3 h4 h5 h6 h7 h8; cases x <;> cases y <;> cases z <;> first | contradiction | (exfalso; simp at *; done) | (simp (disch := omega) [step, rest, count, Au.zero, Au.at, since_up, more_up, late, reached, if_pos, if_neg]; done))
      try simp only [Bool.or_false, Bool.false_or, Bool.true_and, Bool.and_true, decide_eq_true_eq, decide_eq_false_iff_not, Bool.and_eq_true, Bool.or_eq_true, Bool.or_eq_false_iff, Bool.not_eq_true', Bool.and_eq_false_iff, beq_iff_eq, bne_iff_ne, beq_eq_false_iff_ne, Bool.not_eq_false'] at hq59
      refine AWP.skip ?_
      refine AWP.seq ?_
      refine AWP.regionT tcok hmix [] [10, 11] [10] (os := []) (s' := St.mk [(10, T.plain (V.ptr 10 0)), (11, T.plain (i64 0))] [(10, Blk.mk [u8 2, u16 (up s 65535), u8 0, u8 (up se 255), u8 0] true 5 none)]) (by kernel_rfl) trivial ?_
      refine AWP.ret ?_
      refine ⟨Or.inr rfl, Eq.trans (b := some ([], V.tup [V.agg true [u8 2, u16 (up s 65535), u8 0, u8 (up se 255), u8 0], i64 0])) (by kernel_rfl) ?_⟩
      (clear b1 b2 b3 b4 h1 h2 h3 h4 h5 h6 h7 h8; cases x <;> cases y <;> cases z <;> first | contradiction | (exfalso; simp at *; done) | (simp (disch := omega) [step, rest, count, Au.zero, Au.at, since_up, more_up, late, reached, if_pos, if_neg]; done))
    try simp only [Bool.or_false, Bool.false_or, Bool.true_and, Bool.and_true, decide_eq_true_eq, decide_eq_false_iff_not, Bool.and_eq_true, Bool.or_eq_true, Bool.or_eq_false_iff, Bool.not_eq_true', Bool.and_eq_false_iff, beq_iff_eq, bne_iff_ne, beq_eq_false_iff_ne, Bool.not_eq_false'] at hq56
    refine AWP.regionT tcok hmix [] [5, 6, 10, 11, 12, 13, 14] [5, 6, 10] (os := []) (s' := St.mk [(5, T.plain (V.ptr 5 0)), (6, T.plain (V.ptr 6 0)), (10, T.plain (V.ptr 10 0)), (11, T.plain (i64 0)), (12, T.plain (i64 0)), (13, T.plain (i64 0)), (14, T.plain (i64 (up dk 255)))] [(5, Blk.mk [u8 2, u16 (up s 65535), u8 cl, u8 se, u8 dk] true 5 none), (6, Blk.mk [u8 c1, u8 c2, u8 c3, u16 t0, u16 t1, u16 t2, u16 t3] true 7 none), (10, Blk.mk [u8 0, u16 0, u8 0, u8 0, u8 0] true 5 none)]) (by kernel_rfl) trivial ?_
    refine AWP.seq ?_
    refine AWP.regionT tcok hmix [(5, ⟨some (u8 (up dk 255)), none⟩)] [5, 6, 10, 11] [5, 6, 10] (os := [u8 (IntKind.wrap IntKind.u8 (up dk 255)) = u8 (up dk 255)]) (s' := St.mk [(5, T.plain (V.ptr 5 0)), (6, T.plain (V.ptr 6 0)), (10, T.plain (V.ptr 10 0)), (11, T.plain (i64 0))] [(5, Blk.mk [u8 2, u16 (up s 65535), u8 0, u8 0, u8 (up dk 255)] true 5 none), (6, Blk.mk [u8 c1, u8 c2, u8 c3, u16 t0, u16 t1, u16 t2, u16 t3] true 7 none), (10, Blk.mk [u8 0, u16 0, u8 0, u8 0, u8 0] true 5 none)]) (by kernel_rfl) ⟨(wr_u8 (by omega) (by omega)), trivial⟩ ?_
    refine AWP.seq ?_
    refine AWP.seq ?_
    refine AWP.regionT tcok hmix [] [5, 6, 10, 11, 66] [5, 6, 10] (os := []) (s' := St.mk [(5, T.plain (V.ptr 5 0)), (6, T.plain (V.ptr 6 0)), (10, T.plain (V.ptr 10 0)), (11, T.plain (i64 0)), (66, T.plain (vb false))] [(5, Blk.mk [u8 2, u16 (up s 65535), u8 0, u8 0, u8 (up dk 255)] true 5 none), (6, Blk.mk [u8 c1, u8 c2, u8 c3, u16 t0, u16 t1, u16 t2, u16 t3] true 7 none), (10, Blk.mk [u8 0, u16 0, u8 0, u8 0, u8 0] true 5 none)]) (by kernel_rfl) trivial ?_
    refine AWP.cond (b := false) (by kernel_rfl) (fun h => by cases h) (fun _ => ?_)
    refine AWP.skip ?_
    refine AWP.seq ?_
    refine AWP.seq ?_
    refine AWP.regionT tcok hmix [] [5, 6, 10, 11, 82] [5, 6, 10] (os := []) (s' := St.mk [(5, T.plain (V.ptr 5 0)), (6, T.plain (V.ptr 6 0)), (10, T.plain (V.ptr 10 0)), (11, T.plain (i64 0)), (82, T.plain (vb false))] [(5, Blk.mk [u8 2, u16 (up s 65535), u8 0, u8 0, u8 (up dk 255)] true 5 none), (6, Blk.mk [u8 c1, u8 c2, u8 c3, u16 t0, u16 t1, u16 t2, u16 t3] true 7 none), (10, Blk.mk [u8 0, u16 0, u8 0, u8 0, u8 0] true 5 none)]) (by kernel_rfl) trivial ?_
    refine AWP.cond (b := false) (by kernel_rfl) (fun h => by cases h) (fun _ => ?_)
    refine AWP.skip ?_
    refine AWP.seq ?_
    refine AWP.seq ?_
    refine AWP.regionT tcok hmix [] [5, 6, 10, 11, 98] [5, 6, 10] (os := []) (s' := St.mk [(5, T.plain (V.ptr 5 0)), (6, T.plain (V.ptr 6 0)), (10, T.plain (V.ptr 10 0)), (11, T.plain (i64 0)), (98, T.plain (vb (false || true && decide (0 < c2))))] [(5, Blk.mk [u8 2, u16 (up s 65535), u8 0, u8 0, u8 (up dk 255)] true 5 none), (6, Blk.mk [u8 c1, u8 c2, u8 c3, u16 t0, u16 t1, u16 t2, u16 t3] true 7 none), (10, Blk.mk [u8 0, u16 0, u8 0, u8 0, u8 0] true 5 none)]) (by kernel_rfl) trivial ?_
    refine AWP.cond (b := false || true && decide (0 < c2)) (by kernel_rfl) (fun hq63 => ?_) (fun hq63 => ?_)
    · try simp only [Bool.or_false, Bool.false_or, Bool.true_and, Bool.and_true, decide_eq_true_eq, decide_eq_false_iff_not, Bool.and_eq_true, Bool.or_eq_true, Bool.or_eq_false_iff, Bool.not_eq_true', Bool.and_eq_false_iff, beq_iff_eq, bne_iff_ne, beq_eq_false_iff_ne, Bool.not_eq_false'] at hq63
      refine AWP.seq ?_
      refine AWP.regionT tcok hmix [] [5, 10, 11, 114] [5, 10] (os := []) (s' := St.mk [(5, T.plain (V.ptr 5 0)), (10, T.plain (V.ptr 10 0)), (11, T.plain (i64 0)), (114, T.plain (vb (decide (t2 > 0) && decide (up s 65535 ≥ t2))))] [(5, Blk.mk [u8 2, u16 (up s 65535), u8 0, u8 0, u8 (up dk 255)] true 5 none), (10, Blk.mk [u8 0, u16 0, u8 0, u8 0, u8 0] true 5 none)]) (by kernel_rfl) trivial ?_
      refine AWP.cond (b := decide (t2 > 0) && decide (up s 65535 ≥ t2)) (by kernel_rfl) (fun hq64 => ?_) (fun hq64 => ?_)
      · try simp only [Bool.or_false, Bool.false_or, Bool.true_and, Bool.and_true, decide_eq_true_eq, decide_eq_false_iff_not, Bool.and_eq_true, Bool.or_eq_true, Bool.or_eq_false_iff, Bool.not_eq_true', Bool.and_eq_false_iff, beq_iff_eq, bne_iff_ne, beq_eq_false_iff_ne, Bool.not_eq_false'] at hq64
        refine AWP.seq ?_
        refine AWP.regionT tcok hmix [] [5, 10, 11] [5, 10] (os := []) (s' := St.mk [(5, T.plain (V.ptr 5 0)), (10, T.plain (V.ptr 10 0)), (11, T.plain (i64 3))] [(5, Blk.mk [u8 2, u16 (up s 65535), u8 0, u8 0, u8 (up dk 255)] true 5 none), (10, Blk.mk [u8 0, u16 0, u8 0, u8 0, u8 0] true 5 none)]) (by kernel_rfl) trivial ?_
        refine AWP.ret ?_
        refine ⟨Or.inr rfl, Eq.trans (b := some ([], V.tup [V.agg true [u8 0, u16 0, u8 0, u8 0, u8 0], i64 3])) (by kernel_rfl) ?_⟩
        (clear b1 b2 b3 b4 h1 h2 h3 h4 h5 h6 h7 h8; cases x <;> cases y <;> cases z <;> first | contradiction | (exfalso; simp at *; done) | (simp (disch := omega) [step, rest, count, Au.zero, Au.at, since_up, more_up, late, reached, if_pos, if_neg]; done))
      try simp only [Bool.or_false, Bool.false_or, Bool.true_and, Bool.and_true, decide_eq_true_eq, decide_eq_false_iff_not, Bool.and_eq_true, Bool.or_eq_true, Bool.or_eq_false_iff, Bool.not_eq_true', Bool.and_eq_false_iff, beq_iff_eq, bne_iff_ne, beq_eq_false_iff_ne, Bool.not_eq_false'] at hq64
      refine AWP.skip ?_
      refine AWP.seq ?_
      refine AWP.regionT tcok hmix [] [10, 11] [10] (os := []) (s' := St.mk [(10, T.plain (V.ptr 10 0)), (11, T.plain (i64 0))] [(10, Blk.mk [u8 2, u16 (up s 65535), u8 0, u8 0, u8 (up dk 255)] true 5 none)]) (by kernel_rfl) trivial ?_
      refine AWP.ret ?_
      refine ⟨Or.inr rfl, Eq.trans (b := some ([], V.tup [V.agg true [u8 2, u16 (up s 65535), u8 0, u8 0, u8 (up dk 255)], i64 0])) (by kernel_rfl) ?_⟩
      (clear b1 b2 b3 b4 h1 h2 h3 h4 h5 h6 h7 h8; cases x <;> cases y <;> cases z <;> first | contradiction | (exfalso; simp at *; done) | (simp (disch := omega) [step, rest, count, Au.zero, Au.at, since_up, more_up, late, reached, if_pos, if_neg]; done))
    try simp only [Bool.or_false, Bool.false_or, Bool.true_and, Bool.and_true, decide_eq_true_eq, decide_eq_false_iff_not, Bool.and_eq_true, Bool.or_eq_true, Bool.or_eq_false_iff, Bool.not_eq_true', Bool.and_eq_false_iff, beq_iff_eq, bne_iff_ne, beq_eq_false_iff_ne, Bool.not_eq_false'] at hq63
    refine AWP.skip ?_
    refine AWP.seq ?_
    refine AWP.regionT tcok hmix [] [10, 11] [10] (os := []) (s' := St.mk [(10, T.plain (V.ptr 10 0)), (11, T.plain (i64 0))] [(10, Blk.mk [u8 2, u16 (up s 65535), u8 0, u8 0, u8 (up dk 255)] true 5 none)]) (by kernel_rfl) trivial ?_
    refine AWP.ret ?_
    refine ⟨Or.inr rfl, Eq.trans (b := some ([], V.tup [V.agg true [u8 2, u16 (up s 65535), u8 0, u8 0, u8 (up dk 255)], i64 0])) (by kernel_rfl) ?_⟩
    (clear b1 b2 b3 b4 h1 h2 h3 h4 h5 h6 h7 h8; cases x <;> cases y <;> cases z <;> first | contradiction | (exfalso; simp at *; done) | (simp (disch := omega) [step, rest, count, Au.zero, Au.at, since_up, more_up, late, reached, if_pos, if_neg]; done))
  try simp only [Bool.or_false, Bool.false_or, Bool.true_and, Bool.and_true, decide_eq_true_eq, decide_eq_false_iff_not, Bool.and_eq_true, Bool.or_eq_true, Bool.or_eq_false_iff, Bool.not_eq_true', Bool.and_eq_false_iff, beq_iff_eq, bne_iff_ne, beq_eq_false_iff_ne, Bool.not_eq_false'] at hq55
  refine AWP.skip ?_
  refine AWP.seq ?_
  refine AWP.seq ?_
  refine AWP.regionT tcok hmix [] [5, 6, 10, 11, 12, 13, 14, 42] [5, 6, 10] (os := []) (s' := St.mk [(5, T.plain (V.ptr 5 0)), (6, T.plain (V.ptr 6 0)), (10, T.plain (V.ptr 10 0)), (11, T.plain (i64 0)), (12, T.plain (i64 (up cl 255))), (13, T.plain (i64 (up se 255))), (14, T.plain (i64 (up dk 255))), (42, T.plain (vb y))] [(5, Blk.mk [u8 2, u16 (up s 65535), u8 cl, u8 se, u8 dk] true 5 none), (6, Blk.mk [u8 c1, u8 c2, u8 c3, u16 t0, u16 t1, u16 t2, u16 t3] true 7 none), (10, Blk.mk [u8 0, u16 0, u8 0, u8 0, u8 0] true 5 none)]) (by kernel_rfl) trivial ?_
  refine AWP.cond (b := y) (by kernel_rfl) (fun hq65 => ?_) (fun hq65 => ?_)
  · try simp only [Bool.or_false, Bool.false_or, Bool.true_and, Bool.and_true, decide_eq_true_eq, decide_eq_false_iff_not, Bool.and_eq_true, Bool.or_eq_true, Bool.or_eq_false_iff, Bool.not_eq_true', Bool.and_eq_false_iff, beq_iff_eq, bne_iff_ne, beq_eq_false_iff_ne, Bool.not_eq_false'] at hq65
    refine AWP.regionT tcok hmix [] [5, 6, 10, 11, 12, 13, 14] [5, 6, 10] (os := []) (s' := St.mk [(5, T.plain (V.ptr 5 0)), (6, T.plain (V.ptr 6 0)), (10, T.plain (V.ptr 10 0)), (11, T.plain (i64 0)), (12, T.plain (i64 (up cl 255))), (13, T.plain (i64 (up se 255))), (14, T.plain (i64 0))] [(5, Blk.mk [u8 2, u16 (up s 65535), u8 cl, u8 se, u8 dk] true 5 none), (6, Blk.mk [u8 c1, u8 c2, u8 c3, u16 t0, u16 t1, u16 t2, u16 t3] true 7 none), (10, Blk.mk [u8 0, u16 0, u8 0, u8 0, u8 0] true 5 none)]) (by kernel_rfl) trivial ?_
    refine AWP.seq ?_
    refine AWP.regionT tcok hmix [(1, ⟨some (u8 (up cl 255)), none⟩), (3, ⟨some (u8 (up se 255)), none⟩)] [5, 6, 10, 11] [5, 6, 10] (os := [u8 (IntKind.wrap IntKind.u8 (up cl 255)) = u8 (up cl 255), u8 (IntKind.wrap IntKind.u8 (up se 255)) = u8 (up se 255)]) (s' := St.mk [(5, T.plain (V.ptr 5 0)), (6, T.plain (V.ptr 6 0)), (10, T.plain (V.ptr 10 0)), (11, T.plain (i64 0))] [(5, Blk.mk [u8 2, u16 (up s 65535), u8 (up cl 255), u8 (up se 255), u8 0] true 5 none), (6, Blk.mk [u8 c1, u8 c2, u8 c3, u16 t0, u16 t1, u16 t2, u16 t3] true 7 none), (10, Blk.mk [u8 0, u16 0, u8 0, u8 0, u8 0] true 5 none)]) (by kernel_rfl) ⟨(wr_u8 (by omega) (by omega)), (wr_u8 (by omega) (by omega)), trivial⟩ ?_
    refine AWP.seq ?_
    refine AWP.seq ?_
    refine AWP.regionT tcok hmix [] [5, 6, 10, 11, 66] [5, 6, 10] (os := []) (s' := St.mk [(5, T.plain (V.ptr 5 0)), (6, T.plain (V.ptr 6 0)), (10, T.plain (V.ptr 10 0)), (11, T.plain (i64 0)), (66, T.plain (vb false))] [(5, Blk.mk [u8 2, u16 (up s 65535), u8 (up cl 255), u8 (up se 255), u8 0] true 5 none), (6, Blk.mk [u8 c1, u8 c2, u8 c3, u16 t0, u16 t1, u16 t2, u16 t3] true 7 none), (10, Blk.mk [u8 0, u16 0, u8 0, u8 0, u8 0] true 5 none)]) (by kernel_rfl) trivial ?_
    refine AWP.cond (b := false) (by kernel_rfl) (fun h => by cases h) (fun _ => ?_)
    refine AWP.skip ?_
    refine AWP.seq ?_
    refine AWP.seq ?_
    refine AWP.regionT tcok hmix [] [5, 6, 10, 11, 82] [5, 6, 10] (os := []) (s' := St.mk [(5, T.plain (V.ptr 5 0)), (6, T.plain (V.ptr 6 0)), (10, T.plain (V.ptr 10 0)), (11, T.plain (i64 0)), (82, T.plain (vb false))] [(5, Blk.mk [u8 2, u16 (up s 65535), u8 (up cl 255), u8 (up se 255), u8 0] true 5 none), (6, Blk.mk [u8 c1, u8 c2, u8 c3, u16 t0, u16 t1, u16 t2, u16 t3] true 7 none), (10, Blk.mk [u8 0, u16 0, u8 0, u8 0, u8 0] true 5 none)]) (by kernel_rfl) trivial ?_
    refine AWP.cond (b := false) (by kernel_rfl) (fun h => by cases h) (fun _ => ?_)
    refine AWP.skip ?_
    refine AWP.seq ?_
    refine AWP.seq ?_
    refine AWP.regionT tcok hmix [] [5, 6, 10, 11, 98] [5, 6, 10] (os := []) (s' := St.mk [(5, T.plain (V.ptr 5 0)), (6, T.plain (V.ptr 6 0)), (10, T.plain (V.ptr 10 0)), (11, T.plain (i64 0)), (98, T.plain (vb (false || true && decide (up se 255 < c2))))] [(5, Blk.mk [u8 2, u16 (up s 65535), u8 (up cl 255), u8 (up se 255), u8 0] true 5 none), (6, Blk.mk [u8 c1, u8 c2, u8 c3, u16 t0, u16 t1, u16 t2, u16 t3] true 7 none), (10, Blk.mk [u8 0, u16 0, u8 0, u8 0, u8 0] true 5 none)]) (by kernel_rfl) trivial ?_
    refine AWP.cond (b := false || true && decide (up se 255 < c2)) (by kernel_rfl) (fun hq68 => ?_) (fun hq68 => ?_)
    · try simp only [Bool.or_false, Bool.false_or, Bool.true_and, Bool.and_true, decide_eq_true_eq, decide_eq_false_iff_not, Bool.and_eq_true, Bool.or_eq_true, Bool.or_eq_false_iff, Bool.not_eq_true', Bool.and_eq_false_iff, beq_iff_eq, bne_iff_ne, beq_eq_false_iff_ne, Bool.not_eq_false'] at hq68
      refine AWP.seq ?_
      refine AWP.regionT tcok hmix [] [5, 10, 11, 114] [5, 10] (os := []) (s' := St.mk [(5, T.plain (V.ptr 5 0)), (10, T.plain (V.ptr 10 0)), (11, T.plain (i64 0)), (114, T.plain (vb (decide (t2 > 0) && decide (up s 65535 ≥ t2))))] [(5, Blk.mk [u8 2, u16 (up s 65535), u8 (up cl 255), u8 (up se 255), u8 0] true 5 none), (10, Blk.mk [u8 0, u16 0, u8 0, u8 0, u8 0] true 5 none)]) (by kernel_rfl) trivial ?_
      refine AWP.cond (b := decide (t2 > 0) && decide (up s 65535 ≥ t2)) (by kernel_rfl) (fun hq69 => ?_) (fun hq69 => ?_)
      · try simp only [Bool.or_false, Bool.false_or, Bool.true_and, Bool.and_true, decide_eq_true_eq, decide_eq_false_iff_not, Bool.and_eq_true, Bool.or_eq_true, Bool.or_eq_false_iff, Bool.not_eq_true', Bool.and_eq_false_iff, beq_iff_eq, bne_iff_ne, beq_eq_false_iff_ne, Bool.not_eq_false'] at hq69
        refine AWP.seq ?_
        refine AWP.regionT tcok hmix [] [5, 10, 11] [5, 10] (os := []) (s' := St.mk [(5, T.plain (V.ptr 5 0)), (10, T.plain (V.ptr 10 0)), (11, T.plain (i64 3))] [(5, Blk.mk [u8 2, u16 (up s 65535), u8 (up cl 255), u8 (up se 255), u8 0] true 5 none), (10, Blk.mk [u8 0, u16 0, u8 0, u8 0, u8 0] true 5 none)]) (by kernel_rfl) trivial ?_
        refine AWP.ret ?_
        refine ⟨Or.inr rfl, Eq.trans (b := some ([], V.tup [V.agg true [u8 0, u16 0, u8 0, u8 0, u8 0], i64 3])) (by kernel_rfl) ?_⟩
        (clear b1 b2 b3 b4 h1 h2 h3 h4 h5 h6 h7 h8; cases x <;> cases y <;> cases z <;> first | contradiction | (exfalso; simp at *; done) | (simp (disch := omega) [step, rest, count, Au.zero, Au.at, since_up, more_up, late, reached, if_pos, if_neg]; done))
      try simp only [Bool.or_false, Bool.false_or, Bool.true_and, Bool.and_true, decide_eq_true_eq, decide_eq_false_iff_not, Bool.and_eq_true, Bool.or_eq_true, Bool.or_eq_false_iff, Bool.not_eq_true', Bool.and_eq_false_iff, beq_iff_eq, bne_iff_ne, beq_eq_false_iff_ne, Bool.not_eq_false'] at hq69
      refine AWP.skip ?_
      refine AWP.seq ?_
      refine AWP.regionT tcok hmix [] [10, 11] [10] (os := []) (s' := St.mk [(10, T.plain (V.ptr 10 0)), (11, T.plain (i64 0))] [(10, Blk.mk [u8 2, u16 (up s 65535), u8 (up cl 255), u8 (up se 255), u8 0] true 5 none)]) (by kernel_rfl) trivial ?_
      refine AWP.ret ?_
      refine ⟨Or.inr rfl, Eq.trans (b := some ([], V.tup [V.agg true [u8 2, u16 (up s 65535), u8 (up cl 255), u8 (up se 255), u8 0], i64 0])) (by kernel_rfl) ?_⟩
      (clear b1 b2 b3 b4 h1 h2 h3 h4 h5 h6 h7 h8; cases x <;> cases y <;> cases z <;> first | contradiction | (exfalso; simp at *; done) | (simp (disch := omega) [step, rest, count, Au.zero, Au.at, since_up, more_up, late, reached, if_pos, if_neg]; done))
    try simp only [Bool.or_false, Bool.false_or, Bool.true_and, Bool.and_true, decide_eq_true_eq, decide_eq_false_iff_not, Bool.and_eq_true, Bool.or_eq_true, Bool.or_eq_false_iff, Bool.not_eq_true', Bool.and_eq_false_iff, beq_iff_eq, bne_iff_ne, beq_eq_false_iff_ne, Bool.not_eq_false'] at hq68
    refine AWP.skip ?_
    refine AWP.seq ?_
    refine AWP.regionT tcok hmix [] [10, 11] [10] (os := []) (s' := St.mk [(10, T.plain (V.ptr 10 0)), (11, T.plain (i64 0))] [(10, Blk.mk [u8 2, u16 (up s 65535), u8 (up cl 255), u8 (up se 255), u8 0] true 5 none)]) (by kernel_rfl) trivial ?_
    refine AWP.ret ?_
    refine ⟨Or.inr rfl, Eq.trans (b := some ([], V.tup [V.agg true [u8 2, u16 (up s 65535), u8 (up cl 255), u8 (up se 255), u8 0], i64 0])) (by kernel_rfl) ?_⟩
    (clear b1 b2 b3 b4 h1 h2 h3 h4 h5 h6 h7 h8; cases x <;> cases y <;> cases z <;> first | contradiction | (exfalso; simp at *; done) | (simp (disch := omega) [step, rest, count, Au.zero, Au.at, since_up, more_up, late, reached, if_pos, if_neg]; done))
  try simp only [Bool.or_false, Bool.false_or, Bool.true_and, Bool.and_true, decide_eq_true_eq, decide_eq_false_iff_not, Bool.and_eq_true, Bool.or_eq_true, Bool.or_eq_false_iff, Bool.not_eq_true', Bool.and_eq_false_iff, beq_iff_eq, bne_iff_ne, beq_eq_false_iff_ne, Bool.not_eq_false'] at hq65
  refine AWP.regionT tcok hmix [] [5, 6, 10, 11, 12, 13, 14] [5, 6, 10] (os := []) (s' := St.mk [(5, T.plain (V.ptr 5 0)), (6, T.plain (V.ptr 6 0)), (10, T.plain (V.ptr 10 0)), (11, T.plain (i64 0)), (12, T.plain (i64 (up cl 255))), (13, T.plain (i64 0)), (14, T.plain (i64 (up dk 255)))] [(5, Blk.mk [u8 2, u16 (up s 65535), u8 cl, u8 se, u8 dk] true 5 none), (6, Blk.mk [u8 c1, u8 c2, u8 c3, u16 t0, u16 t1, u16 t2, u16 t3] true 7 none), (10, Blk.mk [u8 0, u16 0, u8 0, u8 0, u8 0] true 5 none)]) (by kernel_rfl) trivial ?_
  refine AWP.seq ?_
  refine AWP.regionT tcok hmix [(1, ⟨some (u8 (up cl 255)), none⟩), (5, ⟨some (u8 (up dk 255)), none⟩)] [5, 6, 10, 11] [5, 6, 10] (os := [u8 (IntKind.wrap IntKind.u8 (up cl 255)) = u8 (up cl 255), u8 (IntKind.wrap IntKind.u8 (up dk 255)) = u8 (up dk 255)]) (s' := St.mk [(5, T.plain (V.ptr 5 0)), (6, T.plain (V.ptr 6 0)), (10, T.plain (V.ptr 10 0)), (11, T.plain (i64 0))] [(5, Blk.mk [u8 2, u16 (up s 65535), u8 (up cl 255), u8 0, u8 (up dk 255)] true 5 none), (6, Blk.mk [u8 c1, u8 c2, u8 c3, u16 t0, u16 t1, u16 t2, u16 t3] true 7 none), (10, Blk.mk [u8 0, u16 0, u8 0, u8 0, u8 0] true 5 none)]) (by kernel_rfl) ⟨(wr_u8 (by omega) (by omega)), (wr_u8 (by omega) (by omega)), trivial⟩ ?_
  refine AWP.seq ?_
  refine AWP.seq ?_
  refine AWP.regionT tcok hmix [] [5, 6, 10, 11, 66] [5, 6, 10] (os := []) (s' := St.mk [(5, T.plain (V.ptr 5 0)), (6, T.plain (V.ptr 6 0)), (10, T.plain (V.ptr 10 0)), (11, T.plain (i64 0)), (66, T.plain (vb false))] [(5, Blk.mk [u8 2, u16 (up s 65535), u8 (up cl 255), u8 0, u8 (up dk 255)] true 5 none), (6, Blk.mk [u8 c1, u8 c2, u8 c3, u16 t0, u16 t1, u16 t2, u16 t3] true 7 none), (10, Blk.mk [u8 0, u16 0, u8 0, u8 0, u8 0] true 5 none)]) (by kernel_rfl) trivial ?_
  refine AWP.cond (b := false) (by kernel_rfl) (fun h => by cases h) (fun _ => ?_)
  refine AWP.skip ?_
  refine AWP.seq ?_
  refine AWP.seq ?_
  refine AWP.regionT tcok hmix [] [5, 6, 10, 11, 82] [5, 6, 10] (os := []) (s' := St.mk [(5, T.plain (V.ptr 5 0)), (6, T.plain (V.ptr 6 0)), (10, T.plain (V.ptr 10 0)), (11, T.plain (i64 0)), (82, T.plain (vb false))] [(5, Blk.mk [u8 2, u16 (up s 65535), u8 (up cl 255), u8 0, u8 (up dk 255)] true 5 none), (6, Blk.mk [u8 c1, u8 c2, u8 c3, u16 t0, u16 t1, u16 t2, u16 t3] true 7 none), (10, Blk.mk [u8 0, u16 0, u8 0, u8 0, u8 0] true 5 none)]) (by kernel_rfl) trivial ?_
  refine AWP.cond (b := false) (by kernel_rfl) (fun h => by cases h) (fun _ => ?_)
  refine AWP.skip ?_
  refine AWP.seq ?_
  refine AWP.seq ?_
  refine AWP.regionT tcok hmix [] [5, 6, 10, 11, 98] [5, 6, 10] (os := []) (s' := St.mk [(5, T.plain (V.ptr 5 0)), (6, T.plain (V.ptr 6 0)), (10, T.plain (V.ptr 10 0)), (11, T.plain (i64 0)), (98, T.plain (vb (false || true && decide (0 < c2))))] [(5, Blk.mk [u8 2, u16 (up s 65535), u8 (up cl 255), u8 0, u8 (up dk 255)] true 5 none), (6, Blk.mk [u8 c1, u8 c2, u8 c3, u16 t0, u16 t1, u16 t2, u16 t3] true 7 none), (10, Blk.mk [u8 0, u16 0, u8 0, u8 0, u8 0] true 5 none)]) (by kernel_rfl) trivial ?_
  refine AWP.cond (b := false || true && decide (0 < c2)) (by kernel_rfl) (fun hq72 => ?_) (fun hq72 => ?_)
  · try simp only [Bool.or_false, Bool.false_or, Bool.true_and, Bool.and_true, decide_eq_true_eq, decide_eq_false_iff_not, Bool.and_eq_true, Bool.or_eq_true, Bool.or_eq_false_iff, Bool.not_eq_true', Bool.and_eq_false_iff, beq_iff_eq, bne_iff_ne, beq_eq_false_iff_ne, Bool.not_eq_false'] at hq72
    refine AWP.seq ?_
    refine AWP.regionT tcok hmix [] [5, 10, 11, 114] [5, 10] (os := []) (s' := St.mk [(5, T.plain (V.ptr 5 0)), (10, T.plain (V.ptr 10 0)), (11, T.plain (i64 0)), (114, T.plain (vb (decide (t2 > 0) && decide (up s 65535 ≥ t2))))] [(5, Blk.mk [u8 2, u16 (up s 65535), u8 (up cl 255), u8 0, u8 (up dk 255)] true 5 none), (10, Blk.mk [u8 0, u16 0, u8 0, u8 0, u8 0] true 5 none)]) (by kernel_rfl) trivial ?_
    refine AWP.cond (b := decide (t2 > 0) && decide (up s 65535 ≥ t2)) (by kernel_rfl) (fun hq73 => ?_) (fun hq73 => ?_)
    · try simp only [Bool.or_false, Bool.false_or, Bool.true_and, Bool.and_true, decide_eq_true_eq, decide_eq_false_iff_not, Bool.and_eq_true, Bool.or_eq_true, Bool.or_eq_false_iff, Bool.not_eq_true', Bool.and_eq_false_iff, beq_iff_eq, bne_iff_ne, beq_eq_false_iff_ne, Bool.not_eq_false'] at hq73
      refine AWP.seq ?_
      refine AWP.regionT tcok hmix [] [5, 10, 11] [5, 10] (os := []) (s' := St.mk [(5, T.plain (V.ptr 5 0)), (10, T.plain (V.ptr 10 0)), (11, T.plain (i64 3))] [(5, Blk.mk [u8 2, u16 (up s 65535), u8 (up cl 255), u8 0, u8 (up dk 255)] true 5 none), (10, Blk.mk [u8 0, u16 0, u8 0, u8 0, u8 0] true 5 none)]) (by kernel_rfl) trivial ?_
      refine AWP.ret ?_
      refine ⟨Or.inr rfl, Eq.trans (b := some ([], V.tup [V.agg true [u8 0, u16 0, u8 0, u8 0, u8 0], i64 3])) (by kernel_rfl) ?_⟩
      (clear b1 b2 b3 b4 h1 h2 h3 h4 h5 h6 h7 h8; cases x <;> cases y <;> cases z <;> first | contradiction | (exfalso; simp at *; done) | (simp (disch := omega) [step, rest, count, Au.zero, Au.at, since_up, more_up, late, reached, if_pos, if_neg]; done))
    try simp only [Bool.or_false, Bool.false_or, Bool.true_and, Bool.and_true, decide_eq_true_eq, decide_eq_false_iff_not, Bool.and_eq_true, Bool.or_eq_true, Bool.or_eq_false_iff, Bool.not_eq_true', Bool.and_eq_false_iff, beq_iff_eq, bne_iff_ne, beq_eq_false_iff_ne, Bool.not_eq_false'] at hq73
    refine AWP.skip ?_
    refine AWP.seq ?_
    refine AWP.regionT tcok hmix [] [10, 11] [10] (os := []) (s' := St.mk [(10, T.plain (V.ptr 10 0)), (11, T.plain (i64 0))] [(10, Blk.mk [u8 2, u16 (up s 65535), u8 (up cl 255), u8 0, u8 (up dk 255)] true 5 none)]) (by kernel_rfl) trivial ?_
    refine AWP.ret ?_
    refine ⟨Or.inr rfl, Eq.trans (b := some ([], V.tup [V.agg true [u8 2, u16 (up s 65535), u8 (up cl 255), u8 0, u8 (up dk 255)], i64 0])) (by kernel_rfl) ?_⟩
    (clear b1 b2 b3 b4 h1 h2 h3 h4 h5 h6 h7 h8; cases x <;> cases y <;> cases z <;> first | contradiction | (exfalso; simp at *; done) | (simp (disch := omega) [step, rest, count, Au.zero, Au.at, since_up, more_up, late, reached, if_pos, if_neg]; done))
  try simp only [Bool.or_false, Bool.false_or, Bool.true_and, Bool.and_true, decide_eq_true_eq, decide_eq_false_iff_not, Bool.and_eq_true, Bool.or_eq_true, Bool.or_eq_false_iff, Bool.not_eq_true', Bool.and_eq_false_iff, beq_iff_eq, bne_iff_ne, beq_eq_false_iff_ne, Bool.not_eq_false'] at hq72
  refine AWP.skip ?_
  refine AWP.seq ?_
  refine AWP.regionT tcok hmix [] [10, 11] [10] (os := []) (s' := St.mk [(10, T.plain (V.ptr 10 0)), (11, T.plain (i64 0))] [(10, Blk.mk [u8 2, u16 (up s 65535), u8 (up cl 255), u8 0, u8 (up dk 255)] true 5 none)]) (by kernel_rfl) trivial ?_
  refine AWP.ret ?_
  refine ⟨Or.inr rfl, Eq.trans (b := some ([], V.tup [V.agg true [u8 2, u16 (up s 65535), u8 (up cl 255), u8 0, u8 (up dk 255)], i64 0])) (by kernel_rfl) ?_⟩
  (clear b1 b2 b3 b4 h1 h2 h3 h4 h5 h6 h7 h8; cases x <;> cases y <;> cases z <;> first | contradiction | (exfalso; simp at *; done) | (simp (disch := omega) [step, rest, count, Au.zero, Au.at, since_up, more_up, late, reached, if_pos, if_neg]; done))
theorem con_rstep3 (s cl se dk c1 c2 c3 t0 t1 t2 t3 : Int) (x y z : Bool) (h1 : 0 ≤ s) (h2 : s < 65536) (h3 : 0 ≤ cl) (h4 : cl < 256) (h5 : 0 ≤ se) (h6 : se < 256) (h7 : 0 ≤ dk) (h8 : dk < 256) :
    Con Try.prog 10 [] [.agg true [u8 3, u16 s, u8 cl, u8 se, u8 dk], .agg true [u8 c1, u8 c2, u8 c3, u16 t0, u16 t1, u16 t2, u16 t3], vb x, vb y, vb z] []
      (.tup [(step ⟨3, s, cl, se, dk⟩ ⟨c1, c2, c3, t0, t1, t2, t3⟩ x y z).1.v, i64 (step ⟨3, s, cl, se, dk⟩ ⟨c1, c2, c3, t0, t1, t2, t3⟩ x y z).2]) := by
  have b1 := up_bd s 65535 h1 (by omega)
  have b2 := up_bd cl 255 h3 (by omega)
  have b3 := up_bd se 255 h5 (by omega)
  have b4 := up_bd dk 255 h7 (by omega)
  refine Con.of (C := ⟨Try.prog, tc, Try.f10.ntmps⟩) [] tcok Try.func10 rfl rfl (by kernel_rfl) (by kernel_rfl) ?_
  refine AWP.seq ?_
  refine AWP.regionT tcok hmix [] [2, 3, 4, 5, 6, 10, 11] [5, 6, 10] (os := []) (s' := St.mk [(2, T.plain (vb x)), (3, T.plain (vb y)), (4, T.plain (vb z)), (5, T.plain (V.ptr 5 0)), (6, T.plain (V.ptr 6 0)), (10, T.plain (V.ptr 10 0)), (11, T.plain (i64 0))] [(5, Blk.mk [u8 3, u16 s, u8 cl, u8 se, u8 dk] true 5 none), (6, Blk.mk [u8 c1, u8 c2, u8 c3, u16 t0, u16 t1, u16 t2, u16 t3] true 7 none), (10, Blk.mk [u8 0, u16 0, u8 0, u8 0, u8 0] true 5 none)]) (by kernel_rfl) trivial ?_
  refine AWP.seq ?_
  refine AWP.seq ?_
  refine AWP.regionT tcok hmix [] [2, 3, 5, 6, 10, 11, 20] [5, 6, 10] (os := []) (s' := St.mk [(2, T.plain (vb x)), (3, T.plain (vb y)), (5, T.plain (V.ptr 5 0)), (6, T.plain (V.ptr 6 0)), (10, T.plain (V.ptr 10 0)), (11, T.plain (i64 0)), (20, T.plain (vb (z && true)))] [(5, Blk.mk [u8 3, u16 s, u8 cl, u8 se, u8 dk] true 5 none), (6, Blk.mk [u8 c1, u8 c2, u8 c3, u16 t0, u16 t1, u16 t2, u16 t3] true 7 none), (10, Blk.mk [u8 0, u16 0, u8 0, u8 0, u8 0] true 5 none)]) (by kernel_rfl) trivial ?_
  refine AWP.cond (b := z && true) (by kernel_rfl) (fun hq74 => ?_) (fun hq74 => ?_)
  · try simp only [Bool.or_false, Bool.false_or, Bool.true_and, Bool.and_true, decide_eq_true_eq, decide_eq_false_iff_not, Bool.and_eq_true, Bool.or_eq_true, Bool.or_eq_false_iff, Bool.not_eq_true', Bool.and_eq_false_iff, beq_iff_eq, bne_iff_ne, beq_eq_false_iff_ne, Bool.not_eq_false'] at hq74
    refine AWP.seq ?_
    refine AWP.regionT tcok hmix [] [2, 3, 5, 6, 10, 11] [5, 6, 10] (os := []) (s' := St.mk [(2, T.plain (vb x)), (3, T.plain (vb y)), (5, T.plain (V.ptr 5 0)), (6, T.plain (V.ptr 6 0)), (10, T.plain (V.ptr 10 0)), (11, T.plain (i64 1))] [(5, Blk.mk [u8 3, u16 s, u8 cl, u8 se, u8 dk] true 5 none), (6, Blk.mk [u8 c1, u8 c2, u8 c3, u16 t0, u16 t1, u16 t2, u16 t3] true 7 none), (10, Blk.mk [u8 0, u16 0, u8 0, u8 0, u8 0] true 5 none)]) (by kernel_rfl) trivial ?_
    refine AWP.ret ?_
    refine ⟨Or.inr rfl, Eq.trans (b := some ([], V.tup [V.agg true [u8 0, u16 0, u8 0, u8 0, u8 0], i64 1])) (by kernel_rfl) ?_⟩
    (clear b1 b2 b3 b4 h1 h2 h3 h4 h5 h6 h7 h8; cases x <;> cases y <;> cases z <;> first | contradiction | (exfalso; simp at *; done) | (simp (disch := omega) [step, rest, count, Au.zero, Au.at, since_up, more_up, late, reached, if_pos, if_neg]; done))
  try simp only [Bool.or_false, Bool.false_or, Bool.true_and, Bool.and_true, decide_eq_true_eq, decide_eq_false_iff_not, Bool.and_eq_true, Bool.or_eq_true, Bool.or_eq_false_iff, Bool.not_eq_true', Bool.and_eq_false_iff, beq_iff_eq, bne_iff_ne, beq_eq_false_iff_ne, Bool.not_eq_false'] at hq74
  refine AWP.skip ?_
  refine AWP.seq ?_
  refine AWP.regionT tcok hmix [(2, ⟨some (i64 s), none⟩), (3, ⟨none, some ⟨i64 (up s 65535), [], []⟩⟩), (4, ⟨some (u16 (up s 65535)), none⟩)] [2, 3, 5, 6, 10, 11] [5, 6, 10] (os := [i64 (IntKind.wrap IntKind.i64 s) = i64 s, Con Try.prog 16 [] [i64 s, i64 65535] [] (i64 (up s 65535)), u16 (IntKind.wrap IntKind.u16 (up s 65535)) = u16 (up s 65535)]) (s' := St.mk [(2, T.plain (vb x)), (3, T.plain (vb y)), (5, T.plain (V.ptr 5 0)), (6, T.plain (V.ptr 6 0)), (10, T.plain (V.ptr 10 0)), (11, T.plain (i64 0))] [(5, Blk.mk [u8 3, u16 (up s 65535), u8 cl, u8 se, u8 dk] true 5 none), (6, Blk.mk [u8 c1, u8 c2, u8 c3, u16 t0, u16 t1, u16 t2, u16 t3] true 7 none), (10, Blk.mk [u8 0, u16 0, u8 0, u8 0, u8 0] true 5 none)]) (by kernel_rfl) ⟨(wr_i64 (by omega) (by omega)), (Go.Proofs.Ytklbonfbiakebaa.con_up (s) (65535) (by omega) (by omega) (by omega)), (wr_u16 (by omega) (by omega)), trivial⟩ ?_
  refine AWP.seq ?_
  refine AWP.regionT tcok hmix [(2, ⟨some (i64 cl), none⟩), (3, ⟨none, some ⟨i64 (up cl 255), [], []⟩⟩), (6, ⟨some (i64 se), none⟩), (7, ⟨none, some ⟨i64 (up se 255), [], []⟩⟩), (10, ⟨some (i64 dk), none⟩), (11, ⟨none, some ⟨i64 (up dk 255), [], []⟩⟩)] [2, 3, 5, 6, 10, 11, 12, 13, 14] [5, 6, 10] (os := [i64 (IntKind.wrap IntKind.i64 cl) = i64 cl, Con Try.prog 16 [] [i64 cl, i64 255] [] (i64 (up cl 255)), i64 (IntKind.wrap IntKind.i64 se) = i64 se, Con Try.prog 16 [] [i64 se, i64 255] [] (i64 (up se 255)), i64 (IntKind.wrap IntKind.i64 dk) = i64 dk, Con Try.prog 16 [] [i64 dk, i64 255] [] (i64 (up dk 255))]) (s' := St.mk [(2, T.plain (vb x)), (3, T.plain (vb y)), (5, T.plain (V.ptr 5 0)), (6, T.plain (V.ptr 6 0)), (10, T.plain (V.ptr 10 0)), (11, T.plain (i64 0)), (12, T.plain (i64 (up cl 255))), (13, T.plain (i64 (up se 255))), (14, T.plain (i64 (up dk 255)))] [(5, Blk.mk [u8 3, u16 (up s 65535), u8 cl, u8 se, u8 dk] true 5 none), (6, Blk.mk [u8 c1, u8 c2, u8 c3, u16 t0, u16 t1, u16 t2, u16 t3] true 7 none), (10, Blk.mk [u8 0, u16 0, u8 0, u8 0, u8 0] true 5 none)]) (by kernel_rfl) ⟨(wr_i64 (by omega) (by omega)), (Go.Proofs.Ytklbonfbiakebaa.con_up (cl) (255) (by omega) (by omega) (by omega)), (wr_i64 (by omega) (by omega)), (Go.Proofs.Ytklbonfbiakebaa.con_up (se) (255) (by omega) (by omega) (by omega)), (wr_i64 (by omega) (by omega)), (Go.Proofs.Ytklbonfbiakebaa.con_up (dk) (255) (by omega) (by omega) (by omega)), trivial⟩ ?_
  refine AWP.seq ?_
  refine AWP.seq ?_
  refine AWP.regionT tcok hmix [] [3, 5, 6, 10, 11, 12, 13, 14, 41] [5, 6, 10] (os := []) (s' := St.mk [(3, T.plain (vb y)), (5, T.plain (V.ptr 5 0)), (6, T.plain (V.ptr 6 0)), (10, T.plain (V.ptr 10 0)), (11, T.plain (i64 0)), (12, T.plain (i64 (up cl 255))), (13, T.plain (i64 (up se 255))), (14, T.plain (i64 (up dk 255))), (41, T.plain (vb !x))] [(5, Blk.mk [u8 3, u16 (up s 65535), u8 cl, u8 se, u8 dk] true 5 none), (6, Blk.mk [u8 c1, u8 c2, u8 c3, u16 t0, u16 t1, u16 t2, u16 t3] true 7 none), (10, Blk.mk [u8 0, u16 0, u8 0, u8 0, u8 0] true 5 none)]) (by kernel_rfl) trivial ?_
  refine AWP.cond (b := !x) (by kernel_rfl) (fun hq75 => ?_) (fun hq75 => ?_)
  · try simp only [Bool.or_false, Bool.false_or, Bool.true_and, Bool.and_true, decide_eq_true_eq, decide_eq_false_iff_not, Bool.and_eq_true, Bool.or_eq_true, Bool.or_eq_false_iff, Bool.not_eq_true', Bool.and_eq_false_iff, beq_iff_eq, bne_iff_ne, beq_eq_false_iff_ne, Bool.not_eq_false'] at hq75
    refine AWP.regionT tcok hmix [] [3, 5, 6, 10, 11, 12, 13, 14] [5, 6, 10] (os := []) (s' := St.mk [(3, T.plain (vb y)), (5, T.plain (V.ptr 5 0)), (6, T.plain (V.ptr 6 0)), (10, T.plain (V.ptr 10 0)), (11, T.plain (i64 0)), (12, T.plain (i64 0)), (13, T.plain (i64 (up se 255))), (14, T.plain (i64 (up dk 255)))] [(5, Blk.mk [u8 3, u16 (up s 65535), u8 cl, u8 se, u8 dk] true 5 none), (6, Blk.mk [u8 c1, u8 c2, u8 c3, u16 t0, u16 t1, u16 t2, u16 t3] true 7 none), (10, Blk.mk [u8 0, u16 0, u8 0, u8 0, u8 0] true 5 none)]) (by kernel_rfl) trivial ?_
    refine AWP.seq ?_
    refine AWP.seq ?_
    refine AWP.regionT tcok hmix [] [5, 6, 10, 11, 12, 13, 14, 42] [5, 6, 10] (os := []) (s' := St.mk [(5, T.plain (V.ptr 5 0)), (6, T.plain (V.ptr 6 0)), (10, T.plain (V.ptr 10 0)), (11, T.plain (i64 0)), (12, T.plain (i64 0)), (13, T.plain (i64 (up se 255))), (14, T.plain (i64 (up dk 255))), (42, T.plain (vb y))] [(5, Blk.mk [u8 3, u16 (up s 65535), u8 cl, u8 se, u8 dk] true 5 none), (6, Blk.mk [u8 c1, u8 c2, u8 c3, u16 t0, u16 t1, u16 t2, u16 t3] true 7 none), (10, Blk.mk [u8 0, u16 0, u8 0, u8 0, u8 0] true 5 none)]) (by kernel_rfl) trivial ?_
    refine AWP.cond (b := y) (by kernel_rfl) (fun hq76 => ?_) (fun hq76 => ?_)
    · try simp only [Bool.or_false, Bool.false_or, Bool.true_and, Bool.and_true, decide_eq_true_eq, decide_eq_false_iff_not, Bool.and_eq_true, Bool.or_eq_true, Bool.or_eq_false_iff, Bool.not_eq_true', Bool.and_eq_false_iff, beq_iff_eq, bne_iff_ne, beq_eq_false_iff_ne, Bool.not_eq_false'] at hq76
      refine AWP.regionT tcok hmix [] [5, 6, 10, 11, 12, 13, 14] [5, 6, 10] (os := []) (s' := St.mk [(5, T.plain (V.ptr 5 0)), (6, T.plain (V.ptr 6 0)), (10, T.plain (V.ptr 10 0)), (11, T.plain (i64 0)), (12, T.plain (i64 0)), (13, T.plain (i64 (up se 255))), (14, T.plain (i64 0))] [(5, Blk.mk [u8 3, u16 (up s 65535), u8 cl, u8 se, u8 dk] true 5 none), (6, Blk.mk [u8 c1, u8 c2, u8 c3, u16 t0, u16 t1, u16 t2, u16 t3] true 7 none), (10, Blk.mk [u8 0, u16 0, u8 0, u8 0, u8 0] true 5 none)]) (by kernel_rfl) trivial ?_
      refine AWP.seq ?_
      refine AWP.regionT tcok hmix [(3, ⟨some (u8 (up se 255)), none⟩)] [5, 6, 10, 11] [5, 6, 10] (os := [u8 (IntKind.wrap IntKind.u8 (up se 255)) = u8 (up se 255)]) (s' := St.mk [(5, T.plain (V.ptr 5 0)), (6, T.plain (V.ptr 6 0)), (10, T.plain (V.ptr 10 0)), (11, T.plain (i64 0))] [(5, Blk.mk [u8 3, u16 (up s 65535), u8 0, u8 (up se 255), u8 0] true 5 none), (6, Blk.mk [u8 c1, u8 c2, u8 c3, u16 t0, u16 t1, u16 t2, u16 t3] true 7 none), (10, Blk.mk [u8 0, u16 0, u8 0, u8 0, u8 0] true 5 none)]) (by kernel_rfl) ⟨(wr_u8 (by omega) (by omega)), trivial⟩ ?_
      refine AWP.seq ?_
      refine AWP.seq ?_
      refine AWP.regionT tcok hmix [] [5, 6, 10, 11, 66] [5, 6, 10] (os := []) (s' := St.mk [(5, T.plain (V.ptr 5 0)), (6, T.plain (V.ptr 6 0)), (10, T.plain (V.ptr 10 0)), (11, T.plain (i64 0)), (66, T.plain (vb false))] [(5, Blk.mk [u8 3, u16 (up s 65535), u8 0, u8 (up se 255), u8 0] true 5 none), (6, Blk.mk [u8 c1, u8 c2, u8 c3, u16 t0, u16 t1, u16 t2, u16 t3] true 7 none), (10, Blk.mk [u8 0, u16 0, u8 0, u8 0, u8 0] true 5 none)]) (by kernel_rfl) trivial ?_
      refine AWP.cond (b := false) (by kernel_rfl) (fun h => by cases h) (fun _ => ?_)
      refine AWP.skip ?_
      refine AWP.seq ?_
      refine AWP.seq ?_
      refine AWP.regionT tcok hmix [] [5, 6, 10, 11, 82] [5, 6, 10] (os := []) (s' := St.mk [(5, T.plain (V.ptr 5 0)), (6, T.plain (V.ptr 6 0)), (10, T.plain (V.ptr 10 0)), (11, T.plain (i64 0)), (82, T.plain (vb (true && decide (c3 > 0) && decide (0 ≥ c3))))] [(5, Blk.mk [u8 3, u16 (up s 65535), u8 0, u8 (up se 255), u8 0] true 5 none), (6, Blk.mk [u8 c1, u8 c2, u8 c3, u16 t0, u16 t1, u16 t2, u16 t3] true 7 none), (10, Blk.mk [u8 0, u16 0, u8 0, u8 0, u8 0] true 5 none)]) (by kernel_rfl) trivial ?_
      refine AWP.cond (b := true && decide (c3 > 0) && decide (0 ≥ c3)) (by kernel_rfl) (fun hq78 => ?_) (fun hq78 => ?_)
      · try simp only [Bool.or_false, Bool.false_or, Bool.true_and, Bool.and_true, decide_eq_true_eq, decide_eq_false_iff_not, Bool.and_eq_true, Bool.or_eq_true, Bool.or_eq_false_iff, Bool.not_eq_true', Bool.and_eq_false_iff, beq_iff_eq, bne_iff_ne, beq_eq_false_iff_ne, Bool.not_eq_false'] at hq78
        (exfalso; omega)
      try simp only [Bool.or_false, Bool.false_or, Bool.true_and, Bool.and_true, decide_eq_true_eq, decide_eq_false_iff_not, Bool.and_eq_true, Bool.or_eq_true, Bool.or_eq_false_iff, Bool.not_eq_true', Bool.and_eq_false_iff, beq_iff_eq, bne_iff_ne, beq_eq_false_iff_ne, Bool.not_eq_false'] at hq78
      refine AWP.skip ?_
      refine AWP.seq ?_
      refine AWP.seq ?_
      refine AWP.regionT tcok hmix [] [5, 6, 10, 11, 98] [5, 6, 10] (os := []) (s' := St.mk [(5, T.plain (V.ptr 5 0)), (6, T.plain (V.ptr 6 0)), (10, T.plain (V.ptr 10 0)), (11, T.plain (i64 0)), (98, T.plain (vb false))] [(5, Blk.mk [u8 3, u16 (up s 65535), u8 0, u8 (up se 255), u8 0] true 5 none), (6, Blk.mk [u8 c1, u8 c2, u8 c3, u16 t0, u16 t1, u16 t2, u16 t3] true 7 none), (10, Blk.mk [u8 0, u16 0, u8 0, u8 0, u8 0] true 5 none)]) (by kernel_rfl) trivial ?_
      refine AWP.cond (b := false) (by kernel_rfl) (fun h => by cases h) (fun _ => ?_)
      refine AWP.skip ?_
      refine AWP.seq ?_
      refine AWP.regionT tcok hmix [] [10, 11] [10] (os := []) (s' := St.mk [(10, T.plain (V.ptr 10 0)), (11, T.plain (i64 0))] [(10, Blk.mk [u8 3, u16 (up s 65535), u8 0, u8 (up se 255), u8 0] true 5 none)]) (by kernel_rfl) trivial ?_
      refine AWP.ret ?_
      refine ⟨Or.inr rfl, Eq.trans (b := some ([], V.tup [V.agg true [u8 3, u16 (up s 65535), u8 0, u8 (up se 255), u8 0], i64 0])) (by kernel_rfl) ?_⟩
      (clear b1 b2 b3 b4 h1 h2 h3 h4 h5 h6 h7 h8; cases x <;> cases y <;> cases z <;> first | contradiction | (exfalso; simp at *; done) | (simp (disch := omega) [step, rest, count, Au.zero, Au.at, since_up, more_up, late, reached, if_pos, if_neg]; done))
    try simp only [Bool.or_false, Bool.false_or, Bool.true_and, Bool.and_true, decide_eq_true_eq, decide_eq_false_iff_not, Bool.and_eq_true, Bool.or_eq_true, Bool.or_eq_false_iff, Bool.not_eq_true', Bool.and_eq_false_iff, beq_iff_eq, bne_iff_ne, beq_eq_false_iff_ne, Bool.not_eq_false'] at hq76
    refine AWP.regionT tcok hmix [] [5, 6, 10, 11, 12, 13, 14] [5, 6, 10] (os := []) (s' := St.mk [(5, T.plain (V.ptr 5 0)), (6, T.plain (V.ptr 6 0)), (10, T.plain (V.ptr 10 0)), (11, T.plain (i64 0)), (12, T.plain (i64 0)), (13, T.plain (i64 0)), (14, T.plain (i64 (up dk 255)))] [(5, Blk.mk [u8 3, u16 (up s 65535), u8 cl, u8 se, u8 dk] true 5 none), (6, Blk.mk [u8 c1, u8 c2, u8 c3, u16 t0, u16 t1, u16 t2, u16 t3] true 7 none), (10, Blk.mk [u8 0, u16 0, u8 0, u8 0, u8 0] true 5 none)]) (by kernel_rfl) trivial ?_
    refine AWP.seq ?_
    refine AWP.regionT tcok hmix [(5, ⟨some (u8 (up dk 255)), none⟩)] [5, 6, 10, 11] [5, 6, 10] (os := [u8 (IntKind.wrap IntKind.u8 (up dk 255)) = u8 (up dk 255)]) (s' := St.mk [(5, T.plain (V.ptr 5 0)), (6, T.plain (V.ptr 6 0)), (10, T.plain (V.ptr 10 0)), (11, T.plain (i64 0))] [(5, Blk.mk [u8 3, u16 (up s 65535), u8 0, u8 0, u8 (up dk 255)] true 5 none), (6, Blk.mk [u8 c1, u8 c2, u8 c3, u16 t0, u16 t1, u16 t2, u16 t3] true 7 none), (10, Blk.mk [u8 0, u16 0, u8 0, u8 0, u8 0] true 5 none)]) (by kernel_rfl) ⟨(wr_u8 (by omega) (by omega)), trivial⟩ ?_
    refine AWP.seq ?_
    refine AWP.seq ?_
    refine AWP.regionT tcok hmix [] [5, 6, 10, 11, 66] [5, 6, 10] (os := []) (s' := St.mk [(5, T.plain (V.ptr 5 0)), (6, T.plain (V.ptr 6 0)), (10, T.plain (V.ptr 10 0)), (11, T.plain (i64 0)), (66, T.plain (vb false))] [(5, Blk.mk [u8 3, u16 (up s 65535), u8 0, u8 0, u8 (up dk 255)] true 5 none), (6, Blk.mk [u8 c1, u8 c2, u8 c3, u16 t0, u16 t1, u16 t2, u16 t3] true 7 none), (10, Blk.mk [u8 0, u16 0, u8 0, u8 0, u8 0] true 5 none)]) (by kernel_rfl) trivial ?_
    refine AWP.cond (b := false) (by kernel_rfl) (fun h => by cases h) (fun _ => ?_)
    refine AWP.skip ?_
    refine AWP.seq ?_
    refine AWP.seq ?_
    refine AWP.regionT tcok hmix [] [5, 6, 10, 11, 82] [5, 6, 10] (os := []) (s' := St.mk [(5, T.plain (V.ptr 5 0)), (6, T.plain (V.ptr 6 0)), (10, T.plain (V.ptr 10 0)), (11, T.plain (i64 0)), (82, T.plain (vb (true && decide (c3 > 0) && decide (up dk 255 ≥ c3))))] [(5, Blk.mk [u8 3, u16 (up s 65535), u8 0, u8 0, u8 (up dk 255)] true 5 none), (6, Blk.mk [u8 c1, u8 c2, u8 c3, u16 t0, u16 t1, u16 t2, u16 t3] true 7 none), (10, Blk.mk [u8 0, u16 0, u8 0, u8 0, u8 0] true 5 none)]) (by kernel_rfl) trivial ?_
    refine AWP.cond (b := true && decide (c3 > 0) && decide (up dk 255 ≥ c3)) (by kernel_rfl) (fun hq81 => ?_) (fun hq81 => ?_)
    · try simp only [Bool.or_false, Bool.false_or, Bool.true_and, Bool.and_true, decide_eq_true_eq, decide_eq_false_iff_not, Bool.and_eq_true, Bool.or_eq_true, Bool.or_eq_false_iff, Bool.not_eq_true', Bool.and_eq_false_iff, beq_iff_eq, bne_iff_ne, beq_eq_false_iff_ne, Bool.not_eq_false'] at hq81
      refine AWP.seq ?_
      refine AWP.regionT tcok hmix [] [5, 6, 10, 11] [5, 6, 10] (os := []) (s' := St.mk [(5, T.plain (V.ptr 5 0)), (6, T.plain (V.ptr 6 0)), (10, T.plain (V.ptr 10 0)), (11, T.plain (i64 4))] [(5, Blk.mk [u8 3, u16 (up s 65535), u8 0, u8 0, u8 (up dk 255)] true 5 none), (6, Blk.mk [u8 c1, u8 c2, u8 c3, u16 t0, u16 t1, u16 t2, u16 t3] true 7 none), (10, Blk.mk [u8 2, u16 0, u8 0, u8 0, u8 0] true 5 none)]) (by kernel_rfl) trivial ?_
      refine AWP.ret ?_
      refine ⟨Or.inr rfl, Eq.trans (b := some ([], V.tup [V.agg true [u8 2, u16 0, u8 0, u8 0, u8 0], i64 4])) (by kernel_rfl) ?_⟩
      (clear b1 b2 b3 b4 h1 h2 h3 h4 h5 h6 h7 h8; cases x <;> cases y <;> cases z <;> first | contradiction | (exfalso; simp at *; done) | (simp (disch := omega) [step, rest, count, Au.zero, Au.at, since_up, more_up, late, reached, if_pos, if_neg]; done))
    try simp only [Bool.or_false, Bool.false_or, Bool.true_and, Bool.and_true, decide_eq_true_eq, decide_eq_false_iff_not, Bool.and_eq_true, Bool.or_eq_true, Bool.or_eq_false_iff, Bool.not_eq_true', Bool.and_eq_false_iff, beq_iff_eq, bne_iff_ne, beq_eq_false_iff_ne, Bool.not_eq_false'] at hq81
    refine AWP.skip ?_
    refine AWP.seq ?_
    refine AWP.seq ?_
    refine AWP.regionT tcok hmix [] [5, 6, 10, 11, 98] [5, 6, 10] (os := []) (s' := St.mk [(5, T.plain (V.ptr 5 0)), (6, T.plain (V.ptr 6 0)), (10, T.plain (V.ptr 10 0)), (11, T.plain (i64 0)), (98, T.plain (vb false))] [(5, Blk.mk [u8 3, u16 (up s 65535), u8 0, u8 0, u8 (up dk 255)] true 5 none), (6, Blk.mk [u8 c1, u8 c2, u8 c3, u16 t0, u16 t1, u16 t2, u16 t3] true 7 none), (10, Blk.mk [u8 0, u16 0, u8 0, u8 0, u8 0] true 5 none)]) (by kernel_rfl) trivial ?_
    refine AWP.cond (b := false) (by kernel_rfl) (fun h => by cases h) (fun _ => ?_)
    refine AWP.skip ?_
    refine AWP.seq ?_
    refine AWP.regionT tcok hmix [] [10, 11] [10] (os := []) (s' := St.mk [(10, T.plain (V.ptr 10 0)), (11, T.plain (i64 0))] [(10, Blk.mk [u8 3, u16 (up s 65535), u8 0, u8 0, u8 (up dk 255)] true 5 none)]) (by kernel_rfl) trivial ?_
    refine AWP.ret ?_
    refine ⟨Or.inr rfl, Eq.trans (b := some ([], V.tup [V.agg true [u8 3, u16 (up s 65535), u8 0, u8 0, u8 (up dk 255)], i64 0])) (by kernel_rfl) ?_⟩
    (clear b1 b2 b3 b4 h1 h2 h3 h4 h5 h6 h7 h8; cases x <;> cases y <;> cases z <;> first | contradiction | (exfalso; simp at *; done) | (simp (disch := omega) [step, rest, count, Au.zero, Au.at, since_up, more_up, late, reached, if_pos, if_neg]; done))
  try simp only [Bool.or_false, Bool.false_or, Bool.true_and, Bool.and_true, decide_eq_true_eq, decide_eq_false_iff_not, Bool.and_eq_true, Bool.or_eq_true, Bool.or_eq_false_iff, Bool.not_eq_true', Bool.and_eq_false_iff, beq_iff_eq, bne_iff_ne, beq_eq_false_iff_ne, Bool.not_eq_false'] at hq75
  refine AWP.skip ?_
  refine AWP.seq ?_
  refine AWP.seq ?_
  refine AWP.regionT tcok hmix [] [5, 6, 10, 11, 12, 13, 14, 42] [5, 6, 10] (os := []) (s' := St.mk [(5, T.plain (V.ptr 5 0)), (6, T.plain (V.ptr 6 0)), (10, T.plain (V.ptr 10 0)), (11, T.plain (i64 0)), (12, T.plain (i64 (up cl 255))), (13, T.plain (i64 (up se 255))), (14, T.plain (i64 (up dk 255))), (42, T.plain (vb y))] [(5, Blk.mk [u8 3, u16 (up s 65535), u8 cl, u8 se, u8 dk] true 5 none), (6, Blk.mk [u8 c1, u8 c2, u8 c3, u16 t0, u16 t1, u16 t2, u16 t3] true 7 none), (10, Blk.mk [u8 0, u16 0, u8 0, u8 0, u8 0] true 5 none)]) (by kernel_rfl) trivial ?_
  refine AWP.cond (b := y) (by kernel_rfl) (fun hq83 => ?_) (fun hq83 => ?_)
  · try simp only [Bool.or_false, Bool.false_or, Bool.true_and, Bool.and_true, decide_eq_true_eq, decide_eq_false_iff_not, Bool.and_eq_true, Bool.or_eq_true, Bool.or_eq_false_iff, Bool.not_eq_true', Bool.and_eq_false_iff, beq_iff_eq, bne_iff_ne, beq_eq_false_iff_ne, Bool.not_eq_false'] at hq83
    refine AWP.regionT tcok hmix [] [5, 6, 10, 11, 12, 13, 14] [5, 6, 10] (os := []) (s' := St.mk [(5, T.plain (V.ptr 5 0)), (6, T.plain (V.ptr 6 0)), (10, T.plain (V.ptr 10 0)), (11, T.plain (i64 0)), (12, T.plain (i64 (up cl 255))), (13, T.plain (i64 (up se 255))), (14, T.plain (i64 0))] [(5, Blk.mk [u8 3, u16 (up s 65535), u8 cl, u8 se, u8 dk] true 5 none), (6, Blk.mk [u8 c1, u8 c2, u8 c3, u16 t0, u16 t1, u16 t2, u16 t3] true 7 none), (10, Blk.mk [u8 0, u16 0, u8 0, u8 0, u8 0] true 5 none)]) (by kernel_rfl) trivial ?_
    refine AWP.seq ?_
    refine AWP.regionT tcok hmix [(1, ⟨some (u8 (up cl 255)), none⟩), (3, ⟨some (u8 (up se 255)), none⟩)] [5, 6, 10, 11] [5, 6, 10] (os := [u8 (IntKind.wrap IntKind.u8 (up cl 255)) = u8 (up cl 255), u8 (IntKind.wrap IntKind.u8 (up se 255)) = u8 (up se 255)]) (s' := St.mk [(5, T.plain (V.ptr 5 0)), (6, T.plain (V.ptr 6 0)), (10, T.plain (V.ptr 10 0)), (11, T.plain (i64 0))] [(5, Blk.mk [u8 3, u16 (up s 65535), u8 (up cl 255), u8 (up se 255), u8 0] true 5 none), (6, Blk.mk [u8 c1, u8 c2, u8 c3, u16 t0, u16 t1, u16 t2, u16 t3] true 7 none), (10, Blk.mk [u8 0, u16 0, u8 0, u8 0, u8 0] true 5 none)]) (by kernel_rfl) ⟨(wr_u8 (by omega) (by omega)), (wr_u8 (by omega) (by omega)), trivial⟩ ?_
    refine AWP.seq ?_
    refine AWP.seq ?_
    refine AWP.regionT tcok hmix [] [5, 6, 10, 11, 66] [5, 6, 10] (os := []) (s' := St.mk [(5, T.plain (V.ptr 5 0)), (6, T.plain (V.ptr 6 0)), (10, T.plain (V.ptr 10 0)), (11, T.plain (i64 0)), (66, T.plain (vb false))] [(5, Blk.mk [u8 3, u16 (up s 65535), u8 (up cl 255), u8 (up se 255), u8 0] true 5 none), (6, Blk.mk [u8 c1, u8 c2, u8 c3, u16 t0, u16 t1, u16 t2, u16 t3] true 7 none), (10, Blk.mk [u8 0, u16 0, u8 0, u8 0, u8 0] true 5 none)]) (by kernel_rfl) trivial ?_
    refine AWP.cond (b := false) (by kernel_rfl) (fun h => by cases h) (fun _ => ?_)
    refine AWP.skip ?_
    refine AWP.seq ?_
    refine AWP.seq ?_
    refine AWP.regionT tcok hmix [] [5, 6, 10, 11, 82] [5, 6, 10] (os := []) (s' := St.mk [(5, T.plain (V.ptr 5 0)), (6, T.plain (V.ptr 6 0)), (10, T.plain (V.ptr 10 0)), (11, T.plain (i64 0)), (82, T.plain (vb (true && decide (c3 > 0) && decide (0 ≥ c3))))] [(5, Blk.mk [u8 3, u16 (up s 65535), u8 (up cl 255), u8 (up se 255), u8 0] true 5 none), (6, Blk.mk [u8 c1, u8 c2, u8 c3, u16 t0, u16 t1, u16 t2, u16 t3] true 7 none), (10, Blk.mk [u8 0, u16 0, u8 0, u8 0, u8 0] true 5 none)]) (by kernel_rfl) trivial ?_
    refine AWP.cond (b := true && decide (c3 > 0) && decide (0 ≥ c3)) (by kernel_rfl) (fun hq85 => ?_) (fun hq85 => ?_)
    · try simp only [Bool.or_false, Bool.false_or, Bool.true_and, Bool.and_true, decide_eq_true_eq, decide_eq_false_iff_not, Bool.and_eq_true, Bool.or_eq_true, Bool.or_eq_false_iff, Bool.not_eq_true', Bool.and_eq_false_iff, beq_iff_eq, bne_iff_ne, beq_eq_false_iff_ne, Bool.not_eq_false'] at hq85
      (exfalso; omega)
    try simp only [Bool.or_false, Bool.false_or, Bool.true_and, Bool.and_true, decide_eq_true_eq, decide_eq_false_iff_not, Bool.and_eq_true, Bool.or_eq_true, Bool.or_eq_false_iff, Bool.not_eq_true', Bool.and_eq_false_iff, beq_iff_eq, bne_iff_ne, beq_eq_false_iff_ne, Bool.not_eq_false'] at hq85
    refine AWP.skip ?_
    refine AWP.seq ?_
    refine AWP.seq ?_
    refine AWP.regionT tcok hmix [] [5, 6, 10, 11, 98] [5, 6, 10] (os := []) (s' := St.mk [(5, T.plain (V.ptr 5 0)), (6, T.plain (V.ptr 6 0)), (10, T.plain (V.ptr 10 0)), (11, T.plain (i64 0)), (98, T.plain (vb false))] [(5, Blk.mk [u8 3, u16 (up s 65535), u8 (up cl 255), u8 (up se 255), u8 0] true 5 none), (6, Blk.mk [u8 c1, u8 c2, u8 c3, u16 t0, u16 t1, u16 t2, u16 t3] true 7 none), (10, Blk.mk [u8 0, u16 0, u8 0, u8 0, u8 0] true 5 none)]) (by kernel_rfl) trivial ?_
    refine AWP.cond (b := false) (by kernel_rfl) (fun h => by cases h) (fun _ => ?_)
    refine AWP.skip ?_
    refine AWP.seq ?_
    refine AWP.regionT tcok hmix [] [10, 11] [10] (os := []) (s' := St.mk [(10, T.plain (V.ptr 10 0)), (11, T.plain (i64 0))] [(10, Blk.mk [u8 3, u16 (up s 65535), u8 (up cl 255), u8 (up se 255), u8 0] true 5 none)]) (by kernel_rfl) trivial ?_
    refine AWP.ret ?_
    refine ⟨Or.inr rfl, Eq.trans (b := some ([], V.tup [V.agg true [u8 3, u16 (up s 65535), u8 (up cl 255), u8 (up se 255), u8 0], i64 0])) (by kernel_rfl) ?_⟩
    (clear b1 b2 b3 b4 h1 h2 h3 h4 h5 h6 h7 h8; cases x <;> cases y <;> cases z <;> first | contradiction | (exfalso; simp at *; done) | (simp (disch := omega) [step, rest, count, Au.zero, Au.at, since_up, more_up, late, reached, if_pos, if_neg]; done))
  try simp only [Bool.or_false, Bool.false_or, Bool.true_and, Bool.and_true, decide_eq_true_eq, decide_eq_false_iff_not, Bool.and_eq_true, Bool.or_eq_true, Bool.or_eq_false_iff, Bool.not_eq_true', Bool.and_eq_false_iff, beq_iff_eq, bne_iff_ne, beq_eq_false_iff_ne, Bool.not_eq_false'] at hq83
  refine AWP.regionT tcok hmix [] [5, 6, 10, 11, 12, 13, 14] [5, 6, 10] (os := []) (s' := St.mk [(5, T.plain (V.ptr 5 0)), (6, T.plain (V.ptr 6 0)), (10, T.plain (V.ptr 10 0)), (11, T.plain (i64 0)), (12, T.plain (i64 (up cl 255))), (13, T.plain (i64 0)), (14, T.plain (i64 (up dk 255)))] [(5, Blk.mk [u8 3, u16 (up s 65535), u8 cl, u8 se, u8 dk] true 5 none), (6, Blk.mk [u8 c1, u8 c2, u8 c3, u16 t0, u16 t1, u16 t2, u16 t3] true 7 none), (10, Blk.mk [u8 0, u16 0, u8 0, u8 0, u8 0] true 5 none)]) (by kernel_rfl) trivial ?_
  refine AWP.seq ?_
  refine AWP.regionT tcok hmix [(1, ⟨some (u8 (up cl 255)), none⟩), (5, ⟨some (u8 (up dk 255)), none⟩)] [5, 6, 10, 11] [5, 6, 10] (os := [u8 (IntKind.wrap IntKind.u8 (up cl 255)) = u8 (up cl 255), u8 (IntKind.wrap IntKind.u8 (up dk 255)) = u8 (up dk 255)]) (s' := St.mk [(5, T.plain (V.ptr 5 0)), (6, T.plain (V.ptr 6 0)), (10, T.plain (V.ptr 10 0)), (11, T.plain (i64 0))] [(5, Blk.mk [u8 3, u16 (up s 65535), u8 (up cl 255), u8 0, u8 (up dk 255)] true 5 none), (6, Blk.mk [u8 c1, u8 c2, u8 c3, u16 t0, u16 t1, u16 t2, u16 t3] true 7 none), (10, Blk.mk [u8 0, u16 0, u8 0, u8 0, u8 0] true 5 none)]) (by kernel_rfl) ⟨(wr_u8 (by omega) (by omega)), (wr_u8 (by omega) (by omega)), trivial⟩ ?_
  refine AWP.seq ?_
  refine AWP.seq ?_
  refine AWP.regionT tcok hmix [] [5, 6, 10, 11, 66] [5, 6, 10] (os := []) (s' := St.mk [(5, T.plain (V.ptr 5 0)), (6, T.plain (V.ptr 6 0)), (10, T.plain (V.ptr 10 0)), (11, T.plain (i64 0)), (66, T.plain (vb false))] [(5, Blk.mk [u8 3, u16 (up s 65535), u8 (up cl 255), u8 0, u8 (up dk 255)] true 5 none), (6, Blk.mk [u8 c1, u8 c2, u8 c3, u16 t0, u16 t1, u16 t2, u16 t3] true 7 none), (10, Blk.mk [u8 0, u16 0, u8 0, u8 0, u8 0] true 5 none)]) (by kernel_rfl) trivial ?_
  refine AWP.cond (b := false) (by kernel_rfl) (fun h => by cases h) (fun _ => ?_)
  refine AWP.skip ?_
  refine AWP.seq ?_
  refine AWP.seq ?_
  refine AWP.regionT tcok hmix [] [5, 6, 10, 11, 82] [5, 6, 10] (os := []) (s' := St.mk [(5, T.plain (V.ptr 5 0)), (6, T.plain (V.ptr 6 0)), (10, T.plain (V.ptr 10 0)), (11, T.plain (i64 0)), (82, T.plain (vb (true && decide (c3 > 0) && decide (up dk 255 ≥ c3))))] [(5, Blk.mk [u8 3, u16 (up s 65535), u8 (up cl 255), u8 0, u8 (up dk 255)] true 5 none), (6, Blk.mk [u8 c1, u8 c2, u8 c3, u16 t0, u16 t1, u16 t2, u16 t3] true 7 none), (10, Blk.mk [u8 0, u16 0, u8 0, u8 0, u8 0] true 5 none)]) (by kernel_rfl) trivial ?_
  refine AWP.cond (b := true && decide (c3 > 0) && decide (up dk 255 ≥ c3)) (by kernel_rfl) (fun hq88 => ?_) (fun hq88 => ?_)
  · try simp only [Bool.or_false, Bool.false_or, Bool.true_and, Bool.and_true, decide_eq_true_eq, decide_eq_false_iff_not, Bool.and_eq_true, Bool.or_eq_true, Bool.or_eq_false_iff, Bool.not_eq_true', Bool.and_eq_false_iff, beq_iff_eq, bne_iff_ne, beq_eq_false_iff_ne, Bool.not_eq_false'] at hq88
    refine AWP.seq ?_
    refine AWP.regionT tcok hmix [] [5, 6, 10, 11] [5, 6, 10] (os := []) (s' := St.mk [(5, T.plain (V.ptr 5 0)), (6, T.plain (V.ptr 6 0)), (10, T.plain (V.ptr 10 0)), (11, T.plain (i64 4))] [(5, Blk.mk [u8 3, u16 (up s 65535), u8 (up cl 255), u8 0, u8 (up dk 255)] true 5 none), (6, Blk.mk [u8 c1, u8 c2, u8 c3, u16 t0, u16 t1, u16 t2, u16 t3] true 7 none), (10, Blk.mk [u8 2, u16 0, u8 0, u8 0, u8 0] true 5 none)]) (by kernel_rfl) trivial ?_
    refine AWP.ret ?_
    refine ⟨Or.inr rfl, Eq.trans (b := some ([], V.tup [V.agg true [u8 2, u16 0, u8 0, u8 0, u8 0], i64 4])) (by kernel_rfl) ?_⟩
    (clear b1 b2 b3 b4 h1 h2 h3 h4 h5 h6 h7 h8; cases x <;> cases y <;> cases z <;> first | contradiction | (exfalso; simp at *; done) | (simp (disch := omega) [step, rest, count, Au.zero, Au.at, since_up, more_up, late, reached, if_pos, if_neg]; done))
  try simp only [Bool.or_false, Bool.false_or, Bool.true_and, Bool.and_true, decide_eq_true_eq, decide_eq_false_iff_not, Bool.and_eq_true, Bool.or_eq_true, Bool.or_eq_false_iff, Bool.not_eq_true', Bool.and_eq_false_iff, beq_iff_eq, bne_iff_ne, beq_eq_false_iff_ne, Bool.not_eq_false'] at hq88
  refine AWP.skip ?_
  refine AWP.seq ?_
  refine AWP.seq ?_
  refine AWP.regionT tcok hmix [] [5, 6, 10, 11, 98] [5, 6, 10] (os := []) (s' := St.mk [(5, T.plain (V.ptr 5 0)), (6, T.plain (V.ptr 6 0)), (10, T.plain (V.ptr 10 0)), (11, T.plain (i64 0)), (98, T.plain (vb false))] [(5, Blk.mk [u8 3, u16 (up s 65535), u8 (up cl 255), u8 0, u8 (up dk 255)] true 5 none), (6, Blk.mk [u8 c1, u8 c2, u8 c3, u16 t0, u16 t1, u16 t2, u16 t3] true 7 none), (10, Blk.mk [u8 0, u16 0, u8 0, u8 0, u8 0] true 5 none)]) (by kernel_rfl) trivial ?_
  refine AWP.cond (b := false) (by kernel_rfl) (fun h => by cases h) (fun _ => ?_)
  refine AWP.skip ?_
  refine AWP.seq ?_
  refine AWP.regionT tcok hmix [] [10, 11] [10] (os := []) (s' := St.mk [(10, T.plain (V.ptr 10 0)), (11, T.plain (i64 0))] [(10, Blk.mk [u8 3, u16 (up s 65535), u8 (up cl 255), u8 0, u8 (up dk 255)] true 5 none)]) (by kernel_rfl) trivial ?_
  refine AWP.ret ?_
  refine ⟨Or.inr rfl, Eq.trans (b := some ([], V.tup [V.agg true [u8 3, u16 (up s 65535), u8 (up cl 255), u8 0, u8 (up dk 255)], i64 0])) (by kernel_rfl) ?_⟩
  (clear b1 b2 b3 b4 h1 h2 h3 h4 h5 h6 h7 h8; cases x <;> cases y <;> cases z <;> first | contradiction | (exfalso; simp at *; done) | (simp (disch := omega) [step, rest, count, Au.zero, Au.at, since_up, more_up, late, reached, if_pos, if_neg]; done))
theorem con_rstep (m s cl se dk c1 c2 c3 t0 t1 t2 t3 : Int) (x y z : Bool) (h : m = 0 ∨ m = 1 ∨ m = 2 ∨ m = 3) (h1 : 0 ≤ s) (h2 : s < 65536) (h3 : 0 ≤ cl) (h4 : cl < 256) (h5 : 0 ≤ se) (h6 : se < 256) (h7 : 0 ≤ dk) (h8 : dk < 256) :
    Con Try.prog 10 [] [.agg true [u8 m, u16 s, u8 cl, u8 se, u8 dk], .agg true [u8 c1, u8 c2, u8 c3, u16 t0, u16 t1, u16 t2, u16 t3], vb x, vb y, vb z] []
      (.tup [(step ⟨m, s, cl, se, dk⟩ ⟨c1, c2, c3, t0, t1, t2, t3⟩ x y z).1.v, i64 (step ⟨m, s, cl, se, dk⟩ ⟨c1, c2, c3, t0, t1, t2, t3⟩ x y z).2]) := by
  rcases h with rfl | rfl | rfl | rfl
  · exact con_rstep0 s cl se dk c1 c2 c3 t0 t1 t2 t3 x y z h1 h2 h3 h4 h5 h6 h7 h8
  · exact con_rstep1 s cl se dk c1 c2 c3 t0 t1 t2 t3 x y z h1 h2 h3 h4 h5 h6 h7 h8
  · exact con_rstep2 s cl se dk c1 c2 c3 t0 t1 t2 t3 x y z h1 h2 h3 h4 h5 h6 h7 h8
  · exact con_rstep3 s cl se dk c1 c2 c3 t0 t1 t2 t3 x y z h1 h2 h3 h4 h5 h6 h7 h8
end Go.Proofs.Ytklbonfbiakebaa
