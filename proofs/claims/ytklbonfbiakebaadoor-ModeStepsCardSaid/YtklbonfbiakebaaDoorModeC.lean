/- Package mode and the document's answer: what each function returns. -/
import Derived.Test.YtklbonfbiakebaaDoorRg
import Derived.Test.YtklbonfbiakebaaDoorTc
import Derived.Test.YtklbonfbiakebaaDoorAb22
namespace Go.Proofs.YtklbonfbiakebaaDoor
open Go.Ab
set_option linter.unusedSimpArgs false
set_option linter.unusedVariables false
def more (n : Int) (is : Bool) : Int := if is then (if n < 255 then n + 1 else n) else 0
def since (s : Int) : Int := if s < 65535 then s + 1 else s
def reached (n l : Int) : Bool := decide (l > 0) && decide (n ≥ l)
def late (m s se c2 t1 t2 : Int) : Bool := (decide (m = 1) && (decide (t1 > 0) && decide (s ≥ t1))) || (decide (m = 2) && decide (se < c2) && (decide (t2 > 0) && decide (s ≥ t2)))
structure Au where
  m : Int
  s : Int
  cl : Int
  se : Int
  dk : Int
deriving DecidableEq
abbrev Au.v (a : Au) : V := .agg true [u8 a.m, u16 a.s, u8 a.cl, u8 a.se, u8 a.dk]
structure Cf where
  c1 : Int
  c2 : Int
  c3 : Int
  t0 : Int
  t1 : Int
  t2 : Int
  t3 : Int
abbrev Cf.v (c : Cf) : V := .agg true [u8 c.c1, u8 c.c2, u8 c.c3, u16 c.t0, u16 c.t1, u16 c.t2, u16 c.t3]
def Au.ok (a : Au) : Prop := (a.m = 0 ∨ a.m = 1 ∨ a.m = 2 ∨ a.m = 3) ∧ 0 ≤ a.s ∧ a.s < 65536 ∧ 0 ≤ a.cl ∧ a.cl < 256 ∧ 0 ≤ a.se ∧ a.se < 256 ∧ 0 ≤ a.dk ∧ a.dk < 256
def Au.zero : Au := ⟨0, 0, 0, 0, 0⟩
def Au.at (m : Int) : Au := ⟨m, 0, 0, 0, 0⟩
def count (a : Au) (x y : Bool) : Au := ⟨a.m, since a.s, more a.cl x, more a.se y, more a.dk (!y)⟩
def rest (a : Au) (c : Cf) : Au × Int :=
  if a.m = 1 ∧ reached a.cl c.c1 = true then (.at 2, 2)
  else if a.m = 3 ∧ reached a.dk c.c3 = true then (.at 2, 4)
  else if late a.m a.s a.se c.c2 c.t1 c.t2 = true then (.zero, 3)
  else (a, 0)
def step (a : Au) (c : Cf) (x y z : Bool) : Au × Int := if z = true ∧ a.m ≠ 0 then (.zero, 1) else rest (count a x y) c
def ask (a : Au) (c : Cf) (q : Int) : Au × Int :=
  if q = 0 then (.zero, 0)
  else if q > 3 then (a, 1)
  else if q = a.m then (a, 0)
  else if (q = 1 ∧ a.m = 0) ∨ (q = 2 ∧ (a.m = 1 ∨ a.m = 3)) ∨ (q = 3 ∧ a.m = 2 ∧ a.se ≥ c.c2) then (.at q, 0)
  else (a, 7)
theorem more_bd (n : Int) (is : Bool) (h0 : 0 ≤ n) (h : n < 256) : 0 ≤ more n is ∧ more n is < 256 := by unfold more; split <;> (try split) <;> omega
theorem since_bd (n : Int) (h0 : 0 ≤ n) (h : n < 65536) : 0 ≤ since n ∧ since n < 65536 := by unfold since; split <;> omega

theorem con_more (n : Int) (is : Bool) (h0 : 0 ≤ n) (h : n < 256) : Con Tryd.prog 54 [] [u8 n, vb is] [] (u8 (more n is)) := by
  refine Con.of (C := ⟨Tryd.prog, tc, Tryd.f54.ntmps⟩) [] tcok Tryd.func54 rfl rfl (by kernel_rfl) (by kernel_rfl) ?_
  refine e0 [0, 1, 4] [] (by kernel_rfl) ?_
  refine AWP.seq ?_
  refine AWP.block ?_
  refine e0 [0, 4, 5] [] (by kernel_rfl) ?_
  refine AWP.cond (b := !is) (by kernel_rfl) (fun hq0 => ?_) (fun hq0 => ?_)
  · simp only [Bool.not_eq_true'] at hq0
    refine e0 [0, 4] [] (by kernel_rfl) ?_
    refine AWP.ret ?_
    refine ⟨Or.inr rfl, Eq.trans (b := some ([], u8 0)) (by kernel_rfl) ?_⟩
    (simp [more, *])
  simp only [Bool.not_eq_false'] at hq0
  refine e0 [0, 4, 8] [] (by kernel_rfl) ?_
  refine AWP.cond (b := decide (n < 255)) (by kernel_rfl) (fun hq1 => ?_) (fun hq1 => ?_)
  · simp only [decide_eq_true_eq] at hq1
    refine AWP.region tcok hmix [(1, ⟨some (u8 (n + 1)), none⟩)] (os := [u8 (IntKind.wrap IntKind.u8 (n + 1)) = u8 (n + 1)]) (sf := St.mk [(0, tp (u8 (n + 1))), (4, tp (u8 0)), (8, tp (vb (decide (n < 255)))), (11, tp (u8 n)), (12, tp (u8 (n + 1)))] []) (by kernel_rfl) ⟨(wr_u8 (by omega) (by omega)), trivial⟩ ?_
    refine AWP.keep' [0, 4] [] (sf := St.mk [(0, tp (u8 (n + 1))), (4, tp (u8 0))] []) (by kernel_rfl) ?_
    refine e0 [4] [] (by kernel_rfl) ?_
    refine AWP.ret ?_
    refine ⟨Or.inr rfl, Eq.trans (b := some ([], u8 (n + 1))) (by kernel_rfl) ?_⟩
    (simp [more, *])
  simp only [decide_eq_false_iff_not] at hq1
  refine AWP.skip ?_
  refine e0 [4] [] (by kernel_rfl) ?_
  refine AWP.ret ?_
  refine ⟨Or.inr rfl, Eq.trans (b := some ([], u8 n)) (by kernel_rfl) ?_⟩
  (simp [more, *])
theorem con_fall (m s cl se dk : Int) : Con Tryd.prog 30 [] [.agg true [u8 m, u16 s, u8 cl, u8 se, u8 dk]] [] Au.zero.v := by
  refine Con.of (C := ⟨Tryd.prog, tc, Tryd.f30.ntmps⟩) [] tcok Tryd.func30 rfl rfl (by kernel_rfl) (by kernel_rfl) ?_
  refine e0 [2] [2] (by kernel_rfl) ?_
  refine e0 [2] [2] (by kernel_rfl) ?_
  refine AWP.ret ?_
  refine ⟨Or.inr rfl, Eq.trans (b := some ([], V.agg true [u8 0, u16 0, u8 0, u8 0, u8 0])) (by kernel_rfl) ?_⟩
  rfl
theorem con_count (m s cl se dk : Int) (x y : Bool) (h1 : 0 ≤ s) (h2 : s < 65536) (h3 : 0 ≤ cl) (h4 : cl < 256) (h5 : 0 ≤ se) (h6 : se < 256) (h7 : 0 ≤ dk) (h8 : dk < 256) :
    Con Tryd.prog 44 [] [.agg true [u8 m, u16 s, u8 cl, u8 se, u8 dk], vb x, vb y] [] (.agg true [u8 m, u16 (since s), u8 (more cl x), u8 (more se y), u8 (more dk (!y))]) := by
  refine Con.of (C := ⟨Tryd.prog, tc, Tryd.f44.ntmps⟩) [] tcok Tryd.func44 rfl rfl (by kernel_rfl) (by kernel_rfl) ?_
  refine e0 [1, 2, 3, 6] [3, 6] (by kernel_rfl) ?_
  refine AWP.seq ?_
  refine e0 [1, 2, 3, 6, 9] [3, 6] (by kernel_rfl) ?_
  refine AWP.cond (b := decide (s < 65535)) (by kernel_rfl) (fun hq2 => ?_) (fun hq2 => ?_)
  · simp only [decide_eq_true_eq] at hq2
    refine g1 (os := [u16 (IntKind.wrap IntKind.u16 (s + 1)) = u16 (s + 1)]) [(2, ⟨some (u16 (s + 1)), none⟩)] [1, 2, 3, 6] [3, 6] (by kernel_rfl) ⟨(wr_u16 (by omega) (by omega)), trivial⟩ ?_
    refine e1 [(3, ⟨none, some ⟨u8 (more cl x), [], []⟩⟩), (7, ⟨none, some ⟨u8 (more se y), [], []⟩⟩), (12, ⟨none, some ⟨u8 (more dk !y), [], []⟩⟩)] [3, 6] [3, 6] (by kernel_rfl) (AllP.c (con_more (cl) (x) (by assumption) (by assumption)) (AllP.c (con_more (se) (y) (by assumption) (by assumption)) (AllP.c (con_more (dk) (!y) (by assumption) (by assumption)) AllP.n))) ?_
    refine e0 [6] [6] (by kernel_rfl) ?_
    refine AWP.ret ?_
    refine ⟨Or.inr rfl, Eq.trans (b := some ([], V.agg true [u8 m, u16 (s + 1), u8 (more cl x), u8 (more se y), u8 (more dk !y)])) (by kernel_rfl) ?_⟩
    (simp [since, *])
  simp only [decide_eq_false_iff_not] at hq2
  refine AWP.skip ?_
  refine e1 [(3, ⟨none, some ⟨u8 (more cl x), [], []⟩⟩), (7, ⟨none, some ⟨u8 (more se y), [], []⟩⟩), (12, ⟨none, some ⟨u8 (more dk !y), [], []⟩⟩)] [3, 6] [3, 6] (by kernel_rfl) (AllP.c (con_more (cl) (x) (by assumption) (by assumption)) (AllP.c (con_more (se) (y) (by assumption) (by assumption)) (AllP.c (con_more (dk) (!y) (by assumption) (by assumption)) AllP.n))) ?_
  refine e0 [6] [6] (by kernel_rfl) ?_
  refine AWP.ret ?_
  refine ⟨Or.inr rfl, Eq.trans (b := some ([], V.agg true [u8 m, u16 s, u8 (more cl x), u8 (more se y), u8 (more dk !y)])) (by kernel_rfl) ?_⟩
  (simp [since, *])
theorem con_right (m s cl se dk : Int) (h : m = 0 ∨ m = 1 ∨ m = 2 ∨ m = 3) : Con Tryd.prog 25 [] [.agg true [u8 m, u16 s, u8 cl, u8 se, u8 dk]] [] (vb true) := by
  refine Con.of (C := ⟨Tryd.prog, tc, Tryd.f25.ntmps⟩) [] tcok Tryd.func25 rfl rfl (by kernel_rfl) (by kernel_rfl) ?_
  refine e0 [1, 2] [1] (by kernel_rfl) ?_
  refine e0 [2] [] (by kernel_rfl) ?_
  refine AWP.ret ?_
  refine ⟨Or.inr rfl, Eq.trans (b := some ([], vb (decide (m ≤ 3)))) (by kernel_rfl) ?_⟩
  (simp; omega)
theorem con_reached (n l : Int) : Con Tryd.prog 45 [] [u8 n, u8 l] [] (vb (reached n l)) := by
  refine Con.of (C := ⟨Tryd.prog, tc, Tryd.f45.ntmps⟩) [] tcok Tryd.func45 rfl rfl (by kernel_rfl) (by kernel_rfl) ?_
  refine e0 [0, 1, 4] [] (by kernel_rfl) ?_
  refine e0 [4] [] (by kernel_rfl) ?_
  refine AWP.ret ?_
  refine ⟨Or.inr rfl, Eq.trans (b := some ([], vb (decide (l > 0) && decide (n ≥ l)))) (by kernel_rfl) ?_⟩
  rfl
theorem con_late (m s cl se dk c1 c2 c3 t0 t1 t2 t3 : Int) (h : m = 0 ∨ m = 1 ∨ m = 2 ∨ m = 3) :
    Con Tryd.prog 46 [] [.agg true [u8 m, u16 s, u8 cl, u8 se, u8 dk], .agg true [u8 c1, u8 c2, u8 c3, u16 t0, u16 t1, u16 t2, u16 t3]] [] (vb (late m s se c2 t1 t2)) := by
  rcases h with rfl | rfl | rfl | rfl
  all_goals
    refine Con.of (C := ⟨Tryd.prog, tc, Tryd.f46.ntmps⟩) [] tcok Tryd.func46 rfl rfl (by kernel_rfl) (by kernel_rfl) ?_
  · refine AWP.seq ?_
    refine g0 [2, 3, 4] [2, 3] (by kernel_rfl) ?_
    refine e0 [2, 3, 4, 5] [2, 3] (by kernel_rfl) ?_
    refine e0 [2, 4, 5, 6] [2] (by kernel_rfl) ?_
    refine e0 [4] [] (by kernel_rfl) ?_
    refine AWP.ret ?_
    refine ⟨Or.inr rfl, Eq.trans (b := some ([], vb false)) (by kernel_rfl) ?_⟩
    (simp [late, Bool.and_assoc])
  · refine AWP.seq ?_
    refine g0 [2, 3, 4] [2, 3] (by kernel_rfl) ?_
    refine e0 [2, 3, 4, 5] [2, 3] (by kernel_rfl) ?_
    refine e0 [2, 4, 5, 6] [2] (by kernel_rfl) ?_
    refine e0 [4] [] (by kernel_rfl) ?_
    refine AWP.ret ?_
    refine ⟨Or.inr rfl, Eq.trans (b := some ([], vb (true && decide (t1 > 0) && decide (s ≥ t1)))) (by kernel_rfl) ?_⟩
    (simp [late, Bool.and_assoc])
  · refine AWP.seq ?_
    refine g0 [2, 3, 4] [2, 3] (by kernel_rfl) ?_
    refine e0 [2, 3, 4, 5] [2, 3] (by kernel_rfl) ?_
    refine e0 [2, 4, 5, 6] [2] (by kernel_rfl) ?_
    refine e0 [4] [] (by kernel_rfl) ?_
    refine AWP.ret ?_
    refine ⟨Or.inr rfl, Eq.trans (b := some ([], vb ((false || true && decide (se < c2)) && decide (t2 > 0) && decide (s ≥ t2)))) (by kernel_rfl) ?_⟩
    (simp [late, Bool.and_assoc])
  · refine AWP.seq ?_
    refine g0 [2, 3, 4] [2, 3] (by kernel_rfl) ?_
    refine e0 [2, 3, 4, 5] [2, 3] (by kernel_rfl) ?_
    refine e0 [2, 4, 5, 6] [2] (by kernel_rfl) ?_
    refine e0 [4] [] (by kernel_rfl) ?_
    refine AWP.ret ?_
    refine ⟨Or.inr rfl, Eq.trans (b := some ([], vb false)) (by kernel_rfl) ?_⟩
    (simp [late, Bool.and_assoc])
theorem con_step (m s cl se dk c1 c2 c3 t0 t1 t2 t3 : Int) (x y z : Bool) (h : m = 0 ∨ m = 1 ∨ m = 2 ∨ m = 3) (h1 : 0 ≤ s) (h2 : s < 65536) (h3 : 0 ≤ cl) (h4 : cl < 256) (h5 : 0 ≤ se) (h6 : se < 256) (h7 : 0 ≤ dk) (h8 : dk < 256) :
    Con Tryd.prog 26 [] [.agg true [u8 m, u16 s, u8 cl, u8 se, u8 dk], .agg true [u8 c1, u8 c2, u8 c3, u16 t0, u16 t1, u16 t2, u16 t3], vb x, vb y, vb z] []
      (.tup [(step ⟨m, s, cl, se, dk⟩ ⟨c1, c2, c3, t0, t1, t2, t3⟩ x y z).1.v, u8 (step ⟨m, s, cl, se, dk⟩ ⟨c1, c2, c3, t0, t1, t2, t3⟩ x y z).2]) := by
  refine Con.of (C := ⟨Tryd.prog, tc, Tryd.f26.ntmps⟩) [] tcok Tryd.func26 rfl rfl (by kernel_rfl) (by kernel_rfl) ?_
  refine e0 [2, 3, 4, 5, 6, 10, 11] [5, 6, 10] (by kernel_rfl) ?_
  refine AWP.seq ?_
  refine e1 (os := [(z && m != (0 : Int)) = false → Con Tryd.prog (25 : Nat) [] [V.agg true [u8 m, u16 s, u8 cl, u8 se, u8 dk]] [] (vb true) ∧ True]) [(8, ⟨none, some ⟨vb true, [], []⟩⟩)] [2, 3, 5, 6, 10, 11, 22] [5, 6, 10] (by kernel_rfl) ⟨(by intro hc0; first | (cases hc0; done) | (try simp only [Bool.or_false, Bool.false_or, Bool.true_and, Bool.and_true, decide_eq_true_eq, decide_eq_false_iff_not, Bool.and_eq_true, Bool.or_eq_true, Bool.or_eq_false_iff, Bool.not_eq_true', Bool.and_eq_false_iff, beq_iff_eq, bne_iff_ne, bne_eq_false_iff_eq, beq_eq_false_iff_ne, Bool.not_eq_false'] at hc0; exact ⟨(con_right (m) (s) (cl) (se) (dk) (by assumption)), trivial⟩)), trivial⟩ ?_
  refine AWP.cond (b := z && m != 0 || false) (by kernel_rfl) (fun hq3 => ?_) (fun hq3 => ?_)
  · simp only [Bool.or_false, Bool.and_eq_true, bne_iff_ne] at hq3
    refine e1 [(1, ⟨none, some ⟨Au.v Au.zero, [], []⟩⟩)] [2, 3, 5, 6, 10, 11] [5, 6, 10] (by kernel_rfl) (AllP.c (con_fall (m) (s) (cl) (se) (dk)) AllP.n) ?_
    refine AWP.ret ?_
    refine ⟨Or.inr rfl, Eq.trans (b := some ([], V.tup [V.agg true [u8 0, u16 0, u8 0, u8 0, u8 0], u8 1])) (by kernel_rfl) ?_⟩
    (rcases h with rfl | rfl | rfl | rfl <;> simp_all [step, rest, count, Au.zero, Au.at])
  simp only [Bool.or_false, Bool.and_eq_false_iff, bne_eq_false_iff_eq] at hq3
  refine AWP.skip ?_
  refine e1 [(3, ⟨none, some ⟨V.agg true [u8 m, u16 (since s), u8 (more cl x), u8 (more se y), u8 (more dk !y)], [], []⟩⟩)] [5, 6, 10, 11] [5, 6, 10] (by kernel_rfl) (AllP.c (con_count (m) (s) (cl) (se) (dk) (x) (y) (by assumption) (by assumption) (by assumption) (by assumption) (by assumption) (by assumption) (by assumption) (by assumption)) AllP.n) ?_
  refine AWP.seq ?_
  refine AWP.block ?_
  refine e1 (os := [(m == (1 : Int)) = true → Con Tryd.prog (45 : Nat) [] [u8 (more cl x), u8 c1] [] (vb (reached (more cl x) c1)) ∧ True]) [(8, ⟨none, some ⟨vb (reached (more cl x) c1), [], []⟩⟩)] [5, 6, 10, 11, 29] [5, 6, 10] (by kernel_rfl) ⟨(fun _ => ⟨(con_reached (more cl x) (c1)), trivial⟩), trivial⟩ ?_
  refine AWP.cond (b := m == 1 && reached (more cl x) c1) (by kernel_rfl) (fun hq4 => ?_) (fun hq4 => ?_)
  · simp only [Bool.and_eq_true, beq_iff_eq] at hq4
    refine e0 [5, 10, 11] [5, 10] (by kernel_rfl) ?_
    refine AWP.ret ?_
    refine ⟨Or.inr rfl, Eq.trans (b := some ([], V.tup [V.agg true [u8 2, u16 0, u8 0, u8 0, u8 0], u8 2])) (by kernel_rfl) ?_⟩
    (rcases h with rfl | rfl | rfl | rfl <;> simp_all [step, rest, count, Au.zero, Au.at])
  simp only [Bool.and_eq_false_iff, beq_eq_false_iff_ne] at hq4
  refine e1 (os := [(m == (3 : Int)) = true → Con Tryd.prog (45 : Nat) [] [u8 (more dk !y), u8 c3] [] (vb (reached (more dk !y) c3)) ∧ True]) [(8, ⟨none, some ⟨vb (reached (more dk !y) c3), [], []⟩⟩)] [5, 6, 10, 11, 41] [5, 6, 10] (by kernel_rfl) ⟨(fun _ => ⟨(con_reached (more dk !y) (c3)), trivial⟩), trivial⟩ ?_
  refine AWP.cond (b := m == 3 && reached (more dk !y) c3) (by kernel_rfl) (fun hq5 => ?_) (fun hq5 => ?_)
  · simp only [Bool.and_eq_true, beq_iff_eq] at hq5
    refine e0 [5, 10, 11] [5, 10] (by kernel_rfl) ?_
    refine AWP.ret ?_
    refine ⟨Or.inr rfl, Eq.trans (b := some ([], V.tup [V.agg true [u8 2, u16 0, u8 0, u8 0, u8 0], u8 4])) (by kernel_rfl) ?_⟩
    (rcases h with rfl | rfl | rfl | rfl <;> simp_all [step, rest, count, Au.zero, Au.at])
  simp only [Bool.and_eq_false_iff, beq_eq_false_iff_ne] at hq5
  refine e1 [(2, ⟨none, some ⟨vb (late m (since s) (more se y) c2 t1 t2), [], []⟩⟩)] [5, 10, 11, 53] [5, 10] (by kernel_rfl) (AllP.c (con_late (m) (since s) (more cl x) (more se y) (more dk !y) (c1) (c2) (c3) (t0) (t1) (t2) (t3) (by assumption)) AllP.n) ?_
  refine AWP.cond (b := late m (since s) (more se y) c2 t1 t2) (by kernel_rfl) (fun hq6 => ?_) (fun hq6 => ?_)
  · refine AWP.seq ?_
    refine g1 [(1, ⟨none, some ⟨Au.v Au.zero, [], []⟩⟩)] [5, 10, 11] [5, 10] (by kernel_rfl) (AllP.c (con_fall (m) (since s) (more cl x) (more se y) (more dk !y)) AllP.n) ?_
    refine AWP.ret ?_
    refine ⟨Or.inr rfl, Eq.trans (b := some ([], V.tup [V.agg true [u8 0, u16 0, u8 0, u8 0, u8 0], u8 3])) (by kernel_rfl) ?_⟩
    (rcases h with rfl | rfl | rfl | rfl <;> simp_all [step, rest, count, Au.zero, Au.at])
  refine AWP.skip ?_
  refine e0 [10, 11] [10] (by kernel_rfl) ?_
  refine AWP.ret ?_
  refine ⟨Or.inr rfl, Eq.trans (b := some ([], V.tup [V.agg true [u8 m, u16 (since s), u8 (more cl x), u8 (more se y), u8 (more dk !y)], u8 0])) (by kernel_rfl) ?_⟩
  (rcases h with rfl | rfl | rfl | rfl <;> simp_all [step, rest, count, Au.zero, Au.at])
theorem con_ask (m s cl se dk c1 c2 c3 t0 t1 t2 t3 q : Int) (h : m = 0 ∨ m = 1 ∨ m = 2 ∨ m = 3) (hq : 0 ≤ q) :
    Con Tryd.prog 28 [] [.agg true [u8 m, u16 s, u8 cl, u8 se, u8 dk], .agg true [u8 c1, u8 c2, u8 c3, u16 t0, u16 t1, u16 t2, u16 t3], u8 q] []
      (.tup [(ask ⟨m, s, cl, se, dk⟩ ⟨c1, c2, c3, t0, t1, t2, t3⟩ q).1.v, i64 (ask ⟨m, s, cl, se, dk⟩ ⟨c1, c2, c3, t0, t1, t2, t3⟩ q).2]) := by
  have hq' : q = 0 ∨ q = 1 ∨ q = 2 ∨ q = 3 ∨ 3 < q := by omega
  refine Con.of (C := ⟨Tryd.prog, tc, Tryd.f28.ntmps⟩) [] tcok Tryd.func28 rfl rfl (by kernel_rfl) (by kernel_rfl) ?_
  refine e0 [2, 3, 4, 6, 7] [3, 4, 6] (by kernel_rfl) ?_
  refine e0 [2, 3, 4, 6, 7, 8] [3, 4, 6] (by kernel_rfl) ?_
  refine AWP.seq ?_
  refine e0 [2, 3, 4, 6, 7, 8, 9] [3, 4, 6] (by kernel_rfl) ?_
  refine AWP.block ?_
  refine e0 [2, 3, 4, 6, 7, 8, 9, 11] [3, 4, 6] (by kernel_rfl) ?_
  refine AWP.cond (b := q == 0) (by kernel_rfl) (fun hq7 => ?_) (fun hq7 => ?_)
  · simp only [beq_iff_eq] at hq7
    refine e1 [(1, ⟨none, some ⟨Au.v Au.zero, [], []⟩⟩)] [2, 3, 6, 7, 8] [3, 6] (by kernel_rfl) (AllP.c (con_fall (m) (s) (cl) (se) (dk)) AllP.n) ?_
    refine AWP.ret ?_
    refine ⟨Or.inr rfl, Eq.trans (b := some ([], V.tup [V.agg true [u8 0, u16 0, u8 0, u8 0, u8 0], i64 0])) (by kernel_rfl) ?_⟩
    (rcases hq' with rfl | rfl | rfl | rfl | hq' <;> rcases h with rfl | rfl | rfl | rfl <;> first | (exfalso; omega) | (simp [ask, Au.zero, Au.at]; done) | (simp [ask, Au.zero, Au.at, *]; done) | (simp [ask, Au.zero, Au.at, show ¬ c2 ≤ se by omega]; done) | (simp [ask, Au.zero, Au.at, show ¬ q = 0 by omega, hq']; done))
  simp only [beq_eq_false_iff_ne] at hq7
  refine e0 [2, 3, 4, 6, 7, 8, 9, 15] [3, 4, 6] (by kernel_rfl) ?_
  refine AWP.cond (b := q == 1) (by kernel_rfl) (fun hq8 => ?_) (fun hq8 => ?_)
  · simp only [beq_iff_eq] at hq8
    refine AWP.region tcok hmix [] (os := []) (sf := St.mk [(2, tp (u8 q)), (3, tp (V.ptr 3 0)), (4, tp (V.ptr 4 0)), (6, tp (V.ptr 6 0)), (7, tp (i64 0)), (8, tp (vb (m == 0))), (9, tp (u8 q)), (15, tp (vb (q == 1))), (17, tp (V.ptr 3 0)), (18, tp (u8 m)), (19, tp (vb (m == 0)))] [(3, Blk.mk [u8 m, u16 s, u8 cl, u8 se, u8 dk] true 5 none), (4, Blk.mk [u8 c1, u8 c2, u8 c3, u16 t0, u16 t1, u16 t2, u16 t3] true 7 none), (6, Blk.mk [u8 0, u16 0, u8 0, u8 0, u8 0] true 5 none)]) (by kernel_rfl) trivial ?_
    refine AWP.keep' [2, 3, 6, 7, 8] [3, 6] (sf := St.mk [(2, tp (u8 q)), (3, tp (V.ptr 3 0)), (6, tp (V.ptr 6 0)), (7, tp (i64 0)), (8, tp (vb (m == 0)))] [(3, Blk.mk [u8 m, u16 s, u8 cl, u8 se, u8 dk] true 5 none), (6, Blk.mk [u8 0, u16 0, u8 0, u8 0, u8 0] true 5 none)]) (by kernel_rfl) ?_
    refine AWP.seq ?_
    refine AWP.block ?_
    refine e1 (os := [u8 q = u8 1]) [(0, ⟨some (u8 1), none⟩)] [2, 3, 6, 7, 8, 42] [3, 6] (by kernel_rfl) ⟨(in_eq hq8), trivial⟩ ?_
    refine AWP.cond (b := 1 == m) (by kernel_rfl) (fun hq9 => ?_) (fun hq9 => ?_)
    · simp only [beq_iff_eq] at hq9
      refine e0 [2, 6, 7] [6] (by kernel_rfl) ?_
      refine AWP.ret ?_
      refine ⟨Or.inr rfl, Eq.trans (b := some ([], V.tup [V.agg true [u8 m, u16 s, u8 cl, u8 se, u8 dk], i64 0])) (by kernel_rfl) ?_⟩
      (rcases hq' with rfl | rfl | rfl | rfl | hq' <;> rcases h with rfl | rfl | rfl | rfl <;> first | (exfalso; omega) | (simp [ask, Au.zero, Au.at]; done) | (simp [ask, Au.zero, Au.at, *]; done) | (simp [ask, Au.zero, Au.at, show ¬ c2 ≤ se by omega]; done) | (simp [ask, Au.zero, Au.at, show ¬ q = 0 by omega, hq']; done))
    simp only [beq_eq_false_iff_ne] at hq9
    refine e0 [2, 3, 6, 7, 48] [3, 6] (by kernel_rfl) ?_
    refine AWP.cond (b := !m == 0) (by kernel_rfl) (fun hq10 => ?_) (fun hq10 => ?_)
    · simp only [Bool.not_eq_true', beq_eq_false_iff_ne] at hq10
      refine e0 [2, 6, 7] [6] (by kernel_rfl) ?_
      refine AWP.ret ?_
      refine ⟨Or.inr rfl, Eq.trans (b := some ([], V.tup [V.agg true [u8 m, u16 s, u8 cl, u8 se, u8 dk], i64 7])) (by kernel_rfl) ?_⟩
      (rcases hq' with rfl | rfl | rfl | rfl | hq' <;> rcases h with rfl | rfl | rfl | rfl <;> first | (exfalso; omega) | (simp [ask, Au.zero, Au.at]; done) | (simp [ask, Au.zero, Au.at, *]; done) | (simp [ask, Au.zero, Au.at, show ¬ c2 ≤ se by omega]; done) | (simp [ask, Au.zero, Au.at, show ¬ q = 0 by omega, hq']; done))
    simp only [beq_iff_eq, Bool.not_eq_false'] at hq10
    refine AWP.skip ?_
    refine e1 (os := [u8 q = u8 1]) [(0, ⟨some (u8 1), none⟩)] [6, 7] [6] (by kernel_rfl) ⟨(in_eq hq8), trivial⟩ ?_
    refine AWP.ret ?_
    refine ⟨Or.inr rfl, Eq.trans (b := some ([], V.tup [V.agg true [u8 1, u16 0, u8 0, u8 0, u8 0], i64 0])) (by kernel_rfl) ?_⟩
    (rcases hq' with rfl | rfl | rfl | rfl | hq' <;> rcases h with rfl | rfl | rfl | rfl <;> first | (exfalso; omega) | (simp [ask, Au.zero, Au.at]; done) | (simp [ask, Au.zero, Au.at, *]; done) | (simp [ask, Au.zero, Au.at, show ¬ c2 ≤ se by omega]; done) | (simp [ask, Au.zero, Au.at, show ¬ q = 0 by omega, hq']; done))
  simp only [beq_eq_false_iff_ne] at hq8
  refine e0 [2, 3, 4, 6, 7, 8, 9, 20] [3, 4, 6] (by kernel_rfl) ?_
  refine AWP.cond (b := q == 2) (by kernel_rfl) (fun hq11 => ?_) (fun hq11 => ?_)
  · simp only [beq_iff_eq] at hq11
    refine AWP.region tcok hmix [] (os := []) (sf := St.mk [(2, tp (u8 q)), (3, tp (V.ptr 3 0)), (4, tp (V.ptr 4 0)), (6, tp (V.ptr 6 0)), (7, tp (i64 0)), (8, tp (vb (m == 1 || m == 3))), (9, tp (u8 q)), (20, tp (vb (q == 2))), (22, tp (V.ptr 3 0)), (23, tp (u8 m)), (24, tp (vb (m == 1))), (25, tp (vb (m == 1))), (26, T.gd 25 false (V.ptr 3 0)), (27, T.gd 25 false (u8 m)), (28, T.gd 25 false (vb (m == 3))), (29, tp (vb (m == 1 || m == 3)))] [(3, Blk.mk [u8 m, u16 s, u8 cl, u8 se, u8 dk] true 5 none), (4, Blk.mk [u8 c1, u8 c2, u8 c3, u16 t0, u16 t1, u16 t2, u16 t3] true 7 none), (6, Blk.mk [u8 0, u16 0, u8 0, u8 0, u8 0] true 5 none)]) (by kernel_rfl) trivial ?_
    refine AWP.keep' [2, 3, 6, 7, 8] [3, 6] (sf := St.mk [(2, tp (u8 q)), (3, tp (V.ptr 3 0)), (6, tp (V.ptr 6 0)), (7, tp (i64 0)), (8, tp (vb (m == 1 || m == 3)))] [(3, Blk.mk [u8 m, u16 s, u8 cl, u8 se, u8 dk] true 5 none), (6, Blk.mk [u8 0, u16 0, u8 0, u8 0, u8 0] true 5 none)]) (by kernel_rfl) ?_
    refine AWP.seq ?_
    refine AWP.block ?_
    refine e1 (os := [u8 q = u8 2]) [(0, ⟨some (u8 2), none⟩)] [2, 3, 6, 7, 8, 42] [3, 6] (by kernel_rfl) ⟨(in_eq hq11), trivial⟩ ?_
    refine AWP.cond (b := 2 == m) (by kernel_rfl) (fun hq12 => ?_) (fun hq12 => ?_)
    · simp only [beq_iff_eq] at hq12
      refine e0 [2, 6, 7] [6] (by kernel_rfl) ?_
      refine AWP.ret ?_
      refine ⟨Or.inr rfl, Eq.trans (b := some ([], V.tup [V.agg true [u8 m, u16 s, u8 cl, u8 se, u8 dk], i64 0])) (by kernel_rfl) ?_⟩
      (rcases hq' with rfl | rfl | rfl | rfl | hq' <;> rcases h with rfl | rfl | rfl | rfl <;> first | (exfalso; omega) | (simp [ask, Au.zero, Au.at]; done) | (simp [ask, Au.zero, Au.at, *]; done) | (simp [ask, Au.zero, Au.at, show ¬ c2 ≤ se by omega]; done) | (simp [ask, Au.zero, Au.at, show ¬ q = 0 by omega, hq']; done))
    simp only [beq_eq_false_iff_ne] at hq12
    refine e0 [2, 3, 6, 7, 48] [3, 6] (by kernel_rfl) ?_
    refine AWP.cond (b := !(m == 1 || m == 3)) (by kernel_rfl) (fun hq13 => ?_) (fun hq13 => ?_)
    · simp only [Bool.or_eq_false_iff, Bool.not_eq_true', beq_eq_false_iff_ne] at hq13
      refine e0 [2, 6, 7] [6] (by kernel_rfl) ?_
      refine AWP.ret ?_
      refine ⟨Or.inr rfl, Eq.trans (b := some ([], V.tup [V.agg true [u8 m, u16 s, u8 cl, u8 se, u8 dk], i64 7])) (by kernel_rfl) ?_⟩
      (rcases hq' with rfl | rfl | rfl | rfl | hq' <;> rcases h with rfl | rfl | rfl | rfl <;> first | (exfalso; omega) | (simp [ask, Au.zero, Au.at]; done) | (simp [ask, Au.zero, Au.at, *]; done) | (simp [ask, Au.zero, Au.at, show ¬ c2 ≤ se by omega]; done) | (simp [ask, Au.zero, Au.at, show ¬ q = 0 by omega, hq']; done))
    simp only [Bool.or_eq_true, beq_iff_eq, Bool.not_eq_false'] at hq13
    refine AWP.skip ?_
    refine e1 (os := [u8 q = u8 2]) [(0, ⟨some (u8 2), none⟩)] [6, 7] [6] (by kernel_rfl) ⟨(in_eq hq11), trivial⟩ ?_
    refine AWP.ret ?_
    refine ⟨Or.inr rfl, Eq.trans (b := some ([], V.tup [V.agg true [u8 2, u16 0, u8 0, u8 0, u8 0], i64 0])) (by kernel_rfl) ?_⟩
    (rcases hq' with rfl | rfl | rfl | rfl | hq' <;> rcases h with rfl | rfl | rfl | rfl <;> first | (exfalso; omega) | (simp [ask, Au.zero, Au.at]; done) | (simp [ask, Au.zero, Au.at, *]; done) | (simp [ask, Au.zero, Au.at, show ¬ c2 ≤ se by omega]; done) | (simp [ask, Au.zero, Au.at, show ¬ q = 0 by omega, hq']; done))
  simp only [beq_eq_false_iff_ne] at hq11
  refine e0 [2, 3, 4, 6, 7, 8, 30] [3, 4, 6] (by kernel_rfl) ?_
  refine AWP.cond (b := q == 3) (by kernel_rfl) (fun hq14 => ?_) (fun hq14 => ?_)
  · simp only [beq_iff_eq] at hq14
    refine AWP.region tcok hmix [] (os := []) (sf := St.mk [(2, tp (u8 q)), (3, tp (V.ptr 3 0)), (4, tp (V.ptr 4 0)), (6, tp (V.ptr 6 0)), (7, tp (i64 0)), (8, tp (vb (m == 2 && decide (se ≥ c2)))), (30, tp (vb (q == 3))), (32, tp (V.ptr 3 0)), (33, tp (u8 m)), (34, tp (vb (m == 2))), (35, tp (vb (m == 2))), (36, T.gd 35 true (V.ptr 3 3)), (37, T.gd 35 true (u8 se)), (38, T.gd 35 true (V.ptr 4 1)), (39, T.gd 35 true (u8 c2)), (40, T.gd 35 true (vb (decide (se ≥ c2)))), (41, tp (vb (m == 2 && decide (se ≥ c2))))] [(3, Blk.mk [u8 m, u16 s, u8 cl, u8 se, u8 dk] true 5 none), (4, Blk.mk [u8 c1, u8 c2, u8 c3, u16 t0, u16 t1, u16 t2, u16 t3] true 7 none), (6, Blk.mk [u8 0, u16 0, u8 0, u8 0, u8 0] true 5 none)]) (by kernel_rfl) trivial ?_
    refine AWP.keep' [2, 3, 6, 7, 8] [3, 6] (sf := St.mk [(2, tp (u8 q)), (3, tp (V.ptr 3 0)), (6, tp (V.ptr 6 0)), (7, tp (i64 0)), (8, tp (vb (m == 2 && decide (se ≥ c2))))] [(3, Blk.mk [u8 m, u16 s, u8 cl, u8 se, u8 dk] true 5 none), (6, Blk.mk [u8 0, u16 0, u8 0, u8 0, u8 0] true 5 none)]) (by kernel_rfl) ?_
    refine AWP.seq ?_
    refine AWP.block ?_
    refine e1 (os := [u8 q = u8 3]) [(0, ⟨some (u8 3), none⟩)] [2, 3, 6, 7, 8, 42] [3, 6] (by kernel_rfl) ⟨(in_eq hq14), trivial⟩ ?_
    refine AWP.cond (b := 3 == m) (by kernel_rfl) (fun hq15 => ?_) (fun hq15 => ?_)
    · simp only [beq_iff_eq] at hq15
      refine e0 [2, 6, 7] [6] (by kernel_rfl) ?_
      refine AWP.ret ?_
      refine ⟨Or.inr rfl, Eq.trans (b := some ([], V.tup [V.agg true [u8 m, u16 s, u8 cl, u8 se, u8 dk], i64 0])) (by kernel_rfl) ?_⟩
      (rcases hq' with rfl | rfl | rfl | rfl | hq' <;> rcases h with rfl | rfl | rfl | rfl <;> first | (exfalso; omega) | (simp [ask, Au.zero, Au.at]; done) | (simp [ask, Au.zero, Au.at, *]; done) | (simp [ask, Au.zero, Au.at, show ¬ c2 ≤ se by omega]; done) | (simp [ask, Au.zero, Au.at, show ¬ q = 0 by omega, hq']; done))
    simp only [beq_eq_false_iff_ne] at hq15
    refine e0 [2, 3, 6, 7, 48] [3, 6] (by kernel_rfl) ?_
    refine AWP.cond (b := !(m == 2 && decide (se ≥ c2))) (by kernel_rfl) (fun hq16 => ?_) (fun hq16 => ?_)
    · simp only [decide_eq_false_iff_not, Bool.not_eq_true', Bool.and_eq_false_iff, beq_eq_false_iff_ne] at hq16
      refine e0 [2, 6, 7] [6] (by kernel_rfl) ?_
      refine AWP.ret ?_
      refine ⟨Or.inr rfl, Eq.trans (b := some ([], V.tup [V.agg true [u8 m, u16 s, u8 cl, u8 se, u8 dk], i64 7])) (by kernel_rfl) ?_⟩
      (rcases hq' with rfl | rfl | rfl | rfl | hq' <;> rcases h with rfl | rfl | rfl | rfl <;> first | (exfalso; omega) | (simp [ask, Au.zero, Au.at]; done) | (simp [ask, Au.zero, Au.at, *]; done) | (simp [ask, Au.zero, Au.at, show ¬ c2 ≤ se by omega]; done) | (simp [ask, Au.zero, Au.at, show ¬ q = 0 by omega, hq']; done))
    simp only [decide_eq_true_eq, Bool.and_eq_true, beq_iff_eq, Bool.not_eq_false'] at hq16
    refine AWP.skip ?_
    refine e1 (os := [u8 q = u8 3]) [(0, ⟨some (u8 3), none⟩)] [6, 7] [6] (by kernel_rfl) ⟨(in_eq hq14), trivial⟩ ?_
    refine AWP.ret ?_
    refine ⟨Or.inr rfl, Eq.trans (b := some ([], V.tup [V.agg true [u8 3, u16 0, u8 0, u8 0, u8 0], i64 0])) (by kernel_rfl) ?_⟩
    (rcases hq' with rfl | rfl | rfl | rfl | hq' <;> rcases h with rfl | rfl | rfl | rfl <;> first | (exfalso; omega) | (simp [ask, Au.zero, Au.at]; done) | (simp [ask, Au.zero, Au.at, *]; done) | (simp [ask, Au.zero, Au.at, show ¬ c2 ≤ se by omega]; done) | (simp [ask, Au.zero, Au.at, show ¬ q = 0 by omega, hq']; done))
  simp only [beq_eq_false_iff_ne] at hq14
  refine e0 [2, 3, 6, 7, 8] [3, 6] (by kernel_rfl) ?_
  refine AWP.ret ?_
  refine ⟨Or.inr rfl, Eq.trans (b := some ([], V.tup [V.agg true [u8 m, u16 s, u8 cl, u8 se, u8 dk], i64 1])) (by kernel_rfl) ?_⟩
  (rcases hq' with rfl | rfl | rfl | rfl | hq' <;> rcases h with rfl | rfl | rfl | rfl <;> first | (exfalso; omega) | (simp [ask, Au.zero, Au.at]; done) | (simp [ask, Au.zero, Au.at, *]; done) | (simp [ask, Au.zero, Au.at, show ¬ c2 ≤ se by omega]; done) | (simp [ask, Au.zero, Au.at, show ¬ q = 0 by omega, hq']; done))
def up (n k : Int) : Int := if n < k then n + 1 else n
theorem up_bd (n k : Int) (h0 : 0 ≤ n) (h : n ≤ k) : 0 ≤ up n k ∧ up n k ≤ k := by unfold up; split <;> omega
theorem since_up (s : Int) : since s = up s 65535 := rfl
theorem more_up (n : Int) (is : Bool) : more n is = if is then up n 255 else 0 := rfl
theorem con_up (n k : Int) (h : 0 ≤ n) (h1 : n ≤ k) (h2 : k < 100000) : Con Tryd.prog 47 [] [i64 n, i64 k] [] (i64 (up n k)) := by
  refine Con.of (C := ⟨Tryd.prog, tc, Tryd.f47.ntmps⟩) [] tcok Tryd.func47 rfl rfl (by kernel_rfl) (by kernel_rfl) ?_
  refine e0 [0, 1, 4] [] (by kernel_rfl) ?_
  refine AWP.seq ?_
  refine e0 [0, 4, 7] [] (by kernel_rfl) ?_
  refine AWP.cond (b := decide (n < k)) (by kernel_rfl) (fun hq17 => ?_) (fun hq17 => ?_)
  · simp only [decide_eq_true_eq] at hq17
    refine e1 (os := [i64 (IntKind.wrap IntKind.i64 (n + 1)) = i64 (n + 1)]) [(1, ⟨some (i64 (n + 1)), none⟩)] [0, 4] [] (by kernel_rfl) ⟨(wr_i64 (by omega) (by omega)), trivial⟩ ?_
    refine AWP.ret ?_
    refine ⟨Or.inr rfl, Eq.trans (b := some ([], i64 (n + 1))) (by kernel_rfl) ?_⟩
    (simp [up, *])
  simp only [decide_eq_false_iff_not] at hq17
  refine AWP.skip ?_
  refine e0 [4] [] (by kernel_rfl) ?_
  refine AWP.ret ?_
  refine ⟨Or.inr rfl, Eq.trans (b := some ([], i64 n)) (by kernel_rfl) ?_⟩
  (simp [up, *])
theorem con_rstep0 (s cl se dk c1 c2 c3 t0 t1 t2 t3 : Int) (x y z : Bool) (h1 : 0 ≤ s) (h2 : s < 65536) (h3 : 0 ≤ cl) (h4 : cl < 256) (h5 : 0 ≤ se) (h6 : se < 256) (h7 : 0 ≤ dk) (h8 : dk < 256) :
    Con Tryd.prog 27 [] [.agg true [u8 0, u16 s, u8 cl, u8 se, u8 dk], .agg true [u8 c1, u8 c2, u8 c3, u16 t0, u16 t1, u16 t2, u16 t3], vb x, vb y, vb z] []
      (.tup [(step ⟨0, s, cl, se, dk⟩ ⟨c1, c2, c3, t0, t1, t2, t3⟩ x y z).1.v, i64 (step ⟨0, s, cl, se, dk⟩ ⟨c1, c2, c3, t0, t1, t2, t3⟩ x y z).2]) := by
  have b1 := up_bd s 65535 h1 (by omega)
  have b2 := up_bd cl 255 h3 (by omega)
  have b3 := up_bd se 255 h5 (by omega)
  have b4 := up_bd dk 255 h7 (by omega)
  refine Con.of (C := ⟨Tryd.prog, tc, Tryd.f27.ntmps⟩) [] tcok Tryd.func27 rfl rfl (by kernel_rfl) (by kernel_rfl) ?_
  refine e0 [2, 3, 4, 5, 6, 10, 11] [5, 6, 10] (by kernel_rfl) ?_
  refine AWP.seq ?_
  refine e0 [2, 3, 5, 6, 10, 11, 20] [5, 6, 10] (by kernel_rfl) ?_
  refine AWP.cond (b := z && false) (by kernel_rfl) (fun hq18 => ?_) (fun hq18 => ?_)
  · simp only [Bool.and_eq_true] at hq18
    (simp [bl] at hq18; done)
  simp only [Bool.and_eq_false_iff] at hq18
  refine AWP.skip ?_
  refine e1 (os := [i64 (IntKind.wrap IntKind.i64 s) = i64 s, Con Tryd.prog 47 [] [i64 s, i64 65535] [] (i64 (up s 65535)), u16 (IntKind.wrap IntKind.u16 (up s 65535)) = u16 (up s 65535)]) [(2, ⟨some (i64 s), none⟩), (3, ⟨none, some ⟨i64 (up s 65535), [], []⟩⟩), (4, ⟨some (u16 (up s 65535)), none⟩)] [2, 3, 5, 6, 10, 11] [5, 6, 10] (by kernel_rfl) ⟨(wr_i64 (by omega) (by omega)), (con_up (s) (65535) (by assumption) (by omega) (by omega)), (wr_u16 (by omega) (by omega)), trivial⟩ ?_
  refine e1 (os := [i64 (IntKind.wrap IntKind.i64 cl) = i64 cl, Con Tryd.prog 47 [] [i64 cl, i64 255] [] (i64 (up cl 255)), i64 (IntKind.wrap IntKind.i64 se) = i64 se, Con Tryd.prog 47 [] [i64 se, i64 255] [] (i64 (up se 255)), i64 (IntKind.wrap IntKind.i64 dk) = i64 dk, Con Tryd.prog 47 [] [i64 dk, i64 255] [] (i64 (up dk 255))]) [(2, ⟨some (i64 cl), none⟩), (3, ⟨none, some ⟨i64 (up cl 255), [], []⟩⟩), (6, ⟨some (i64 se), none⟩), (7, ⟨none, some ⟨i64 (up se 255), [], []⟩⟩), (10, ⟨some (i64 dk), none⟩), (11, ⟨none, some ⟨i64 (up dk 255), [], []⟩⟩)] [2, 3, 5, 6, 10, 11, 12, 13, 14] [5, 6, 10] (by kernel_rfl) ⟨(wr_i64 (by omega) (by omega)), (con_up (cl) (255) (by assumption) (by omega) (by omega)), (wr_i64 (by omega) (by omega)), (con_up (se) (255) (by assumption) (by omega) (by omega)), (wr_i64 (by omega) (by omega)), (con_up (dk) (255) (by assumption) (by omega) (by omega)), trivial⟩ ?_
  refine AWP.seq ?_
  refine e0 [3, 5, 6, 10, 11, 12, 13, 14, 41] [5, 6, 10] (by kernel_rfl) ?_
  refine AWP.cond (b := !x) (by kernel_rfl) (fun hq19 => ?_) (fun hq19 => ?_)
  · simp only [Bool.not_eq_true'] at hq19
    refine g0 [3, 5, 6, 10, 11, 12, 13, 14] [5, 6, 10] (by kernel_rfl) ?_
    refine AWP.seq ?_
    refine e0 [5, 6, 10, 11, 12, 13, 14, 42] [5, 6, 10] (by kernel_rfl) ?_
    refine AWP.cond (b := y) (by kernel_rfl) (fun hq20 => ?_) (fun hq20 => ?_)
    · refine g0 [5, 6, 10, 11, 12, 13, 14] [5, 6, 10] (by kernel_rfl) ?_
      refine e1 (os := [u8 (IntKind.wrap IntKind.u8 (up se 255)) = u8 (up se 255)]) [(3, ⟨some (u8 (up se 255)), none⟩)] [5, 6, 10, 11] [5, 6, 10] (by kernel_rfl) ⟨(wr_u8 (by omega) (by omega)), trivial⟩ ?_
      refine AWP.seq ?_
      refine e0 [5, 6, 10, 11, 66] [5, 6, 10] (by kernel_rfl) ?_
      refine AWP.condF (by kernel_rfl) ?_
      refine AWP.skip ?_
      refine AWP.seq ?_
      refine e0 [5, 6, 10, 11, 82] [5, 6, 10] (by kernel_rfl) ?_
      refine AWP.condF (by kernel_rfl) ?_
      refine AWP.skip ?_
      refine AWP.seq ?_
      refine e0 [5, 6, 10, 11, 98] [5, 6, 10] (by kernel_rfl) ?_
      refine AWP.condF (by kernel_rfl) ?_
      refine AWP.skip ?_
      refine e0 [10, 11] [10] (by kernel_rfl) ?_
      refine AWP.ret ?_
      refine ⟨Or.inr rfl, Eq.trans (b := some ([], V.tup [V.agg true [u8 0, u16 (up s 65535), u8 0, u8 (up se 255), u8 0], i64 0])) (by kernel_rfl) ?_⟩
      (clear b1 b2 b3 b4 h1 h2 h3 h4 h5 h6 h7 h8; cases x <;> cases y <;> cases z <;> first | contradiction | (exfalso; simp at *; done) | (simp (disch := omega) [step, rest, count, Au.zero, Au.at, since_up, more_up, late, reached, if_pos, if_neg]; done))
    refine g0 [5, 6, 10, 11, 12, 13, 14] [5, 6, 10] (by kernel_rfl) ?_
    refine e1 (os := [u8 (IntKind.wrap IntKind.u8 (up dk 255)) = u8 (up dk 255)]) [(5, ⟨some (u8 (up dk 255)), none⟩)] [5, 6, 10, 11] [5, 6, 10] (by kernel_rfl) ⟨(wr_u8 (by omega) (by omega)), trivial⟩ ?_
    refine AWP.seq ?_
    refine e0 [5, 6, 10, 11, 66] [5, 6, 10] (by kernel_rfl) ?_
    refine AWP.condF (by kernel_rfl) ?_
    refine AWP.skip ?_
    refine AWP.seq ?_
    refine e0 [5, 6, 10, 11, 82] [5, 6, 10] (by kernel_rfl) ?_
    refine AWP.condF (by kernel_rfl) ?_
    refine AWP.skip ?_
    refine AWP.seq ?_
    refine e0 [5, 6, 10, 11, 98] [5, 6, 10] (by kernel_rfl) ?_
    refine AWP.condF (by kernel_rfl) ?_
    refine AWP.skip ?_
    refine e0 [10, 11] [10] (by kernel_rfl) ?_
    refine AWP.ret ?_
    refine ⟨Or.inr rfl, Eq.trans (b := some ([], V.tup [V.agg true [u8 0, u16 (up s 65535), u8 0, u8 0, u8 (up dk 255)], i64 0])) (by kernel_rfl) ?_⟩
    (clear b1 b2 b3 b4 h1 h2 h3 h4 h5 h6 h7 h8; cases x <;> cases y <;> cases z <;> first | contradiction | (exfalso; simp at *; done) | (simp (disch := omega) [step, rest, count, Au.zero, Au.at, since_up, more_up, late, reached, if_pos, if_neg]; done))
  simp only [Bool.not_eq_false'] at hq19
  refine AWP.skip ?_
  refine AWP.seq ?_
  refine e0 [5, 6, 10, 11, 12, 13, 14, 42] [5, 6, 10] (by kernel_rfl) ?_
  refine AWP.cond (b := y) (by kernel_rfl) (fun hq27 => ?_) (fun hq27 => ?_)
  · refine g0 [5, 6, 10, 11, 12, 13, 14] [5, 6, 10] (by kernel_rfl) ?_
    refine e1 (os := [u8 (IntKind.wrap IntKind.u8 (up cl 255)) = u8 (up cl 255), u8 (IntKind.wrap IntKind.u8 (up se 255)) = u8 (up se 255)]) [(1, ⟨some (u8 (up cl 255)), none⟩), (3, ⟨some (u8 (up se 255)), none⟩)] [5, 6, 10, 11] [5, 6, 10] (by kernel_rfl) ⟨(wr_u8 (by omega) (by omega)), (wr_u8 (by omega) (by omega)), trivial⟩ ?_
    refine AWP.seq ?_
    refine e0 [5, 6, 10, 11, 66] [5, 6, 10] (by kernel_rfl) ?_
    refine AWP.condF (by kernel_rfl) ?_
    refine AWP.skip ?_
    refine AWP.seq ?_
    refine e0 [5, 6, 10, 11, 82] [5, 6, 10] (by kernel_rfl) ?_
    refine AWP.condF (by kernel_rfl) ?_
    refine AWP.skip ?_
    refine AWP.seq ?_
    refine e0 [5, 6, 10, 11, 98] [5, 6, 10] (by kernel_rfl) ?_
    refine AWP.condF (by kernel_rfl) ?_
    refine AWP.skip ?_
    refine e0 [10, 11] [10] (by kernel_rfl) ?_
    refine AWP.ret ?_
    refine ⟨Or.inr rfl, Eq.trans (b := some ([], V.tup [V.agg true [u8 0, u16 (up s 65535), u8 (up cl 255), u8 (up se 255), u8 0], i64 0])) (by kernel_rfl) ?_⟩
    (clear b1 b2 b3 b4 h1 h2 h3 h4 h5 h6 h7 h8; cases x <;> cases y <;> cases z <;> first | contradiction | (exfalso; simp at *; done) | (simp (disch := omega) [step, rest, count, Au.zero, Au.at, since_up, more_up, late, reached, if_pos, if_neg]; done))
  refine g0 [5, 6, 10, 11, 12, 13, 14] [5, 6, 10] (by kernel_rfl) ?_
  refine e1 (os := [u8 (IntKind.wrap IntKind.u8 (up cl 255)) = u8 (up cl 255), u8 (IntKind.wrap IntKind.u8 (up dk 255)) = u8 (up dk 255)]) [(1, ⟨some (u8 (up cl 255)), none⟩), (5, ⟨some (u8 (up dk 255)), none⟩)] [5, 6, 10, 11] [5, 6, 10] (by kernel_rfl) ⟨(wr_u8 (by omega) (by omega)), (wr_u8 (by omega) (by omega)), trivial⟩ ?_
  refine AWP.seq ?_
  refine e0 [5, 6, 10, 11, 66] [5, 6, 10] (by kernel_rfl) ?_
  refine AWP.condF (by kernel_rfl) ?_
  refine AWP.skip ?_
  refine AWP.seq ?_
  refine e0 [5, 6, 10, 11, 82] [5, 6, 10] (by kernel_rfl) ?_
  refine AWP.condF (by kernel_rfl) ?_
  refine AWP.skip ?_
  refine AWP.seq ?_
  refine e0 [5, 6, 10, 11, 98] [5, 6, 10] (by kernel_rfl) ?_
  refine AWP.condF (by kernel_rfl) ?_
  refine AWP.skip ?_
  refine e0 [10, 11] [10] (by kernel_rfl) ?_
  refine AWP.ret ?_
  refine ⟨Or.inr rfl, Eq.trans (b := some ([], V.tup [V.agg true [u8 0, u16 (up s 65535), u8 (up cl 255), u8 0, u8 (up dk 255)], i64 0])) (by kernel_rfl) ?_⟩
  (clear b1 b2 b3 b4 h1 h2 h3 h4 h5 h6 h7 h8; cases x <;> cases y <;> cases z <;> first | contradiction | (exfalso; simp at *; done) | (simp (disch := omega) [step, rest, count, Au.zero, Au.at, since_up, more_up, late, reached, if_pos, if_neg]; done))
theorem con_rstep1 (s cl se dk c1 c2 c3 t0 t1 t2 t3 : Int) (x y z : Bool) (h1 : 0 ≤ s) (h2 : s < 65536) (h3 : 0 ≤ cl) (h4 : cl < 256) (h5 : 0 ≤ se) (h6 : se < 256) (h7 : 0 ≤ dk) (h8 : dk < 256) :
    Con Tryd.prog 27 [] [.agg true [u8 1, u16 s, u8 cl, u8 se, u8 dk], .agg true [u8 c1, u8 c2, u8 c3, u16 t0, u16 t1, u16 t2, u16 t3], vb x, vb y, vb z] []
      (.tup [(step ⟨1, s, cl, se, dk⟩ ⟨c1, c2, c3, t0, t1, t2, t3⟩ x y z).1.v, i64 (step ⟨1, s, cl, se, dk⟩ ⟨c1, c2, c3, t0, t1, t2, t3⟩ x y z).2]) := by
  have b1 := up_bd s 65535 h1 (by omega)
  have b2 := up_bd cl 255 h3 (by omega)
  have b3 := up_bd se 255 h5 (by omega)
  have b4 := up_bd dk 255 h7 (by omega)
  refine Con.of (C := ⟨Tryd.prog, tc, Tryd.f27.ntmps⟩) [] tcok Tryd.func27 rfl rfl (by kernel_rfl) (by kernel_rfl) ?_
  refine e0 [2, 3, 4, 5, 6, 10, 11] [5, 6, 10] (by kernel_rfl) ?_
  refine AWP.seq ?_
  refine e0 [2, 3, 5, 6, 10, 11, 20] [5, 6, 10] (by kernel_rfl) ?_
  refine AWP.cond (b := z && true) (by kernel_rfl) (fun hq34 => ?_) (fun hq34 => ?_)
  · simp only [Bool.and_true] at hq34
    refine e0 [2, 3, 5, 6, 10, 11] [5, 6, 10] (by kernel_rfl) ?_
    refine AWP.ret ?_
    refine ⟨Or.inr rfl, Eq.trans (b := some ([], V.tup [V.agg true [u8 0, u16 0, u8 0, u8 0, u8 0], i64 1])) (by kernel_rfl) ?_⟩
    (clear b1 b2 b3 b4 h1 h2 h3 h4 h5 h6 h7 h8; cases x <;> cases y <;> cases z <;> first | contradiction | (exfalso; simp at *; done) | (simp (disch := omega) [step, rest, count, Au.zero, Au.at, since_up, more_up, late, reached, if_pos, if_neg]; done))
  simp only [Bool.and_true] at hq34
  refine AWP.skip ?_
  refine e1 (os := [i64 (IntKind.wrap IntKind.i64 s) = i64 s, Con Tryd.prog 47 [] [i64 s, i64 65535] [] (i64 (up s 65535)), u16 (IntKind.wrap IntKind.u16 (up s 65535)) = u16 (up s 65535)]) [(2, ⟨some (i64 s), none⟩), (3, ⟨none, some ⟨i64 (up s 65535), [], []⟩⟩), (4, ⟨some (u16 (up s 65535)), none⟩)] [2, 3, 5, 6, 10, 11] [5, 6, 10] (by kernel_rfl) ⟨(wr_i64 (by omega) (by omega)), (con_up (s) (65535) (by assumption) (by omega) (by omega)), (wr_u16 (by omega) (by omega)), trivial⟩ ?_
  refine e1 (os := [i64 (IntKind.wrap IntKind.i64 cl) = i64 cl, Con Tryd.prog 47 [] [i64 cl, i64 255] [] (i64 (up cl 255)), i64 (IntKind.wrap IntKind.i64 se) = i64 se, Con Tryd.prog 47 [] [i64 se, i64 255] [] (i64 (up se 255)), i64 (IntKind.wrap IntKind.i64 dk) = i64 dk, Con Tryd.prog 47 [] [i64 dk, i64 255] [] (i64 (up dk 255))]) [(2, ⟨some (i64 cl), none⟩), (3, ⟨none, some ⟨i64 (up cl 255), [], []⟩⟩), (6, ⟨some (i64 se), none⟩), (7, ⟨none, some ⟨i64 (up se 255), [], []⟩⟩), (10, ⟨some (i64 dk), none⟩), (11, ⟨none, some ⟨i64 (up dk 255), [], []⟩⟩)] [2, 3, 5, 6, 10, 11, 12, 13, 14] [5, 6, 10] (by kernel_rfl) ⟨(wr_i64 (by omega) (by omega)), (con_up (cl) (255) (by assumption) (by omega) (by omega)), (wr_i64 (by omega) (by omega)), (con_up (se) (255) (by assumption) (by omega) (by omega)), (wr_i64 (by omega) (by omega)), (con_up (dk) (255) (by assumption) (by omega) (by omega)), trivial⟩ ?_
  refine AWP.seq ?_
  refine e0 [3, 5, 6, 10, 11, 12, 13, 14, 41] [5, 6, 10] (by kernel_rfl) ?_
  refine AWP.cond (b := !x) (by kernel_rfl) (fun hq35 => ?_) (fun hq35 => ?_)
  · simp only [Bool.not_eq_true'] at hq35
    refine g0 [3, 5, 6, 10, 11, 12, 13, 14] [5, 6, 10] (by kernel_rfl) ?_
    refine AWP.seq ?_
    refine e0 [5, 6, 10, 11, 12, 13, 14, 42] [5, 6, 10] (by kernel_rfl) ?_
    refine AWP.cond (b := y) (by kernel_rfl) (fun hq36 => ?_) (fun hq36 => ?_)
    · refine g0 [5, 6, 10, 11, 12, 13, 14] [5, 6, 10] (by kernel_rfl) ?_
      refine e1 (os := [u8 (IntKind.wrap IntKind.u8 (up se 255)) = u8 (up se 255)]) [(3, ⟨some (u8 (up se 255)), none⟩)] [5, 6, 10, 11] [5, 6, 10] (by kernel_rfl) ⟨(wr_u8 (by omega) (by omega)), trivial⟩ ?_
      refine AWP.seq ?_
      refine e0 [5, 6, 10, 11, 66] [5, 6, 10] (by kernel_rfl) ?_
      refine AWP.cond (b := true && decide (c1 > 0) && decide (0 ≥ c1)) (by kernel_rfl) (fun hq37 => ?_) (fun hq37 => ?_)
      · simp only [Bool.true_and, decide_eq_true_eq, Bool.and_eq_true] at hq37
        (exfalso; omega)
      simp only [Bool.true_and, decide_eq_false_iff_not, Bool.and_eq_false_iff] at hq37
      refine AWP.skip ?_
      refine AWP.seq ?_
      refine e0 [5, 6, 10, 11, 82] [5, 6, 10] (by kernel_rfl) ?_
      refine AWP.condF (by kernel_rfl) ?_
      refine AWP.skip ?_
      refine AWP.seq ?_
      refine e0 [5, 6, 10, 11, 98] [5, 6, 10] (by kernel_rfl) ?_
      refine AWP.condT (by kernel_rfl) ?_
      refine e0 [5, 10, 11, 114] [5, 10] (by kernel_rfl) ?_
      refine AWP.cond (b := decide (t1 > 0) && decide (up s 65535 ≥ t1)) (by kernel_rfl) (fun hq40 => ?_) (fun hq40 => ?_)
      · simp only [decide_eq_true_eq, Bool.and_eq_true] at hq40
        refine e0 [5, 10, 11] [5, 10] (by kernel_rfl) ?_
        refine AWP.ret ?_
        refine ⟨Or.inr rfl, Eq.trans (b := some ([], V.tup [V.agg true [u8 0, u16 0, u8 0, u8 0, u8 0], i64 3])) (by kernel_rfl) ?_⟩
        (clear b1 b2 b3 b4 h1 h2 h3 h4 h5 h6 h7 h8; cases x <;> cases y <;> cases z <;> first | contradiction | (exfalso; simp at *; done) | (simp (disch := omega) [step, rest, count, Au.zero, Au.at, since_up, more_up, late, reached, if_pos, if_neg]; done))
      simp only [decide_eq_false_iff_not, Bool.and_eq_false_iff] at hq40
      refine AWP.skip ?_
      refine e0 [10, 11] [10] (by kernel_rfl) ?_
      refine AWP.ret ?_
      refine ⟨Or.inr rfl, Eq.trans (b := some ([], V.tup [V.agg true [u8 1, u16 (up s 65535), u8 0, u8 (up se 255), u8 0], i64 0])) (by kernel_rfl) ?_⟩
      (clear b1 b2 b3 b4 h1 h2 h3 h4 h5 h6 h7 h8; cases x <;> cases y <;> cases z <;> first | contradiction | (exfalso; simp at *; done) | (simp (disch := omega) [step, rest, count, Au.zero, Au.at, since_up, more_up, late, reached, if_pos, if_neg]; done))
    refine g0 [5, 6, 10, 11, 12, 13, 14] [5, 6, 10] (by kernel_rfl) ?_
    refine e1 (os := [u8 (IntKind.wrap IntKind.u8 (up dk 255)) = u8 (up dk 255)]) [(5, ⟨some (u8 (up dk 255)), none⟩)] [5, 6, 10, 11] [5, 6, 10] (by kernel_rfl) ⟨(wr_u8 (by omega) (by omega)), trivial⟩ ?_
    refine AWP.seq ?_
    refine e0 [5, 6, 10, 11, 66] [5, 6, 10] (by kernel_rfl) ?_
    refine AWP.cond (b := true && decide (c1 > 0) && decide (0 ≥ c1)) (by kernel_rfl) (fun hq41 => ?_) (fun hq41 => ?_)
    · simp only [Bool.true_and, decide_eq_true_eq, Bool.and_eq_true] at hq41
      (exfalso; omega)
    simp only [Bool.true_and, decide_eq_false_iff_not, Bool.and_eq_false_iff] at hq41
    refine AWP.skip ?_
    refine AWP.seq ?_
    refine e0 [5, 6, 10, 11, 82] [5, 6, 10] (by kernel_rfl) ?_
    refine AWP.condF (by kernel_rfl) ?_
    refine AWP.skip ?_
    refine AWP.seq ?_
    refine e0 [5, 6, 10, 11, 98] [5, 6, 10] (by kernel_rfl) ?_
    refine AWP.condT (by kernel_rfl) ?_
    refine e0 [5, 10, 11, 114] [5, 10] (by kernel_rfl) ?_
    refine AWP.cond (b := decide (t1 > 0) && decide (up s 65535 ≥ t1)) (by kernel_rfl) (fun hq44 => ?_) (fun hq44 => ?_)
    · simp only [decide_eq_true_eq, Bool.and_eq_true] at hq44
      refine e0 [5, 10, 11] [5, 10] (by kernel_rfl) ?_
      refine AWP.ret ?_
      refine ⟨Or.inr rfl, Eq.trans (b := some ([], V.tup [V.agg true [u8 0, u16 0, u8 0, u8 0, u8 0], i64 3])) (by kernel_rfl) ?_⟩
      (clear b1 b2 b3 b4 h1 h2 h3 h4 h5 h6 h7 h8; cases x <;> cases y <;> cases z <;> first | contradiction | (exfalso; simp at *; done) | (simp (disch := omega) [step, rest, count, Au.zero, Au.at, since_up, more_up, late, reached, if_pos, if_neg]; done))
    simp only [decide_eq_false_iff_not, Bool.and_eq_false_iff] at hq44
    refine AWP.skip ?_
    refine e0 [10, 11] [10] (by kernel_rfl) ?_
    refine AWP.ret ?_
    refine ⟨Or.inr rfl, Eq.trans (b := some ([], V.tup [V.agg true [u8 1, u16 (up s 65535), u8 0, u8 0, u8 (up dk 255)], i64 0])) (by kernel_rfl) ?_⟩
    (clear b1 b2 b3 b4 h1 h2 h3 h4 h5 h6 h7 h8; cases x <;> cases y <;> cases z <;> first | contradiction | (exfalso; simp at *; done) | (simp (disch := omega) [step, rest, count, Au.zero, Au.at, since_up, more_up, late, reached, if_pos, if_neg]; done))
  simp only [Bool.not_eq_false'] at hq35
  refine AWP.skip ?_
  refine AWP.seq ?_
  refine e0 [5, 6, 10, 11, 12, 13, 14, 42] [5, 6, 10] (by kernel_rfl) ?_
  refine AWP.cond (b := y) (by kernel_rfl) (fun hq45 => ?_) (fun hq45 => ?_)
  · refine g0 [5, 6, 10, 11, 12, 13, 14] [5, 6, 10] (by kernel_rfl) ?_
    refine e1 (os := [u8 (IntKind.wrap IntKind.u8 (up cl 255)) = u8 (up cl 255), u8 (IntKind.wrap IntKind.u8 (up se 255)) = u8 (up se 255)]) [(1, ⟨some (u8 (up cl 255)), none⟩), (3, ⟨some (u8 (up se 255)), none⟩)] [5, 6, 10, 11] [5, 6, 10] (by kernel_rfl) ⟨(wr_u8 (by omega) (by omega)), (wr_u8 (by omega) (by omega)), trivial⟩ ?_
    refine AWP.seq ?_
    refine e0 [5, 6, 10, 11, 66] [5, 6, 10] (by kernel_rfl) ?_
    refine AWP.cond (b := true && decide (c1 > 0) && decide (up cl 255 ≥ c1)) (by kernel_rfl) (fun hq46 => ?_) (fun hq46 => ?_)
    · simp only [Bool.true_and, decide_eq_true_eq, Bool.and_eq_true] at hq46
      refine e0 [5, 6, 10, 11] [5, 6, 10] (by kernel_rfl) ?_
      refine AWP.ret ?_
      refine ⟨Or.inr rfl, Eq.trans (b := some ([], V.tup [V.agg true [u8 2, u16 0, u8 0, u8 0, u8 0], i64 2])) (by kernel_rfl) ?_⟩
      (clear b1 b2 b3 b4 h1 h2 h3 h4 h5 h6 h7 h8; cases x <;> cases y <;> cases z <;> first | contradiction | (exfalso; simp at *; done) | (simp (disch := omega) [step, rest, count, Au.zero, Au.at, since_up, more_up, late, reached, if_pos, if_neg]; done))
    simp only [Bool.true_and, decide_eq_false_iff_not, Bool.and_eq_false_iff] at hq46
    refine AWP.skip ?_
    refine AWP.seq ?_
    refine e0 [5, 6, 10, 11, 82] [5, 6, 10] (by kernel_rfl) ?_
    refine AWP.condF (by kernel_rfl) ?_
    refine AWP.skip ?_
    refine AWP.seq ?_
    refine e0 [5, 6, 10, 11, 98] [5, 6, 10] (by kernel_rfl) ?_
    refine AWP.condT (by kernel_rfl) ?_
    refine e0 [5, 10, 11, 114] [5, 10] (by kernel_rfl) ?_
    refine AWP.cond (b := decide (t1 > 0) && decide (up s 65535 ≥ t1)) (by kernel_rfl) (fun hq49 => ?_) (fun hq49 => ?_)
    · simp only [decide_eq_true_eq, Bool.and_eq_true] at hq49
      refine e0 [5, 10, 11] [5, 10] (by kernel_rfl) ?_
      refine AWP.ret ?_
      refine ⟨Or.inr rfl, Eq.trans (b := some ([], V.tup [V.agg true [u8 0, u16 0, u8 0, u8 0, u8 0], i64 3])) (by kernel_rfl) ?_⟩
      (clear b1 b2 b3 b4 h1 h2 h3 h4 h5 h6 h7 h8; cases x <;> cases y <;> cases z <;> first | contradiction | (exfalso; simp at *; done) | (simp (disch := omega) [step, rest, count, Au.zero, Au.at, since_up, more_up, late, reached, if_pos, if_neg]; done))
    simp only [decide_eq_false_iff_not, Bool.and_eq_false_iff] at hq49
    refine AWP.skip ?_
    refine e0 [10, 11] [10] (by kernel_rfl) ?_
    refine AWP.ret ?_
    refine ⟨Or.inr rfl, Eq.trans (b := some ([], V.tup [V.agg true [u8 1, u16 (up s 65535), u8 (up cl 255), u8 (up se 255), u8 0], i64 0])) (by kernel_rfl) ?_⟩
    (clear b1 b2 b3 b4 h1 h2 h3 h4 h5 h6 h7 h8; cases x <;> cases y <;> cases z <;> first | contradiction | (exfalso; simp at *; done) | (simp (disch := omega) [step, rest, count, Au.zero, Au.at, since_up, more_up, late, reached, if_pos, if_neg]; done))
  refine g0 [5, 6, 10, 11, 12, 13, 14] [5, 6, 10] (by kernel_rfl) ?_
  refine e1 (os := [u8 (IntKind.wrap IntKind.u8 (up cl 255)) = u8 (up cl 255), u8 (IntKind.wrap IntKind.u8 (up dk 255)) = u8 (up dk 255)]) [(1, ⟨some (u8 (up cl 255)), none⟩), (5, ⟨some (u8 (up dk 255)), none⟩)] [5, 6, 10, 11] [5, 6, 10] (by kernel_rfl) ⟨(wr_u8 (by omega) (by omega)), (wr_u8 (by omega) (by omega)), trivial⟩ ?_
  refine AWP.seq ?_
  refine e0 [5, 6, 10, 11, 66] [5, 6, 10] (by kernel_rfl) ?_
  refine AWP.cond (b := true && decide (c1 > 0) && decide (up cl 255 ≥ c1)) (by kernel_rfl) (fun hq50 => ?_) (fun hq50 => ?_)
  · simp only [Bool.true_and, decide_eq_true_eq, Bool.and_eq_true] at hq50
    refine e0 [5, 6, 10, 11] [5, 6, 10] (by kernel_rfl) ?_
    refine AWP.ret ?_
    refine ⟨Or.inr rfl, Eq.trans (b := some ([], V.tup [V.agg true [u8 2, u16 0, u8 0, u8 0, u8 0], i64 2])) (by kernel_rfl) ?_⟩
    (clear b1 b2 b3 b4 h1 h2 h3 h4 h5 h6 h7 h8; cases x <;> cases y <;> cases z <;> first | contradiction | (exfalso; simp at *; done) | (simp (disch := omega) [step, rest, count, Au.zero, Au.at, since_up, more_up, late, reached, if_pos, if_neg]; done))
  simp only [Bool.true_and, decide_eq_false_iff_not, Bool.and_eq_false_iff] at hq50
  refine AWP.skip ?_
  refine AWP.seq ?_
  refine e0 [5, 6, 10, 11, 82] [5, 6, 10] (by kernel_rfl) ?_
  refine AWP.condF (by kernel_rfl) ?_
  refine AWP.skip ?_
  refine AWP.seq ?_
  refine e0 [5, 6, 10, 11, 98] [5, 6, 10] (by kernel_rfl) ?_
  refine AWP.condT (by kernel_rfl) ?_
  refine e0 [5, 10, 11, 114] [5, 10] (by kernel_rfl) ?_
  refine AWP.cond (b := decide (t1 > 0) && decide (up s 65535 ≥ t1)) (by kernel_rfl) (fun hq53 => ?_) (fun hq53 => ?_)
  · simp only [decide_eq_true_eq, Bool.and_eq_true] at hq53
    refine e0 [5, 10, 11] [5, 10] (by kernel_rfl) ?_
    refine AWP.ret ?_
    refine ⟨Or.inr rfl, Eq.trans (b := some ([], V.tup [V.agg true [u8 0, u16 0, u8 0, u8 0, u8 0], i64 3])) (by kernel_rfl) ?_⟩
    (clear b1 b2 b3 b4 h1 h2 h3 h4 h5 h6 h7 h8; cases x <;> cases y <;> cases z <;> first | contradiction | (exfalso; simp at *; done) | (simp (disch := omega) [step, rest, count, Au.zero, Au.at, since_up, more_up, late, reached, if_pos, if_neg]; done))
  simp only [decide_eq_false_iff_not, Bool.and_eq_false_iff] at hq53
  refine AWP.skip ?_
  refine e0 [10, 11] [10] (by kernel_rfl) ?_
  refine AWP.ret ?_
  refine ⟨Or.inr rfl, Eq.trans (b := some ([], V.tup [V.agg true [u8 1, u16 (up s 65535), u8 (up cl 255), u8 0, u8 (up dk 255)], i64 0])) (by kernel_rfl) ?_⟩
  (clear b1 b2 b3 b4 h1 h2 h3 h4 h5 h6 h7 h8; cases x <;> cases y <;> cases z <;> first | contradiction | (exfalso; simp at *; done) | (simp (disch := omega) [step, rest, count, Au.zero, Au.at, since_up, more_up, late, reached, if_pos, if_neg]; done))
theorem con_rstep2 (s cl se dk c1 c2 c3 t0 t1 t2 t3 : Int) (x y z : Bool) (h1 : 0 ≤ s) (h2 : s < 65536) (h3 : 0 ≤ cl) (h4 : cl < 256) (h5 : 0 ≤ se) (h6 : se < 256) (h7 : 0 ≤ dk) (h8 : dk < 256) :
    Con Tryd.prog 27 [] [.agg true [u8 2, u16 s, u8 cl, u8 se, u8 dk], .agg true [u8 c1, u8 c2, u8 c3, u16 t0, u16 t1, u16 t2, u16 t3], vb x, vb y, vb z] []
      (.tup [(step ⟨2, s, cl, se, dk⟩ ⟨c1, c2, c3, t0, t1, t2, t3⟩ x y z).1.v, i64 (step ⟨2, s, cl, se, dk⟩ ⟨c1, c2, c3, t0, t1, t2, t3⟩ x y z).2]) := by
  have b1 := up_bd s 65535 h1 (by omega)
  have b2 := up_bd cl 255 h3 (by omega)
  have b3 := up_bd se 255 h5 (by omega)
  have b4 := up_bd dk 255 h7 (by omega)
  refine Con.of (C := ⟨Tryd.prog, tc, Tryd.f27.ntmps⟩) [] tcok Tryd.func27 rfl rfl (by kernel_rfl) (by kernel_rfl) ?_
  refine e0 [2, 3, 4, 5, 6, 10, 11] [5, 6, 10] (by kernel_rfl) ?_
  refine AWP.seq ?_
  refine e0 [2, 3, 5, 6, 10, 11, 20] [5, 6, 10] (by kernel_rfl) ?_
  refine AWP.cond (b := z && true) (by kernel_rfl) (fun hq54 => ?_) (fun hq54 => ?_)
  · simp only [Bool.and_true] at hq54
    refine e0 [2, 3, 5, 6, 10, 11] [5, 6, 10] (by kernel_rfl) ?_
    refine AWP.ret ?_
    refine ⟨Or.inr rfl, Eq.trans (b := some ([], V.tup [V.agg true [u8 0, u16 0, u8 0, u8 0, u8 0], i64 1])) (by kernel_rfl) ?_⟩
    (clear b1 b2 b3 b4 h1 h2 h3 h4 h5 h6 h7 h8; cases x <;> cases y <;> cases z <;> first | contradiction | (exfalso; simp at *; done) | (simp (disch := omega) [step, rest, count, Au.zero, Au.at, since_up, more_up, late, reached, if_pos, if_neg]; done))
  simp only [Bool.and_true] at hq54
  refine AWP.skip ?_
  refine e1 (os := [i64 (IntKind.wrap IntKind.i64 s) = i64 s, Con Tryd.prog 47 [] [i64 s, i64 65535] [] (i64 (up s 65535)), u16 (IntKind.wrap IntKind.u16 (up s 65535)) = u16 (up s 65535)]) [(2, ⟨some (i64 s), none⟩), (3, ⟨none, some ⟨i64 (up s 65535), [], []⟩⟩), (4, ⟨some (u16 (up s 65535)), none⟩)] [2, 3, 5, 6, 10, 11] [5, 6, 10] (by kernel_rfl) ⟨(wr_i64 (by omega) (by omega)), (con_up (s) (65535) (by assumption) (by omega) (by omega)), (wr_u16 (by omega) (by omega)), trivial⟩ ?_
  refine e1 (os := [i64 (IntKind.wrap IntKind.i64 cl) = i64 cl, Con Tryd.prog 47 [] [i64 cl, i64 255] [] (i64 (up cl 255)), i64 (IntKind.wrap IntKind.i64 se) = i64 se, Con Tryd.prog 47 [] [i64 se, i64 255] [] (i64 (up se 255)), i64 (IntKind.wrap IntKind.i64 dk) = i64 dk, Con Tryd.prog 47 [] [i64 dk, i64 255] [] (i64 (up dk 255))]) [(2, ⟨some (i64 cl), none⟩), (3, ⟨none, some ⟨i64 (up cl 255), [], []⟩⟩), (6, ⟨some (i64 se), none⟩), (7, ⟨none, some ⟨i64 (up se 255), [], []⟩⟩), (10, ⟨some (i64 dk), none⟩), (11, ⟨none, some ⟨i64 (up dk 255), [], []⟩⟩)] [2, 3, 5, 6, 10, 11, 12, 13, 14] [5, 6, 10] (by kernel_rfl) ⟨(wr_i64 (by omega) (by omega)), (con_up (cl) (255) (by assumption) (by omega) (by omega)), (wr_i64 (by omega) (by omega)), (con_up (se) (255) (by assumption) (by omega) (by omega)), (wr_i64 (by omega) (by omega)), (con_up (dk) (255) (by assumption) (by omega) (by omega)), trivial⟩ ?_
  refine AWP.seq ?_
  refine e0 [3, 5, 6, 10, 11, 12, 13, 14, 41] [5, 6, 10] (by kernel_rfl) ?_
  refine AWP.cond (b := !x) (by kernel_rfl) (fun hq55 => ?_) (fun hq55 => ?_)
  · simp only [Bool.not_eq_true'] at hq55
    refine g0 [3, 5, 6, 10, 11, 12, 13, 14] [5, 6, 10] (by kernel_rfl) ?_
    refine AWP.seq ?_
    refine e0 [5, 6, 10, 11, 12, 13, 14, 42] [5, 6, 10] (by kernel_rfl) ?_
    refine AWP.cond (b := y) (by kernel_rfl) (fun hq56 => ?_) (fun hq56 => ?_)
    · refine g0 [5, 6, 10, 11, 12, 13, 14] [5, 6, 10] (by kernel_rfl) ?_
      refine e1 (os := [u8 (IntKind.wrap IntKind.u8 (up se 255)) = u8 (up se 255)]) [(3, ⟨some (u8 (up se 255)), none⟩)] [5, 6, 10, 11] [5, 6, 10] (by kernel_rfl) ⟨(wr_u8 (by omega) (by omega)), trivial⟩ ?_
      refine AWP.seq ?_
      refine e0 [5, 6, 10, 11, 66] [5, 6, 10] (by kernel_rfl) ?_
      refine AWP.condF (by kernel_rfl) ?_
      refine AWP.skip ?_
      refine AWP.seq ?_
      refine e0 [5, 6, 10, 11, 82] [5, 6, 10] (by kernel_rfl) ?_
      refine AWP.condF (by kernel_rfl) ?_
      refine AWP.skip ?_
      refine AWP.seq ?_
      refine e0 [5, 6, 10, 11, 98] [5, 6, 10] (by kernel_rfl) ?_
      refine AWP.cond (b := false || true && decide (up se 255 < c2)) (by kernel_rfl) (fun hq59 => ?_) (fun hq59 => ?_)
      · simp only [Bool.false_or, Bool.true_and, decide_eq_true_eq] at hq59
        refine e0 [5, 10, 11, 114] [5, 10] (by kernel_rfl) ?_
        refine AWP.cond (b := decide (t2 > 0) && decide (up s 65535 ≥ t2)) (by kernel_rfl) (fun hq60 => ?_) (fun hq60 => ?_)
        · simp only [decide_eq_true_eq, Bool.and_eq_true] at hq60
          refine e0 [5, 10, 11] [5, 10] (by kernel_rfl) ?_
          refine AWP.ret ?_
          refine ⟨Or.inr rfl, Eq.trans (b := some ([], V.tup [V.agg true [u8 0, u16 0, u8 0, u8 0, u8 0], i64 3])) (by kernel_rfl) ?_⟩
          (clear b1 b2 b3 b4 h1 h2 h3 h4 h5 h6 h7 h8; cases x <;> cases y <;> cases z <;> first | contradiction | (exfalso; simp at *; done) | (simp (disch := omega) [step, rest, count, Au.zero, Au.at, since_up, more_up, late, reached, if_pos, if_neg]; done))
        simp only [decide_eq_false_iff_not, Bool.and_eq_false_iff] at hq60
        refine AWP.skip ?_
        refine e0 [10, 11] [10] (by kernel_rfl) ?_
        refine AWP.ret ?_
        refine ⟨Or.inr rfl, Eq.trans (b := some ([], V.tup [V.agg true [u8 2, u16 (up s 65535), u8 0, u8 (up se 255), u8 0], i64 0])) (by kernel_rfl) ?_⟩
        (clear b1 b2 b3 b4 h1 h2 h3 h4 h5 h6 h7 h8; cases x <;> cases y <;> cases z <;> first | contradiction | (exfalso; simp at *; done) | (simp (disch := omega) [step, rest, count, Au.zero, Au.at, since_up, more_up, late, reached, if_pos, if_neg]; done))
      simp only [Bool.false_or, Bool.true_and, decide_eq_false_iff_not] at hq59
      refine AWP.skip ?_
      refine e0 [10, 11] [10] (by kernel_rfl) ?_
      refine AWP.ret ?_
      refine ⟨Or.inr rfl, Eq.trans (b := some ([], V.tup [V.agg true [u8 2, u16 (up s 65535), u8 0, u8 (up se 255), u8 0], i64 0])) (by kernel_rfl) ?_⟩
      (clear b1 b2 b3 b4 h1 h2 h3 h4 h5 h6 h7 h8; cases x <;> cases y <;> cases z <;> first | contradiction | (exfalso; simp at *; done) | (simp (disch := omega) [step, rest, count, Au.zero, Au.at, since_up, more_up, late, reached, if_pos, if_neg]; done))
    refine g0 [5, 6, 10, 11, 12, 13, 14] [5, 6, 10] (by kernel_rfl) ?_
    refine e1 (os := [u8 (IntKind.wrap IntKind.u8 (up dk 255)) = u8 (up dk 255)]) [(5, ⟨some (u8 (up dk 255)), none⟩)] [5, 6, 10, 11] [5, 6, 10] (by kernel_rfl) ⟨(wr_u8 (by omega) (by omega)), trivial⟩ ?_
    refine AWP.seq ?_
    refine e0 [5, 6, 10, 11, 66] [5, 6, 10] (by kernel_rfl) ?_
    refine AWP.condF (by kernel_rfl) ?_
    refine AWP.skip ?_
    refine AWP.seq ?_
    refine e0 [5, 6, 10, 11, 82] [5, 6, 10] (by kernel_rfl) ?_
    refine AWP.condF (by kernel_rfl) ?_
    refine AWP.skip ?_
    refine AWP.seq ?_
    refine e0 [5, 6, 10, 11, 98] [5, 6, 10] (by kernel_rfl) ?_
    refine AWP.cond (b := false || true && decide (0 < c2)) (by kernel_rfl) (fun hq63 => ?_) (fun hq63 => ?_)
    · simp only [Bool.false_or, Bool.true_and, decide_eq_true_eq] at hq63
      refine e0 [5, 10, 11, 114] [5, 10] (by kernel_rfl) ?_
      refine AWP.cond (b := decide (t2 > 0) && decide (up s 65535 ≥ t2)) (by kernel_rfl) (fun hq64 => ?_) (fun hq64 => ?_)
      · simp only [decide_eq_true_eq, Bool.and_eq_true] at hq64
        refine e0 [5, 10, 11] [5, 10] (by kernel_rfl) ?_
        refine AWP.ret ?_
        refine ⟨Or.inr rfl, Eq.trans (b := some ([], V.tup [V.agg true [u8 0, u16 0, u8 0, u8 0, u8 0], i64 3])) (by kernel_rfl) ?_⟩
        (clear b1 b2 b3 b4 h1 h2 h3 h4 h5 h6 h7 h8; cases x <;> cases y <;> cases z <;> first | contradiction | (exfalso; simp at *; done) | (simp (disch := omega) [step, rest, count, Au.zero, Au.at, since_up, more_up, late, reached, if_pos, if_neg]; done))
      simp only [decide_eq_false_iff_not, Bool.and_eq_false_iff] at hq64
      refine AWP.skip ?_
      refine e0 [10, 11] [10] (by kernel_rfl) ?_
      refine AWP.ret ?_
      refine ⟨Or.inr rfl, Eq.trans (b := some ([], V.tup [V.agg true [u8 2, u16 (up s 65535), u8 0, u8 0, u8 (up dk 255)], i64 0])) (by kernel_rfl) ?_⟩
      (clear b1 b2 b3 b4 h1 h2 h3 h4 h5 h6 h7 h8; cases x <;> cases y <;> cases z <;> first | contradiction | (exfalso; simp at *; done) | (simp (disch := omega) [step, rest, count, Au.zero, Au.at, since_up, more_up, late, reached, if_pos, if_neg]; done))
    simp only [Bool.false_or, Bool.true_and, decide_eq_false_iff_not] at hq63
    refine AWP.skip ?_
    refine e0 [10, 11] [10] (by kernel_rfl) ?_
    refine AWP.ret ?_
    refine ⟨Or.inr rfl, Eq.trans (b := some ([], V.tup [V.agg true [u8 2, u16 (up s 65535), u8 0, u8 0, u8 (up dk 255)], i64 0])) (by kernel_rfl) ?_⟩
    (clear b1 b2 b3 b4 h1 h2 h3 h4 h5 h6 h7 h8; cases x <;> cases y <;> cases z <;> first | contradiction | (exfalso; simp at *; done) | (simp (disch := omega) [step, rest, count, Au.zero, Au.at, since_up, more_up, late, reached, if_pos, if_neg]; done))
  simp only [Bool.not_eq_false'] at hq55
  refine AWP.skip ?_
  refine AWP.seq ?_
  refine e0 [5, 6, 10, 11, 12, 13, 14, 42] [5, 6, 10] (by kernel_rfl) ?_
  refine AWP.cond (b := y) (by kernel_rfl) (fun hq65 => ?_) (fun hq65 => ?_)
  · refine g0 [5, 6, 10, 11, 12, 13, 14] [5, 6, 10] (by kernel_rfl) ?_
    refine e1 (os := [u8 (IntKind.wrap IntKind.u8 (up cl 255)) = u8 (up cl 255), u8 (IntKind.wrap IntKind.u8 (up se 255)) = u8 (up se 255)]) [(1, ⟨some (u8 (up cl 255)), none⟩), (3, ⟨some (u8 (up se 255)), none⟩)] [5, 6, 10, 11] [5, 6, 10] (by kernel_rfl) ⟨(wr_u8 (by omega) (by omega)), (wr_u8 (by omega) (by omega)), trivial⟩ ?_
    refine AWP.seq ?_
    refine e0 [5, 6, 10, 11, 66] [5, 6, 10] (by kernel_rfl) ?_
    refine AWP.condF (by kernel_rfl) ?_
    refine AWP.skip ?_
    refine AWP.seq ?_
    refine e0 [5, 6, 10, 11, 82] [5, 6, 10] (by kernel_rfl) ?_
    refine AWP.condF (by kernel_rfl) ?_
    refine AWP.skip ?_
    refine AWP.seq ?_
    refine e0 [5, 6, 10, 11, 98] [5, 6, 10] (by kernel_rfl) ?_
    refine AWP.cond (b := false || true && decide (up se 255 < c2)) (by kernel_rfl) (fun hq68 => ?_) (fun hq68 => ?_)
    · simp only [Bool.false_or, Bool.true_and, decide_eq_true_eq] at hq68
      refine e0 [5, 10, 11, 114] [5, 10] (by kernel_rfl) ?_
      refine AWP.cond (b := decide (t2 > 0) && decide (up s 65535 ≥ t2)) (by kernel_rfl) (fun hq69 => ?_) (fun hq69 => ?_)
      · simp only [decide_eq_true_eq, Bool.and_eq_true] at hq69
        refine e0 [5, 10, 11] [5, 10] (by kernel_rfl) ?_
        refine AWP.ret ?_
        refine ⟨Or.inr rfl, Eq.trans (b := some ([], V.tup [V.agg true [u8 0, u16 0, u8 0, u8 0, u8 0], i64 3])) (by kernel_rfl) ?_⟩
        (clear b1 b2 b3 b4 h1 h2 h3 h4 h5 h6 h7 h8; cases x <;> cases y <;> cases z <;> first | contradiction | (exfalso; simp at *; done) | (simp (disch := omega) [step, rest, count, Au.zero, Au.at, since_up, more_up, late, reached, if_pos, if_neg]; done))
      simp only [decide_eq_false_iff_not, Bool.and_eq_false_iff] at hq69
      refine AWP.skip ?_
      refine e0 [10, 11] [10] (by kernel_rfl) ?_
      refine AWP.ret ?_
      refine ⟨Or.inr rfl, Eq.trans (b := some ([], V.tup [V.agg true [u8 2, u16 (up s 65535), u8 (up cl 255), u8 (up se 255), u8 0], i64 0])) (by kernel_rfl) ?_⟩
      (clear b1 b2 b3 b4 h1 h2 h3 h4 h5 h6 h7 h8; cases x <;> cases y <;> cases z <;> first | contradiction | (exfalso; simp at *; done) | (simp (disch := omega) [step, rest, count, Au.zero, Au.at, since_up, more_up, late, reached, if_pos, if_neg]; done))
    simp only [Bool.false_or, Bool.true_and, decide_eq_false_iff_not] at hq68
    refine AWP.skip ?_
    refine e0 [10, 11] [10] (by kernel_rfl) ?_
    refine AWP.ret ?_
    refine ⟨Or.inr rfl, Eq.trans (b := some ([], V.tup [V.agg true [u8 2, u16 (up s 65535), u8 (up cl 255), u8 (up se 255), u8 0], i64 0])) (by kernel_rfl) ?_⟩
    (clear b1 b2 b3 b4 h1 h2 h3 h4 h5 h6 h7 h8; cases x <;> cases y <;> cases z <;> first | contradiction | (exfalso; simp at *; done) | (simp (disch := omega) [step, rest, count, Au.zero, Au.at, since_up, more_up, late, reached, if_pos, if_neg]; done))
  refine g0 [5, 6, 10, 11, 12, 13, 14] [5, 6, 10] (by kernel_rfl) ?_
  refine e1 (os := [u8 (IntKind.wrap IntKind.u8 (up cl 255)) = u8 (up cl 255), u8 (IntKind.wrap IntKind.u8 (up dk 255)) = u8 (up dk 255)]) [(1, ⟨some (u8 (up cl 255)), none⟩), (5, ⟨some (u8 (up dk 255)), none⟩)] [5, 6, 10, 11] [5, 6, 10] (by kernel_rfl) ⟨(wr_u8 (by omega) (by omega)), (wr_u8 (by omega) (by omega)), trivial⟩ ?_
  refine AWP.seq ?_
  refine e0 [5, 6, 10, 11, 66] [5, 6, 10] (by kernel_rfl) ?_
  refine AWP.condF (by kernel_rfl) ?_
  refine AWP.skip ?_
  refine AWP.seq ?_
  refine e0 [5, 6, 10, 11, 82] [5, 6, 10] (by kernel_rfl) ?_
  refine AWP.condF (by kernel_rfl) ?_
  refine AWP.skip ?_
  refine AWP.seq ?_
  refine e0 [5, 6, 10, 11, 98] [5, 6, 10] (by kernel_rfl) ?_
  refine AWP.cond (b := false || true && decide (0 < c2)) (by kernel_rfl) (fun hq72 => ?_) (fun hq72 => ?_)
  · simp only [Bool.false_or, Bool.true_and, decide_eq_true_eq] at hq72
    refine e0 [5, 10, 11, 114] [5, 10] (by kernel_rfl) ?_
    refine AWP.cond (b := decide (t2 > 0) && decide (up s 65535 ≥ t2)) (by kernel_rfl) (fun hq73 => ?_) (fun hq73 => ?_)
    · simp only [decide_eq_true_eq, Bool.and_eq_true] at hq73
      refine e0 [5, 10, 11] [5, 10] (by kernel_rfl) ?_
      refine AWP.ret ?_
      refine ⟨Or.inr rfl, Eq.trans (b := some ([], V.tup [V.agg true [u8 0, u16 0, u8 0, u8 0, u8 0], i64 3])) (by kernel_rfl) ?_⟩
      (clear b1 b2 b3 b4 h1 h2 h3 h4 h5 h6 h7 h8; cases x <;> cases y <;> cases z <;> first | contradiction | (exfalso; simp at *; done) | (simp (disch := omega) [step, rest, count, Au.zero, Au.at, since_up, more_up, late, reached, if_pos, if_neg]; done))
    simp only [decide_eq_false_iff_not, Bool.and_eq_false_iff] at hq73
    refine AWP.skip ?_
    refine e0 [10, 11] [10] (by kernel_rfl) ?_
    refine AWP.ret ?_
    refine ⟨Or.inr rfl, Eq.trans (b := some ([], V.tup [V.agg true [u8 2, u16 (up s 65535), u8 (up cl 255), u8 0, u8 (up dk 255)], i64 0])) (by kernel_rfl) ?_⟩
    (clear b1 b2 b3 b4 h1 h2 h3 h4 h5 h6 h7 h8; cases x <;> cases y <;> cases z <;> first | contradiction | (exfalso; simp at *; done) | (simp (disch := omega) [step, rest, count, Au.zero, Au.at, since_up, more_up, late, reached, if_pos, if_neg]; done))
  simp only [Bool.false_or, Bool.true_and, decide_eq_false_iff_not] at hq72
  refine AWP.skip ?_
  refine e0 [10, 11] [10] (by kernel_rfl) ?_
  refine AWP.ret ?_
  refine ⟨Or.inr rfl, Eq.trans (b := some ([], V.tup [V.agg true [u8 2, u16 (up s 65535), u8 (up cl 255), u8 0, u8 (up dk 255)], i64 0])) (by kernel_rfl) ?_⟩
  (clear b1 b2 b3 b4 h1 h2 h3 h4 h5 h6 h7 h8; cases x <;> cases y <;> cases z <;> first | contradiction | (exfalso; simp at *; done) | (simp (disch := omega) [step, rest, count, Au.zero, Au.at, since_up, more_up, late, reached, if_pos, if_neg]; done))
theorem con_rstep3 (s cl se dk c1 c2 c3 t0 t1 t2 t3 : Int) (x y z : Bool) (h1 : 0 ≤ s) (h2 : s < 65536) (h3 : 0 ≤ cl) (h4 : cl < 256) (h5 : 0 ≤ se) (h6 : se < 256) (h7 : 0 ≤ dk) (h8 : dk < 256) :
    Con Tryd.prog 27 [] [.agg true [u8 3, u16 s, u8 cl, u8 se, u8 dk], .agg true [u8 c1, u8 c2, u8 c3, u16 t0, u16 t1, u16 t2, u16 t3], vb x, vb y, vb z] []
      (.tup [(step ⟨3, s, cl, se, dk⟩ ⟨c1, c2, c3, t0, t1, t2, t3⟩ x y z).1.v, i64 (step ⟨3, s, cl, se, dk⟩ ⟨c1, c2, c3, t0, t1, t2, t3⟩ x y z).2]) := by
  have b1 := up_bd s 65535 h1 (by omega)
  have b2 := up_bd cl 255 h3 (by omega)
  have b3 := up_bd se 255 h5 (by omega)
  have b4 := up_bd dk 255 h7 (by omega)
  refine Con.of (C := ⟨Tryd.prog, tc, Tryd.f27.ntmps⟩) [] tcok Tryd.func27 rfl rfl (by kernel_rfl) (by kernel_rfl) ?_
  refine e0 [2, 3, 4, 5, 6, 10, 11] [5, 6, 10] (by kernel_rfl) ?_
  refine AWP.seq ?_
  refine e0 [2, 3, 5, 6, 10, 11, 20] [5, 6, 10] (by kernel_rfl) ?_
  refine AWP.cond (b := z && true) (by kernel_rfl) (fun hq74 => ?_) (fun hq74 => ?_)
  · simp only [Bool.and_true] at hq74
    refine e0 [2, 3, 5, 6, 10, 11] [5, 6, 10] (by kernel_rfl) ?_
    refine AWP.ret ?_
    refine ⟨Or.inr rfl, Eq.trans (b := some ([], V.tup [V.agg true [u8 0, u16 0, u8 0, u8 0, u8 0], i64 1])) (by kernel_rfl) ?_⟩
    (clear b1 b2 b3 b4 h1 h2 h3 h4 h5 h6 h7 h8; cases x <;> cases y <;> cases z <;> first | contradiction | (exfalso; simp at *; done) | (simp (disch := omega) [step, rest, count, Au.zero, Au.at, since_up, more_up, late, reached, if_pos, if_neg]; done))
  simp only [Bool.and_true] at hq74
  refine AWP.skip ?_
  refine e1 (os := [i64 (IntKind.wrap IntKind.i64 s) = i64 s, Con Tryd.prog 47 [] [i64 s, i64 65535] [] (i64 (up s 65535)), u16 (IntKind.wrap IntKind.u16 (up s 65535)) = u16 (up s 65535)]) [(2, ⟨some (i64 s), none⟩), (3, ⟨none, some ⟨i64 (up s 65535), [], []⟩⟩), (4, ⟨some (u16 (up s 65535)), none⟩)] [2, 3, 5, 6, 10, 11] [5, 6, 10] (by kernel_rfl) ⟨(wr_i64 (by omega) (by omega)), (con_up (s) (65535) (by assumption) (by omega) (by omega)), (wr_u16 (by omega) (by omega)), trivial⟩ ?_
  refine e1 (os := [i64 (IntKind.wrap IntKind.i64 cl) = i64 cl, Con Tryd.prog 47 [] [i64 cl, i64 255] [] (i64 (up cl 255)), i64 (IntKind.wrap IntKind.i64 se) = i64 se, Con Tryd.prog 47 [] [i64 se, i64 255] [] (i64 (up se 255)), i64 (IntKind.wrap IntKind.i64 dk) = i64 dk, Con Tryd.prog 47 [] [i64 dk, i64 255] [] (i64 (up dk 255))]) [(2, ⟨some (i64 cl), none⟩), (3, ⟨none, some ⟨i64 (up cl 255), [], []⟩⟩), (6, ⟨some (i64 se), none⟩), (7, ⟨none, some ⟨i64 (up se 255), [], []⟩⟩), (10, ⟨some (i64 dk), none⟩), (11, ⟨none, some ⟨i64 (up dk 255), [], []⟩⟩)] [2, 3, 5, 6, 10, 11, 12, 13, 14] [5, 6, 10] (by kernel_rfl) ⟨(wr_i64 (by omega) (by omega)), (con_up (cl) (255) (by assumption) (by omega) (by omega)), (wr_i64 (by omega) (by omega)), (con_up (se) (255) (by assumption) (by omega) (by omega)), (wr_i64 (by omega) (by omega)), (con_up (dk) (255) (by assumption) (by omega) (by omega)), trivial⟩ ?_
  refine AWP.seq ?_
  refine e0 [3, 5, 6, 10, 11, 12, 13, 14, 41] [5, 6, 10] (by kernel_rfl) ?_
  refine AWP.cond (b := !x) (by kernel_rfl) (fun hq75 => ?_) (fun hq75 => ?_)
  · simp only [Bool.not_eq_true'] at hq75
    refine g0 [3, 5, 6, 10, 11, 12, 13, 14] [5, 6, 10] (by kernel_rfl) ?_
    refine AWP.seq ?_
    refine e0 [5, 6, 10, 11, 12, 13, 14, 42] [5, 6, 10] (by kernel_rfl) ?_
    refine AWP.cond (b := y) (by kernel_rfl) (fun hq76 => ?_) (fun hq76 => ?_)
    · refine g0 [5, 6, 10, 11, 12, 13, 14] [5, 6, 10] (by kernel_rfl) ?_
      refine e1 (os := [u8 (IntKind.wrap IntKind.u8 (up se 255)) = u8 (up se 255)]) [(3, ⟨some (u8 (up se 255)), none⟩)] [5, 6, 10, 11] [5, 6, 10] (by kernel_rfl) ⟨(wr_u8 (by omega) (by omega)), trivial⟩ ?_
      refine AWP.seq ?_
      refine e0 [5, 6, 10, 11, 66] [5, 6, 10] (by kernel_rfl) ?_
      refine AWP.condF (by kernel_rfl) ?_
      refine AWP.skip ?_
      refine AWP.seq ?_
      refine e0 [5, 6, 10, 11, 82] [5, 6, 10] (by kernel_rfl) ?_
      refine AWP.cond (b := true && decide (c3 > 0) && decide (0 ≥ c3)) (by kernel_rfl) (fun hq78 => ?_) (fun hq78 => ?_)
      · simp only [Bool.true_and, decide_eq_true_eq, Bool.and_eq_true] at hq78
        (exfalso; omega)
      simp only [Bool.true_and, decide_eq_false_iff_not, Bool.and_eq_false_iff] at hq78
      refine AWP.skip ?_
      refine AWP.seq ?_
      refine e0 [5, 6, 10, 11, 98] [5, 6, 10] (by kernel_rfl) ?_
      refine AWP.condF (by kernel_rfl) ?_
      refine AWP.skip ?_
      refine e0 [10, 11] [10] (by kernel_rfl) ?_
      refine AWP.ret ?_
      refine ⟨Or.inr rfl, Eq.trans (b := some ([], V.tup [V.agg true [u8 3, u16 (up s 65535), u8 0, u8 (up se 255), u8 0], i64 0])) (by kernel_rfl) ?_⟩
      (clear b1 b2 b3 b4 h1 h2 h3 h4 h5 h6 h7 h8; cases x <;> cases y <;> cases z <;> first | contradiction | (exfalso; simp at *; done) | (simp (disch := omega) [step, rest, count, Au.zero, Au.at, since_up, more_up, late, reached, if_pos, if_neg]; done))
    refine g0 [5, 6, 10, 11, 12, 13, 14] [5, 6, 10] (by kernel_rfl) ?_
    refine e1 (os := [u8 (IntKind.wrap IntKind.u8 (up dk 255)) = u8 (up dk 255)]) [(5, ⟨some (u8 (up dk 255)), none⟩)] [5, 6, 10, 11] [5, 6, 10] (by kernel_rfl) ⟨(wr_u8 (by omega) (by omega)), trivial⟩ ?_
    refine AWP.seq ?_
    refine e0 [5, 6, 10, 11, 66] [5, 6, 10] (by kernel_rfl) ?_
    refine AWP.condF (by kernel_rfl) ?_
    refine AWP.skip ?_
    refine AWP.seq ?_
    refine e0 [5, 6, 10, 11, 82] [5, 6, 10] (by kernel_rfl) ?_
    refine AWP.cond (b := true && decide (c3 > 0) && decide (up dk 255 ≥ c3)) (by kernel_rfl) (fun hq81 => ?_) (fun hq81 => ?_)
    · simp only [Bool.true_and, decide_eq_true_eq, Bool.and_eq_true] at hq81
      refine e0 [5, 6, 10, 11] [5, 6, 10] (by kernel_rfl) ?_
      refine AWP.ret ?_
      refine ⟨Or.inr rfl, Eq.trans (b := some ([], V.tup [V.agg true [u8 2, u16 0, u8 0, u8 0, u8 0], i64 4])) (by kernel_rfl) ?_⟩
      (clear b1 b2 b3 b4 h1 h2 h3 h4 h5 h6 h7 h8; cases x <;> cases y <;> cases z <;> first | contradiction | (exfalso; simp at *; done) | (simp (disch := omega) [step, rest, count, Au.zero, Au.at, since_up, more_up, late, reached, if_pos, if_neg]; done))
    simp only [Bool.true_and, decide_eq_false_iff_not, Bool.and_eq_false_iff] at hq81
    refine AWP.skip ?_
    refine AWP.seq ?_
    refine e0 [5, 6, 10, 11, 98] [5, 6, 10] (by kernel_rfl) ?_
    refine AWP.condF (by kernel_rfl) ?_
    refine AWP.skip ?_
    refine e0 [10, 11] [10] (by kernel_rfl) ?_
    refine AWP.ret ?_
    refine ⟨Or.inr rfl, Eq.trans (b := some ([], V.tup [V.agg true [u8 3, u16 (up s 65535), u8 0, u8 0, u8 (up dk 255)], i64 0])) (by kernel_rfl) ?_⟩
    (clear b1 b2 b3 b4 h1 h2 h3 h4 h5 h6 h7 h8; cases x <;> cases y <;> cases z <;> first | contradiction | (exfalso; simp at *; done) | (simp (disch := omega) [step, rest, count, Au.zero, Au.at, since_up, more_up, late, reached, if_pos, if_neg]; done))
  simp only [Bool.not_eq_false'] at hq75
  refine AWP.skip ?_
  refine AWP.seq ?_
  refine e0 [5, 6, 10, 11, 12, 13, 14, 42] [5, 6, 10] (by kernel_rfl) ?_
  refine AWP.cond (b := y) (by kernel_rfl) (fun hq83 => ?_) (fun hq83 => ?_)
  · refine g0 [5, 6, 10, 11, 12, 13, 14] [5, 6, 10] (by kernel_rfl) ?_
    refine e1 (os := [u8 (IntKind.wrap IntKind.u8 (up cl 255)) = u8 (up cl 255), u8 (IntKind.wrap IntKind.u8 (up se 255)) = u8 (up se 255)]) [(1, ⟨some (u8 (up cl 255)), none⟩), (3, ⟨some (u8 (up se 255)), none⟩)] [5, 6, 10, 11] [5, 6, 10] (by kernel_rfl) ⟨(wr_u8 (by omega) (by omega)), (wr_u8 (by omega) (by omega)), trivial⟩ ?_
    refine AWP.seq ?_
    refine e0 [5, 6, 10, 11, 66] [5, 6, 10] (by kernel_rfl) ?_
    refine AWP.condF (by kernel_rfl) ?_
    refine AWP.skip ?_
    refine AWP.seq ?_
    refine e0 [5, 6, 10, 11, 82] [5, 6, 10] (by kernel_rfl) ?_
    refine AWP.cond (b := true && decide (c3 > 0) && decide (0 ≥ c3)) (by kernel_rfl) (fun hq85 => ?_) (fun hq85 => ?_)
    · simp only [Bool.true_and, decide_eq_true_eq, Bool.and_eq_true] at hq85
      (exfalso; omega)
    simp only [Bool.true_and, decide_eq_false_iff_not, Bool.and_eq_false_iff] at hq85
    refine AWP.skip ?_
    refine AWP.seq ?_
    refine e0 [5, 6, 10, 11, 98] [5, 6, 10] (by kernel_rfl) ?_
    refine AWP.condF (by kernel_rfl) ?_
    refine AWP.skip ?_
    refine e0 [10, 11] [10] (by kernel_rfl) ?_
    refine AWP.ret ?_
    refine ⟨Or.inr rfl, Eq.trans (b := some ([], V.tup [V.agg true [u8 3, u16 (up s 65535), u8 (up cl 255), u8 (up se 255), u8 0], i64 0])) (by kernel_rfl) ?_⟩
    (clear b1 b2 b3 b4 h1 h2 h3 h4 h5 h6 h7 h8; cases x <;> cases y <;> cases z <;> first | contradiction | (exfalso; simp at *; done) | (simp (disch := omega) [step, rest, count, Au.zero, Au.at, since_up, more_up, late, reached, if_pos, if_neg]; done))
  refine g0 [5, 6, 10, 11, 12, 13, 14] [5, 6, 10] (by kernel_rfl) ?_
  refine e1 (os := [u8 (IntKind.wrap IntKind.u8 (up cl 255)) = u8 (up cl 255), u8 (IntKind.wrap IntKind.u8 (up dk 255)) = u8 (up dk 255)]) [(1, ⟨some (u8 (up cl 255)), none⟩), (5, ⟨some (u8 (up dk 255)), none⟩)] [5, 6, 10, 11] [5, 6, 10] (by kernel_rfl) ⟨(wr_u8 (by omega) (by omega)), (wr_u8 (by omega) (by omega)), trivial⟩ ?_
  refine AWP.seq ?_
  refine e0 [5, 6, 10, 11, 66] [5, 6, 10] (by kernel_rfl) ?_
  refine AWP.condF (by kernel_rfl) ?_
  refine AWP.skip ?_
  refine AWP.seq ?_
  refine e0 [5, 6, 10, 11, 82] [5, 6, 10] (by kernel_rfl) ?_
  refine AWP.cond (b := true && decide (c3 > 0) && decide (up dk 255 ≥ c3)) (by kernel_rfl) (fun hq88 => ?_) (fun hq88 => ?_)
  · simp only [Bool.true_and, decide_eq_true_eq, Bool.and_eq_true] at hq88
    refine e0 [5, 6, 10, 11] [5, 6, 10] (by kernel_rfl) ?_
    refine AWP.ret ?_
    refine ⟨Or.inr rfl, Eq.trans (b := some ([], V.tup [V.agg true [u8 2, u16 0, u8 0, u8 0, u8 0], i64 4])) (by kernel_rfl) ?_⟩
    (clear b1 b2 b3 b4 h1 h2 h3 h4 h5 h6 h7 h8; cases x <;> cases y <;> cases z <;> first | contradiction | (exfalso; simp at *; done) | (simp (disch := omega) [step, rest, count, Au.zero, Au.at, since_up, more_up, late, reached, if_pos, if_neg]; done))
  simp only [Bool.true_and, decide_eq_false_iff_not, Bool.and_eq_false_iff] at hq88
  refine AWP.skip ?_
  refine AWP.seq ?_
  refine e0 [5, 6, 10, 11, 98] [5, 6, 10] (by kernel_rfl) ?_
  refine AWP.condF (by kernel_rfl) ?_
  refine AWP.skip ?_
  refine e0 [10, 11] [10] (by kernel_rfl) ?_
  refine AWP.ret ?_
  refine ⟨Or.inr rfl, Eq.trans (b := some ([], V.tup [V.agg true [u8 3, u16 (up s 65535), u8 (up cl 255), u8 0, u8 (up dk 255)], i64 0])) (by kernel_rfl) ?_⟩
  (clear b1 b2 b3 b4 h1 h2 h3 h4 h5 h6 h7 h8; cases x <;> cases y <;> cases z <;> first | contradiction | (exfalso; simp at *; done) | (simp (disch := omega) [step, rest, count, Au.zero, Au.at, since_up, more_up, late, reached, if_pos, if_neg]; done))
theorem con_rstep (m s cl se dk c1 c2 c3 t0 t1 t2 t3 : Int) (x y z : Bool) (h : m = 0 ∨ m = 1 ∨ m = 2 ∨ m = 3) (h1 : 0 ≤ s) (h2 : s < 65536) (h3 : 0 ≤ cl) (h4 : cl < 256) (h5 : 0 ≤ se) (h6 : se < 256) (h7 : 0 ≤ dk) (h8 : dk < 256) :
    Con Tryd.prog 27 [] [.agg true [u8 m, u16 s, u8 cl, u8 se, u8 dk], .agg true [u8 c1, u8 c2, u8 c3, u16 t0, u16 t1, u16 t2, u16 t3], vb x, vb y, vb z] []
      (.tup [(step ⟨m, s, cl, se, dk⟩ ⟨c1, c2, c3, t0, t1, t2, t3⟩ x y z).1.v, i64 (step ⟨m, s, cl, se, dk⟩ ⟨c1, c2, c3, t0, t1, t2, t3⟩ x y z).2]) := by
  rcases h with rfl | rfl | rfl | rfl
  · exact con_rstep0 s cl se dk c1 c2 c3 t0 t1 t2 t3 x y z h1 h2 h3 h4 h5 h6 h7 h8
  · exact con_rstep1 s cl se dk c1 c2 c3 t0 t1 t2 t3 x y z h1 h2 h3 h4 h5 h6 h7 h8
  · exact con_rstep2 s cl se dk c1 c2 c3 t0 t1 t2 t3 x y z h1 h2 h3 h4 h5 h6 h7 h8
  · exact con_rstep3 s cl se dk c1 c2 c3 t0 t1 t2 t3 x y z h1 h2 h3 h4 h5 h6 h7 h8
end Go.Proofs.YtklbonfbiakebaaDoor
