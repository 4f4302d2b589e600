/- Package unit and the document's answer: what each function returns. -/
import Derived.Test.YtklbonfbiakebaaDoorTc
import Derived.Test.YtklbonfbiakebaaDoorAb26
namespace Go.Proofs.YtklbonfbiakebaaDoor
open Go.Ab
set_option linter.unusedSimpArgs false
set_option linter.unusedVariables false
structure Un where
  s : Int
  l : Int
  b : Int
abbrev Un.v (u : Un) : V := .agg true [u8 u.s, u8 u.l, u8 u.b]
def ustep (u : Un) (a w : Bool) (tl : Int) : Un × Int :=
  if u.s = 1 then (if a = true then (⟨2, 0, 0⟩, 1) else if u.l = 0 then (⟨3, 0, 0⟩, 2) else (⟨1, u.l - 1, u.b⟩, 0))
  else if u.s = 2 then (if a = true ∧ w = true then (⟨2, u.l, 0⟩, 0) else if u.b ≥ tl then (⟨3, 0, 0⟩, 2) else (⟨2, u.l, u.b + 1⟩, 0))
  else (u, 0)
def uorder (u : Un) (on : Bool) (wt : Int) : Un × Bool :=
  if on = true then (if u.s = 1 ∨ u.s = 2 then (u, false) else (⟨1, wt, 0⟩, true)) else if u.s = 0 then (u, false) else (⟨0, 0, 0⟩, true)
def uright (u : Un) (wt tl : Int) : Bool :=
  decide (u.s ≤ 3) && (decide (u.l ≤ if u.s = 1 then wt else 0) && decide (u.b ≤ if u.s = 2 then tl else 0))
theorem con_works (s l b : Int) : Con Tryd.prog 17 [] [.agg true [u8 s, u8 l, u8 b]] [] (vb (decide (s = 2))) := by
  refine Con.of (C := ⟨Tryd.prog, tc, Tryd.f17.ntmps⟩) [] tcok Tryd.func17 rfl rfl (by kernel_rfl) (by kernel_rfl) ?_
  refine AWP.seq ?_
  refine AWP.regionT tcok hmix [] [1, 2] [1] (os := []) (s' := St.mk [(1, tp (V.ptr 1 0)), (2, tp (vb false))] [(1, Blk.mk [u8 s, u8 l, u8 b] true 3 none)]) (by kernel_rfl) trivial ?_
  refine AWP.seq ?_
  refine AWP.regionT tcok hmix [] [2] [] (os := []) (s' := St.mk [(2, tp (vb (s == 2)))] []) (by kernel_rfl) trivial ?_
  refine AWP.ret ?_
  refine ⟨Or.inr rfl, Eq.trans (b := some ([], vb (s == 2))) (by kernel_rfl) ?_⟩
  rfl
theorem con_powered (s l b : Int) : Con Tryd.prog 43 [] [.agg true [u8 s, u8 l, u8 b]] [] (vb (s == 1 || decide (s = 2))) := by
  refine Con.of (C := ⟨Tryd.prog, tc, Tryd.f43.ntmps⟩) [] tcok Tryd.func43 rfl rfl (by kernel_rfl) (by kernel_rfl) ?_
  refine AWP.seq ?_
  refine AWP.regionT tcok hmix [] [1, 2] [1] (os := []) (s' := St.mk [(1, tp (V.ptr 1 0)), (2, tp (vb false))] [(1, Blk.mk [u8 s, u8 l, u8 b] true 3 none)]) (by kernel_rfl) trivial ?_
  refine AWP.seq ?_
  refine AWP.regionT tcok hmix [(5, ⟨none, some ⟨vb (decide (s = 2)), [], []⟩⟩)] [2] [] (os := [(s == (1 : Int)) = false → Con Tryd.prog (17 : Nat) [] [V.agg true [u8 s, u8 l, u8 b]] [] (vb (decide (s = (2 : Int)))) ∧ True]) (s' := St.mk [(2, tp (vb (s == 1 || decide (s = 2))))] []) (by kernel_rfl) ⟨(fun _ => ⟨(con_works (s) (l) (b)), trivial⟩), trivial⟩ ?_
  refine AWP.ret ?_
  refine ⟨Or.inr rfl, Eq.trans (b := some ([], vb (s == 1 || decide (s = 2)))) (by kernel_rfl) ?_⟩
  rfl
theorem con_uright (s l b wt tl : Int) : Con Tryd.prog 23 [] [.agg true [u8 s, u8 l, u8 b], .agg true [u8 wt, u8 tl]] [] (vb (uright ⟨s, l, b⟩ wt tl)) := by
  refine Con.of (C := ⟨Tryd.prog, tc, Tryd.f23.ntmps⟩) [] tcok Tryd.func23 rfl rfl (by kernel_rfl) (by kernel_rfl) ?_
  refine AWP.seq ?_
  refine AWP.regionT tcok hmix [] [2, 3, 4] [2, 3] (os := []) (s' := St.mk [(2, tp (V.ptr 2 0)), (3, tp (V.ptr 3 0)), (4, tp (vb false))] [(2, Blk.mk [u8 s, u8 l, u8 b] true 3 none), (3, Blk.mk [u8 wt, u8 tl] true 2 none)]) (by kernel_rfl) trivial ?_
  refine AWP.seq ?_
  refine AWP.regionT tcok hmix [] [2, 3, 4, 5, 6] [2, 3] (os := []) (s' := St.mk [(2, tp (V.ptr 2 0)), (3, tp (V.ptr 3 0)), (4, tp (vb false)), (5, tp (u8 0)), (6, tp (u8 0))] [(2, Blk.mk [u8 s, u8 l, u8 b] true 3 none), (3, Blk.mk [u8 wt, u8 tl] true 2 none)]) (by kernel_rfl) trivial ?_
  refine AWP.seq ?_
  refine AWP.seq ?_
  refine AWP.regionT tcok hmix [] [2, 3, 4, 5, 6, 8] [2, 3] (os := []) (s' := St.mk [(2, tp (V.ptr 2 0)), (3, tp (V.ptr 3 0)), (4, tp (vb false)), (5, tp (u8 0)), (6, tp (u8 0)), (8, tp (u8 s))] [(2, Blk.mk [u8 s, u8 l, u8 b] true 3 none), (3, Blk.mk [u8 wt, u8 tl] true 2 none)]) (by kernel_rfl) trivial ?_
  refine AWP.block ?_
  refine AWP.seq ?_
  refine AWP.regionT tcok hmix [] [2, 3, 4, 5, 6, 8, 9] [2, 3] (os := []) (s' := St.mk [(2, tp (V.ptr 2 0)), (3, tp (V.ptr 3 0)), (4, tp (vb false)), (5, tp (u8 0)), (6, tp (u8 0)), (8, tp (u8 s)), (9, tp (vb (s == 1)))] [(2, Blk.mk [u8 s, u8 l, u8 b] true 3 none), (3, Blk.mk [u8 wt, u8 tl] true 2 none)]) (by kernel_rfl) trivial ?_
  refine AWP.cond (b := s == 1) (by kernel_rfl) (fun hq0 => ?_) (fun hq0 => ?_)
  · simp only [beq_iff_eq] at hq0
    refine AWP.region tcok hmix [] (os := []) (sf := St.mk [(2, tp (V.ptr 2 0)), (3, tp (V.ptr 3 0)), (4, tp (vb false)), (5, tp (u8 wt)), (6, tp (u8 0)), (8, tp (u8 s)), (9, tp (vb (s == 1))), (11, tp (V.ptr 3 0)), (12, tp (u8 wt))] [(2, Blk.mk [u8 s, u8 l, u8 b] true 3 none), (3, Blk.mk [u8 wt, u8 tl] true 2 none)]) (by kernel_rfl) trivial ?_
    refine AWP.keep' [2, 4, 5, 6] [2] (sf := St.mk [(2, tp (V.ptr 2 0)), (4, tp (vb false)), (5, tp (u8 wt)), (6, tp (u8 0))] [(2, Blk.mk [u8 s, u8 l, u8 b] true 3 none)]) (by kernel_rfl) ?_
    refine AWP.seq ?_
    refine AWP.regionT tcok hmix [(1, ⟨some (u8 1), none⟩)] [4] [] (os := [(1 : Nat) ≤ (3 : Nat), u8 s = u8 1]) (s' := St.mk [(4, tp (vb (true && decide (l ≤ wt) && decide (b ≤ 0))))] []) (by kernel_rfl) ⟨(by omega), (in_eq hq0), trivial⟩ ?_
    refine AWP.ret ?_
    refine ⟨Or.inr rfl, Eq.trans (b := some ([], vb (true && decide (l ≤ wt) && decide (b ≤ 0)))) (by kernel_rfl) ?_⟩
    (simp_all [uright, Bool.and_assoc])
  simp only [beq_eq_false_iff_ne] at hq0
  refine AWP.seq ?_
  refine AWP.regionT tcok hmix [] [2, 3, 4, 5, 6, 13] [2, 3] (os := []) (s' := St.mk [(2, tp (V.ptr 2 0)), (3, tp (V.ptr 3 0)), (4, tp (vb false)), (5, tp (u8 0)), (6, tp (u8 0)), (13, tp (vb (s == 2)))] [(2, Blk.mk [u8 s, u8 l, u8 b] true 3 none), (3, Blk.mk [u8 wt, u8 tl] true 2 none)]) (by kernel_rfl) trivial ?_
  refine AWP.cond (b := s == 2) (by kernel_rfl) (fun hq1 => ?_) (fun hq1 => ?_)
  · simp only [beq_iff_eq] at hq1
    refine AWP.region tcok hmix [] (os := []) (sf := St.mk [(2, tp (V.ptr 2 0)), (3, tp (V.ptr 3 0)), (4, tp (vb false)), (5, tp (u8 0)), (6, tp (u8 tl)), (13, tp (vb (s == 2))), (15, tp (V.ptr 3 1)), (16, tp (u8 tl))] [(2, Blk.mk [u8 s, u8 l, u8 b] true 3 none), (3, Blk.mk [u8 wt, u8 tl] true 2 none)]) (by kernel_rfl) trivial ?_
    refine AWP.keep' [2, 4, 5, 6] [2] (sf := St.mk [(2, tp (V.ptr 2 0)), (4, tp (vb false)), (5, tp (u8 0)), (6, tp (u8 tl))] [(2, Blk.mk [u8 s, u8 l, u8 b] true 3 none)]) (by kernel_rfl) ?_
    refine AWP.seq ?_
    refine AWP.regionT tcok hmix [(1, ⟨some (u8 2), none⟩)] [4] [] (os := [(1 : Nat) ≤ (3 : Nat), u8 s = u8 2]) (s' := St.mk [(4, tp (vb (true && decide (l ≤ 0) && decide (b ≤ tl))))] []) (by kernel_rfl) ⟨(by omega), (in_eq hq1), trivial⟩ ?_
    refine AWP.ret ?_
    refine ⟨Or.inr rfl, Eq.trans (b := some ([], vb (true && decide (l ≤ 0) && decide (b ≤ tl)))) (by kernel_rfl) ?_⟩
    (simp_all [uright, Bool.and_assoc])
  simp only [beq_eq_false_iff_ne] at hq1
  refine AWP.skip ?_
  refine AWP.seq ?_
  refine AWP.regionT tcok hmix [] [4] [] (os := []) (s' := St.mk [(4, tp (vb (decide (s ≤ 3) && decide (l ≤ 0) && decide (b ≤ 0))))] []) (by kernel_rfl) trivial ?_
  refine AWP.ret ?_
  refine ⟨Or.inr rfl, Eq.trans (b := some ([], vb (decide (s ≤ 3) && decide (l ≤ 0) && decide (b ≤ 0)))) (by kernel_rfl) ?_⟩
  (simp_all [uright, Bool.and_assoc])
theorem con_uorder (s l b wt tl : Int) (on : Bool) : Con Tryd.prog 15 [] [.agg true [u8 s, u8 l, u8 b], vb on, .agg true [u8 wt, u8 tl]] [] (.tup [(uorder ⟨s, l, b⟩ on wt).1.v, vb (uorder ⟨s, l, b⟩ on wt).2]) := by
  refine Con.of (C := ⟨Tryd.prog, tc, Tryd.f15.ntmps⟩) [] tcok Tryd.func15 rfl rfl (by kernel_rfl) (by kernel_rfl) ?_
  refine AWP.seq ?_
  refine AWP.regionT tcok hmix [] [1, 3, 5, 6, 7] [3, 5, 6] (os := []) (s' := St.mk [(1, tp (vb on)), (3, tp (V.ptr 3 0)), (5, tp (V.ptr 5 0)), (6, tp (V.ptr 6 0)), (7, tp (vb false))] [(3, Blk.mk [u8 s, u8 l, u8 b] true 3 none), (5, Blk.mk [u8 wt, u8 tl] true 2 none), (6, Blk.mk [u8 0, u8 0, u8 0] true 3 none)]) (by kernel_rfl) trivial ?_
  refine AWP.seq ?_
  refine AWP.block ?_
  refine AWP.seq ?_
  refine AWP.seq ?_
  refine AWP.regionT tcok hmix [(3, ⟨none, some ⟨vb (s == 1 || decide (s = 2)), [], []⟩⟩)] [1, 3, 5, 6, 7, 8] [3, 5, 6] (os := [on = true → Con Tryd.prog (43 : Nat) [] [V.agg true [u8 s, u8 l, u8 b]] [] (vb (s == (1 : Int) || decide (s = (2 : Int)))) ∧ True]) (s' := St.mk [(1, tp (vb on)), (3, tp (V.ptr 3 0)), (5, tp (V.ptr 5 0)), (6, tp (V.ptr 6 0)), (7, tp (vb false)), (8, tp (vb (on && (s == 1 || decide (s = 2)))))] [(3, Blk.mk [u8 s, u8 l, u8 b] true 3 none), (5, Blk.mk [u8 wt, u8 tl] true 2 none), (6, Blk.mk [u8 0, u8 0, u8 0] true 3 none)]) (by kernel_rfl) ⟨(fun _ => ⟨(con_powered (s) (l) (b)), trivial⟩), trivial⟩ ?_
  refine AWP.cond (b := on && (s == 1 || decide (s = 2))) (by kernel_rfl) (fun hq2 => ?_) (fun hq2 => ?_)
  · simp only [decide_eq_true_eq, Bool.and_eq_true, Bool.or_eq_true, beq_iff_eq] at hq2
    refine AWP.skip ?_
    refine AWP.cond (b := on && (s == 1 || decide (s = 2))) (by kernel_rfl) (fun hq3 => ?_) (fun hq3 => ?_)
    · simp only [decide_eq_true_eq, Bool.and_eq_true, Bool.or_eq_true, beq_iff_eq] at hq3
      refine AWP.seq ?_
      refine AWP.regionT tcok hmix [] [6, 7] [6] (os := []) (s' := St.mk [(6, tp (V.ptr 6 0)), (7, tp (vb false))] [(6, Blk.mk [u8 s, u8 l, u8 b] true 3 none)]) (by kernel_rfl) trivial ?_
      refine AWP.ret ?_
      refine ⟨Or.inr rfl, Eq.trans (b := some ([], V.tup [V.agg true [u8 s, u8 l, u8 b], vb false])) (by kernel_rfl) ?_⟩
      (simp_all [uorder])
    simp only [decide_eq_false_iff_not, Bool.or_eq_false_iff, Bool.and_eq_false_iff, beq_eq_false_iff_ne] at hq3
    refine AWP.seq ?_
    refine AWP.regionT tcok hmix [] [5, 6, 7, 22] [5, 6] (os := []) (s' := St.mk [(5, tp (V.ptr 5 0)), (6, tp (V.ptr 6 0)), (7, tp (vb false)), (22, tp (vb on))] [(5, Blk.mk [u8 wt, u8 tl] true 2 none), (6, Blk.mk [u8 0, u8 0, u8 0] true 3 none)]) (by kernel_rfl) trivial ?_
    refine AWP.cond (b := on) (by kernel_rfl) (fun hq4 => ?_) (fun hq4 => ?_)
    · refine AWP.seq ?_
      refine AWP.regionT tcok hmix [] [6, 7] [6] (os := []) (s' := St.mk [(6, tp (V.ptr 6 0)), (7, tp (vb true))] [(6, Blk.mk [u8 1, u8 wt, u8 0] true 3 none)]) (by kernel_rfl) trivial ?_
      refine AWP.ret ?_
      refine ⟨Or.inr rfl, Eq.trans (b := some ([], V.tup [V.agg true [u8 1, u8 wt, u8 0], vb true])) (by kernel_rfl) ?_⟩
      (simp_all [uorder])
    refine AWP.skip ?_
    refine AWP.seq ?_
    refine AWP.regionT tcok hmix [] [6, 7] [6] (os := []) (s' := St.mk [(6, tp (V.ptr 6 0)), (7, tp (vb true))] [(6, Blk.mk [u8 0, u8 0, u8 0] true 3 none)]) (by kernel_rfl) trivial ?_
    refine AWP.ret ?_
    refine ⟨Or.inr rfl, Eq.trans (b := some ([], V.tup [V.agg true [u8 0, u8 0, u8 0], vb true])) (by kernel_rfl) ?_⟩
    (simp_all [uorder])
  simp only [decide_eq_false_iff_not, Bool.or_eq_false_iff, Bool.and_eq_false_iff, beq_eq_false_iff_ne] at hq2
  refine AWP.regionT tcok hmix [] [1, 3, 5, 6, 7, 8] [3, 5, 6] (os := []) (s' := St.mk [(1, tp (vb on)), (3, tp (V.ptr 3 0)), (5, tp (V.ptr 5 0)), (6, tp (V.ptr 6 0)), (7, tp (vb false)), (8, tp (vb (!on && s == 0)))] [(3, Blk.mk [u8 s, u8 l, u8 b] true 3 none), (5, Blk.mk [u8 wt, u8 tl] true 2 none), (6, Blk.mk [u8 0, u8 0, u8 0] true 3 none)]) (by kernel_rfl) trivial ?_
  refine AWP.cond (b := !on && s == 0) (by kernel_rfl) (fun hq5 => ?_) (fun hq5 => ?_)
  · simp only [Bool.and_eq_true, Bool.not_eq_true', beq_iff_eq] at hq5
    refine AWP.seq ?_
    refine AWP.regionT tcok hmix [] [6, 7] [6] (os := []) (s' := St.mk [(6, tp (V.ptr 6 0)), (7, tp (vb false))] [(6, Blk.mk [u8 s, u8 l, u8 b] true 3 none)]) (by kernel_rfl) trivial ?_
    refine AWP.ret ?_
    refine ⟨Or.inr rfl, Eq.trans (b := some ([], V.tup [V.agg true [u8 s, u8 l, u8 b], vb false])) (by kernel_rfl) ?_⟩
    (simp_all [uorder])
  simp only [Bool.and_eq_false_iff, beq_eq_false_iff_ne, Bool.not_eq_false'] at hq5
  refine AWP.seq ?_
  refine AWP.regionT tcok hmix [] [5, 6, 7, 22] [5, 6] (os := []) (s' := St.mk [(5, tp (V.ptr 5 0)), (6, tp (V.ptr 6 0)), (7, tp (vb false)), (22, tp (vb on))] [(5, Blk.mk [u8 wt, u8 tl] true 2 none), (6, Blk.mk [u8 0, u8 0, u8 0] true 3 none)]) (by kernel_rfl) trivial ?_
  refine AWP.cond (b := on) (by kernel_rfl) (fun hq6 => ?_) (fun hq6 => ?_)
  · refine AWP.seq ?_
    refine AWP.regionT tcok hmix [] [6, 7] [6] (os := []) (s' := St.mk [(6, tp (V.ptr 6 0)), (7, tp (vb true))] [(6, Blk.mk [u8 1, u8 wt, u8 0] true 3 none)]) (by kernel_rfl) trivial ?_
    refine AWP.ret ?_
    refine ⟨Or.inr rfl, Eq.trans (b := some ([], V.tup [V.agg true [u8 1, u8 wt, u8 0], vb true])) (by kernel_rfl) ?_⟩
    (simp_all [uorder])
  refine AWP.skip ?_
  refine AWP.seq ?_
  refine AWP.regionT tcok hmix [] [6, 7] [6] (os := []) (s' := St.mk [(6, tp (V.ptr 6 0)), (7, tp (vb true))] [(6, Blk.mk [u8 0, u8 0, u8 0] true 3 none)]) (by kernel_rfl) trivial ?_
  refine AWP.ret ?_
  refine ⟨Or.inr rfl, Eq.trans (b := some ([], V.tup [V.agg true [u8 0, u8 0, u8 0], vb true])) (by kernel_rfl) ?_⟩
  (simp_all [uorder])
theorem con_ustep (s l b wt tl : Int) (a w : Bool) (h : 0 ≤ l ∧ l < 256 ∧ 0 ≤ b ∧ b < 256) (ht : 0 ≤ tl ∧ tl < 256) : Con Tryd.prog 16 [] [.agg true [u8 s, u8 l, u8 b], vb a, vb w, .agg true [u8 wt, u8 tl]] [] (.tup [(ustep ⟨s, l, b⟩ a w tl).1.v, u8 (ustep ⟨s, l, b⟩ a w tl).2]) := by
  refine Con.of (C := ⟨Tryd.prog, tc, Tryd.f16.ntmps⟩) [] tcok Tryd.func16 rfl rfl (by kernel_rfl) (by kernel_rfl) ?_
  refine AWP.seq ?_
  refine AWP.regionT tcok hmix [] [1, 2, 4, 7, 8, 9] [4, 7, 8] (os := []) (s' := St.mk [(1, tp (vb a)), (2, tp (vb w)), (4, tp (V.ptr 4 0)), (7, tp (V.ptr 7 0)), (8, tp (V.ptr 8 0)), (9, tp (u8 0))] [(4, Blk.mk [u8 s, u8 l, u8 b] true 3 none), (7, Blk.mk [u8 wt, u8 tl] true 2 none), (8, Blk.mk [u8 0, u8 0, u8 0] true 3 none)]) (by kernel_rfl) trivial ?_
  refine AWP.seq ?_
  refine AWP.block ?_
  refine AWP.seq ?_
  refine AWP.regionT tcok hmix [] [1, 2, 4, 7, 8, 9, 10] [4, 7, 8] (os := []) (s' := St.mk [(1, tp (vb a)), (2, tp (vb w)), (4, tp (V.ptr 4 0)), (7, tp (V.ptr 7 0)), (8, tp (V.ptr 8 0)), (9, tp (u8 0)), (10, tp (vb (s == 1 && a)))] [(4, Blk.mk [u8 s, u8 l, u8 b] true 3 none), (7, Blk.mk [u8 wt, u8 tl] true 2 none), (8, Blk.mk [u8 0, u8 0, u8 0] true 3 none)]) (by kernel_rfl) trivial ?_
  refine AWP.cond (b := s == 1 && a) (by kernel_rfl) (fun hq7 => ?_) (fun hq7 => ?_)
  · simp only [Bool.and_eq_true, beq_iff_eq] at hq7
    refine AWP.seq ?_
    refine AWP.regionT tcok hmix [] [4, 8, 9] [4, 8] (os := []) (s' := St.mk [(4, tp (V.ptr 4 0)), (8, tp (V.ptr 8 0)), (9, tp (u8 1))] [(4, Blk.mk [u8 s, u8 l, u8 b] true 3 none), (8, Blk.mk [u8 2, u8 0, u8 0] true 3 none)]) (by kernel_rfl) trivial ?_
    refine AWP.ret ?_
    refine ⟨Or.inr rfl, Eq.trans (b := some ([], V.tup [V.agg true [u8 2, u8 0, u8 0], u8 1])) (by kernel_rfl) ?_⟩
    (simp only [ustep]; (repeat' split) <;> first | rfl | (simp_all; done) | (exfalso; simp_all; done) | (exfalso; simp_all; omega) | (exfalso; omega))
  simp only [Bool.and_eq_false_iff, beq_eq_false_iff_ne] at hq7
  refine AWP.seq ?_
  refine AWP.regionT tcok hmix [] [1, 2, 4, 7, 8, 9, 18] [4, 7, 8] (os := []) (s' := St.mk [(1, tp (vb a)), (2, tp (vb w)), (4, tp (V.ptr 4 0)), (7, tp (V.ptr 7 0)), (8, tp (V.ptr 8 0)), (9, tp (u8 0)), (18, tp (vb (s == 1 && l == 0)))] [(4, Blk.mk [u8 s, u8 l, u8 b] true 3 none), (7, Blk.mk [u8 wt, u8 tl] true 2 none), (8, Blk.mk [u8 0, u8 0, u8 0] true 3 none)]) (by kernel_rfl) trivial ?_
  refine AWP.cond (b := s == 1 && l == 0) (by kernel_rfl) (fun hq8 => ?_) (fun hq8 => ?_)
  · simp only [Bool.and_eq_true, beq_iff_eq] at hq8
    refine AWP.seq ?_
    refine AWP.regionT tcok hmix [] [4, 8, 9] [4, 8] (os := []) (s' := St.mk [(4, tp (V.ptr 4 0)), (8, tp (V.ptr 8 0)), (9, tp (u8 2))] [(4, Blk.mk [u8 s, u8 l, u8 b] true 3 none), (8, Blk.mk [u8 3, u8 0, u8 0] true 3 none)]) (by kernel_rfl) trivial ?_
    refine AWP.ret ?_
    refine ⟨Or.inr rfl, Eq.trans (b := some ([], V.tup [V.agg true [u8 3, u8 0, u8 0], u8 2])) (by kernel_rfl) ?_⟩
    (simp only [ustep]; (repeat' split) <;> first | rfl | (simp_all; done) | (exfalso; simp_all; done) | (exfalso; simp_all; omega) | (exfalso; omega))
  simp only [Bool.and_eq_false_iff, beq_eq_false_iff_ne] at hq8
  refine AWP.seq ?_
  refine AWP.regionT tcok hmix [] [1, 2, 4, 7, 8, 9, 28] [4, 7, 8] (os := []) (s' := St.mk [(1, tp (vb a)), (2, tp (vb w)), (4, tp (V.ptr 4 0)), (7, tp (V.ptr 7 0)), (8, tp (V.ptr 8 0)), (9, tp (u8 0)), (28, tp (vb (s == 1)))] [(4, Blk.mk [u8 s, u8 l, u8 b] true 3 none), (7, Blk.mk [u8 wt, u8 tl] true 2 none), (8, Blk.mk [u8 0, u8 0, u8 0] true 3 none)]) (by kernel_rfl) trivial ?_
  refine AWP.cond (b := s == 1) (by kernel_rfl) (fun hq9 => ?_) (fun hq9 => ?_)
  · simp only [beq_iff_eq] at hq9
    refine AWP.region tcok hmix [(2, ⟨some (u8 (l - 1)), none⟩)] (os := [u8 (IntKind.wrap IntKind.u8 (l - 1)) = u8 (l - 1)]) (sf := St.mk [(1, tp (vb a)), (2, tp (vb w)), (4, tp (V.ptr 4 0)), (7, tp (V.ptr 7 0)), (8, tp (V.ptr 8 0)), (9, tp (u8 0)), (28, tp (vb (s == 1))), (32, tp (V.ptr 4 1)), (33, tp (u8 l)), (34, tp (u8 (l - 1))), (35, tp (V.ptr 4 1))] [(4, Blk.mk [u8 s, u8 (l - 1), u8 b] true 3 none), (7, Blk.mk [u8 wt, u8 tl] true 2 none), (8, Blk.mk [u8 0, u8 0, u8 0] true 3 none)]) (by kernel_rfl) ⟨(wr_u8 (by omega) (by omega)), trivial⟩ ?_
    refine AWP.keep' [4, 8, 9] [4, 8] (sf := St.mk [(4, tp (V.ptr 4 0)), (8, tp (V.ptr 8 0)), (9, tp (u8 0))] [(4, Blk.mk [u8 s, u8 (l - 1), u8 b] true 3 none), (8, Blk.mk [u8 0, u8 0, u8 0] true 3 none)]) (by kernel_rfl) ?_
    refine AWP.seq ?_
    refine AWP.regionT tcok hmix [] [8, 9] [8] (os := []) (s' := St.mk [(8, tp (V.ptr 8 0)), (9, tp (u8 0))] [(8, Blk.mk [u8 s, u8 (l - 1), u8 b] true 3 none)]) (by kernel_rfl) trivial ?_
    refine AWP.ret ?_
    refine ⟨Or.inr rfl, Eq.trans (b := some ([], V.tup [V.agg true [u8 s, u8 (l - 1), u8 b], u8 0])) (by kernel_rfl) ?_⟩
    (simp only [ustep]; (repeat' split) <;> first | rfl | (simp_all; done) | (exfalso; simp_all; done) | (exfalso; simp_all; omega) | (exfalso; omega))
  simp only [beq_eq_false_iff_ne] at hq9
  refine AWP.seq ?_
  refine AWP.regionT tcok hmix [(1, ⟨none, some ⟨vb (decide (s = 2)), [], []⟩⟩)] [4, 7, 8, 9, 36] [4, 7, 8] (os := [Con Tryd.prog 17 [] [V.agg true [u8 s, u8 l, u8 b]] [] (vb (decide (s = 2)))]) (s' := St.mk [(4, tp (V.ptr 4 0)), (7, tp (V.ptr 7 0)), (8, tp (V.ptr 8 0)), (9, tp (u8 0)), (36, tp (vb (decide (s = 2) && a && w)))] [(4, Blk.mk [u8 s, u8 l, u8 b] true 3 none), (7, Blk.mk [u8 wt, u8 tl] true 2 none), (8, Blk.mk [u8 0, u8 0, u8 0] true 3 none)]) (by kernel_rfl) ⟨(con_works (s) (l) (b)), trivial⟩ ?_
  refine AWP.cond (b := decide (s = 2) && a && w) (by kernel_rfl) (fun hq10 => ?_) (fun hq10 => ?_)
  · simp only [decide_eq_true_eq, Bool.and_eq_true] at hq10
    refine AWP.region tcok hmix [] (os := []) (sf := St.mk [(4, tp (V.ptr 4 0)), (7, tp (V.ptr 7 0)), (8, tp (V.ptr 8 0)), (9, tp (u8 0)), (36, tp (vb (decide (s = 2) && a && w))), (45, tp (V.ptr 4 2))] [(4, Blk.mk [u8 s, u8 l, u8 0] true 3 none), (7, Blk.mk [u8 wt, u8 tl] true 2 none), (8, Blk.mk [u8 0, u8 0, u8 0] true 3 none)]) (by kernel_rfl) trivial ?_
    refine AWP.keep' [4, 8, 9] [4, 8] (sf := St.mk [(4, tp (V.ptr 4 0)), (8, tp (V.ptr 8 0)), (9, tp (u8 0))] [(4, Blk.mk [u8 s, u8 l, u8 0] true 3 none), (8, Blk.mk [u8 0, u8 0, u8 0] true 3 none)]) (by kernel_rfl) ?_
    refine AWP.seq ?_
    refine AWP.regionT tcok hmix [] [8, 9] [8] (os := []) (s' := St.mk [(8, tp (V.ptr 8 0)), (9, tp (u8 0))] [(8, Blk.mk [u8 s, u8 l, u8 0] true 3 none)]) (by kernel_rfl) trivial ?_
    refine AWP.ret ?_
    refine ⟨Or.inr rfl, Eq.trans (b := some ([], V.tup [V.agg true [u8 s, u8 l, u8 0], u8 0])) (by kernel_rfl) ?_⟩
    (simp only [ustep]; (repeat' split) <;> first | rfl | (simp_all; done) | (exfalso; simp_all; done) | (exfalso; simp_all; omega) | (exfalso; omega))
  simp only [decide_eq_false_iff_not, Bool.and_eq_false_iff] at hq10
  refine AWP.seq ?_
  refine AWP.regionT tcok hmix [(1, ⟨none, some ⟨vb (decide (s = 2)), [], []⟩⟩)] [4, 8, 9, 46] [4, 8] (os := [Con Tryd.prog 17 [] [V.agg true [u8 s, u8 l, u8 b]] [] (vb (decide (s = 2)))]) (s' := St.mk [(4, tp (V.ptr 4 0)), (8, tp (V.ptr 8 0)), (9, tp (u8 0)), (46, tp (vb (decide (s = 2) && decide (b ≥ tl))))] [(4, Blk.mk [u8 s, u8 l, u8 b] true 3 none), (8, Blk.mk [u8 0, u8 0, u8 0] true 3 none)]) (by kernel_rfl) ⟨(con_works (s) (l) (b)), trivial⟩ ?_
  refine AWP.cond (b := decide (s = 2) && decide (b ≥ tl)) (by kernel_rfl) (fun hq11 => ?_) (fun hq11 => ?_)
  · simp only [decide_eq_true_eq, Bool.and_eq_true] at hq11
    refine AWP.seq ?_
    refine AWP.regionT tcok hmix [] [4, 8, 9] [4, 8] (os := []) (s' := St.mk [(4, tp (V.ptr 4 0)), (8, tp (V.ptr 8 0)), (9, tp (u8 2))] [(4, Blk.mk [u8 s, u8 l, u8 b] true 3 none), (8, Blk.mk [u8 3, u8 0, u8 0] true 3 none)]) (by kernel_rfl) trivial ?_
    refine AWP.ret ?_
    refine ⟨Or.inr rfl, Eq.trans (b := some ([], V.tup [V.agg true [u8 3, u8 0, u8 0], u8 2])) (by kernel_rfl) ?_⟩
    (simp only [ustep]; (repeat' split) <;> first | rfl | (simp_all; done) | (exfalso; simp_all; done) | (exfalso; simp_all; omega) | (exfalso; omega))
  simp only [decide_eq_false_iff_not, Bool.and_eq_false_iff] at hq11
  refine AWP.seq ?_
  refine AWP.regionT tcok hmix [(1, ⟨none, some ⟨vb (decide (s = 2)), [], []⟩⟩)] [4, 8, 9, 57] [4, 8] (os := [Con Tryd.prog 17 [] [V.agg true [u8 s, u8 l, u8 b]] [] (vb (decide (s = 2)))]) (s' := St.mk [(4, tp (V.ptr 4 0)), (8, tp (V.ptr 8 0)), (9, tp (u8 0)), (57, tp (vb (decide (s = 2))))] [(4, Blk.mk [u8 s, u8 l, u8 b] true 3 none), (8, Blk.mk [u8 0, u8 0, u8 0] true 3 none)]) (by kernel_rfl) ⟨(con_works (s) (l) (b)), trivial⟩ ?_
  refine AWP.cond (b := decide (s = 2)) (by kernel_rfl) (fun hq12 => ?_) (fun hq12 => ?_)
  · simp only [decide_eq_true_eq] at hq12
    refine AWP.region tcok hmix [(2, ⟨some (u8 (b + 1)), none⟩)] (os := [u8 (IntKind.wrap IntKind.u8 (b + 1)) = u8 (b + 1)]) (sf := St.mk [(4, tp (V.ptr 4 0)), (8, tp (V.ptr 8 0)), (9, tp (u8 0)), (57, tp (vb (decide (s = 2)))), (60, tp (V.ptr 4 2)), (61, tp (u8 b)), (62, tp (u8 (b + 1))), (63, tp (V.ptr 4 2))] [(4, Blk.mk [u8 s, u8 l, u8 (b + 1)] true 3 none), (8, Blk.mk [u8 0, u8 0, u8 0] true 3 none)]) (by kernel_rfl) ⟨(wr_u8 (by omega) (by omega)), trivial⟩ ?_
    refine AWP.keep' [4, 8, 9] [4, 8] (sf := St.mk [(4, tp (V.ptr 4 0)), (8, tp (V.ptr 8 0)), (9, tp (u8 0))] [(4, Blk.mk [u8 s, u8 l, u8 (b + 1)] true 3 none), (8, Blk.mk [u8 0, u8 0, u8 0] true 3 none)]) (by kernel_rfl) ?_
    refine AWP.seq ?_
    refine AWP.regionT tcok hmix [] [8, 9] [8] (os := []) (s' := St.mk [(8, tp (V.ptr 8 0)), (9, tp (u8 0))] [(8, Blk.mk [u8 s, u8 l, u8 (b + 1)] true 3 none)]) (by kernel_rfl) trivial ?_
    refine AWP.ret ?_
    refine ⟨Or.inr rfl, Eq.trans (b := some ([], V.tup [V.agg true [u8 s, u8 l, u8 (b + 1)], u8 0])) (by kernel_rfl) ?_⟩
    (simp only [ustep]; (repeat' split) <;> first | rfl | (simp_all; done) | (exfalso; simp_all; done) | (exfalso; simp_all; omega) | (exfalso; omega))
  simp only [decide_eq_false_iff_not] at hq12
  refine AWP.skip ?_
  refine AWP.seq ?_
  refine AWP.regionT tcok hmix [] [8, 9] [8] (os := []) (s' := St.mk [(8, tp (V.ptr 8 0)), (9, tp (u8 0))] [(8, Blk.mk [u8 s, u8 l, u8 b] true 3 none)]) (by kernel_rfl) trivial ?_
  refine AWP.ret ?_
  refine ⟨Or.inr rfl, Eq.trans (b := some ([], V.tup [V.agg true [u8 s, u8 l, u8 b], u8 0])) (by kernel_rfl) ?_⟩
  (simp only [ustep]; (repeat' split) <;> first | rfl | (simp_all; done) | (exfalso; simp_all; done) | (exfalso; simp_all; omega) | (exfalso; omega))
theorem con_rorder (s l b wt tl : Int) (on : Bool) (hs : s = 0 ∨ s = 1 ∨ s = 2 ∨ s = 3) : Con Tryd.prog 21 [] [.agg true [u8 s, u8 l, u8 b], vb on, .agg true [u8 wt, u8 tl]] [] (.tup [(uorder ⟨s, l, b⟩ on wt).1.v, vb (uorder ⟨s, l, b⟩ on wt).2]) := by
  refine Con.of (C := ⟨Tryd.prog, tc, Tryd.f21.ntmps⟩) [] tcok Tryd.func21 rfl rfl (by kernel_rfl) (by kernel_rfl) ?_
  refine AWP.seq ?_
  refine AWP.regionT tcok hmix [] [1, 3, 5, 6, 7] [3, 5, 6] (os := []) (s' := St.mk [(1, tp (vb on)), (3, tp (V.ptr 3 0)), (5, tp (V.ptr 5 0)), (6, tp (V.ptr 6 0)), (7, tp (vb false))] [(3, Blk.mk [u8 s, u8 l, u8 b] true 3 none), (5, Blk.mk [u8 wt, u8 tl] true 2 none), (6, Blk.mk [u8 0, u8 0, u8 0] true 3 none)]) (by kernel_rfl) trivial ?_
  refine AWP.seq ?_
  refine AWP.seq ?_
  refine AWP.regionT tcok hmix [] [3, 5, 6, 7, 8] [3, 5, 6] (os := []) (s' := St.mk [(3, tp (V.ptr 3 0)), (5, tp (V.ptr 5 0)), (6, tp (V.ptr 6 0)), (7, tp (vb false)), (8, tp (vb on))] [(3, Blk.mk [u8 s, u8 l, u8 b] true 3 none), (5, Blk.mk [u8 wt, u8 tl] true 2 none), (6, Blk.mk [u8 0, u8 0, u8 0] true 3 none)]) (by kernel_rfl) trivial ?_
  refine AWP.cond (b := on) (by kernel_rfl) (fun hq13 => ?_) (fun hq13 => ?_)
  · refine AWP.seq ?_
    refine AWP.seq ?_
    refine AWP.regionT tcok hmix [] [3, 5, 6, 7, 16] [3, 5, 6] (os := []) (s' := St.mk [(3, tp (V.ptr 3 0)), (5, tp (V.ptr 5 0)), (6, tp (V.ptr 6 0)), (7, tp (vb false)), (16, tp (vb (s == 0 || s == 3)))] [(3, Blk.mk [u8 s, u8 l, u8 b] true 3 none), (5, Blk.mk [u8 wt, u8 tl] true 2 none), (6, Blk.mk [u8 0, u8 0, u8 0] true 3 none)]) (by kernel_rfl) trivial ?_
    refine AWP.cond (b := s == 0 || s == 3) (by kernel_rfl) (fun hq14 => ?_) (fun hq14 => ?_)
    · simp only [Bool.or_eq_true, beq_iff_eq] at hq14
      refine AWP.seq ?_
      refine AWP.regionT tcok hmix [] [3, 6, 7] [3, 6] (os := []) (s' := St.mk [(3, tp (V.ptr 3 0)), (6, tp (V.ptr 6 0)), (7, tp (vb true))] [(3, Blk.mk [u8 s, u8 l, u8 b] true 3 none), (6, Blk.mk [u8 1, u8 wt, u8 0] true 3 none)]) (by kernel_rfl) trivial ?_
      refine AWP.ret ?_
      refine ⟨Or.inr rfl, Eq.trans (b := some ([], V.tup [V.agg true [u8 1, u8 wt, u8 0], vb true])) (by kernel_rfl) ?_⟩
      (rcases hs with rfl | rfl | rfl | rfl <;> simp_all [uorder])
    simp only [Bool.or_eq_false_iff, beq_eq_false_iff_ne] at hq14
    refine AWP.skip ?_
    refine AWP.seq ?_
    refine AWP.regionT tcok hmix [] [3, 6, 7] [3, 6] (os := []) (s' := St.mk [(3, tp (V.ptr 3 0)), (6, tp (V.ptr 6 0)), (7, tp (vb false))] [(3, Blk.mk [u8 s, u8 l, u8 b] true 3 none), (6, Blk.mk [u8 s, u8 l, u8 b] true 3 none)]) (by kernel_rfl) trivial ?_
    refine AWP.ret ?_
    refine ⟨Or.inr rfl, Eq.trans (b := some ([], V.tup [V.agg true [u8 s, u8 l, u8 b], vb false])) (by kernel_rfl) ?_⟩
    (rcases hs with rfl | rfl | rfl | rfl <;> simp_all [uorder])
  refine AWP.skip ?_
  refine AWP.seq ?_
  refine AWP.seq ?_
  refine AWP.regionT tcok hmix [] [3, 6, 7, 23] [3, 6] (os := []) (s' := St.mk [(3, tp (V.ptr 3 0)), (6, tp (V.ptr 6 0)), (7, tp (vb false)), (23, tp (vb (s == 0)))] [(3, Blk.mk [u8 s, u8 l, u8 b] true 3 none), (6, Blk.mk [u8 0, u8 0, u8 0] true 3 none)]) (by kernel_rfl) trivial ?_
  refine AWP.cond (b := s == 0) (by kernel_rfl) (fun hq15 => ?_) (fun hq15 => ?_)
  · simp only [beq_iff_eq] at hq15
    refine AWP.seq ?_
    refine AWP.regionT tcok hmix [] [6, 7] [6] (os := []) (s' := St.mk [(6, tp (V.ptr 6 0)), (7, tp (vb false))] [(6, Blk.mk [u8 s, u8 l, u8 b] true 3 none)]) (by kernel_rfl) trivial ?_
    refine AWP.ret ?_
    refine ⟨Or.inr rfl, Eq.trans (b := some ([], V.tup [V.agg true [u8 s, u8 l, u8 b], vb false])) (by kernel_rfl) ?_⟩
    (rcases hs with rfl | rfl | rfl | rfl <;> simp_all [uorder])
  simp only [beq_eq_false_iff_ne] at hq15
  refine AWP.skip ?_
  refine AWP.seq ?_
  refine AWP.regionT tcok hmix [] [6, 7] [6] (os := []) (s' := St.mk [(6, tp (V.ptr 6 0)), (7, tp (vb true))] [(6, Blk.mk [u8 0, u8 0, u8 0] true 3 none)]) (by kernel_rfl) trivial ?_
  refine AWP.ret ?_
  refine ⟨Or.inr rfl, Eq.trans (b := some ([], V.tup [V.agg true [u8 0, u8 0, u8 0], vb true])) (by kernel_rfl) ?_⟩
  (rcases hs with rfl | rfl | rfl | rfl <;> simp_all [uorder])
theorem con_rustep (s l b wt tl : Int) (a w : Bool) (h : 0 ≤ l ∧ l < 256 ∧ 0 ≤ b ∧ b < 256) (ht : 0 ≤ tl ∧ tl < 256) : Con Tryd.prog 22 [] [.agg true [u8 s, u8 l, u8 b], vb a, vb w, .agg true [u8 wt, u8 tl]] [] (.tup [(ustep ⟨s, l, b⟩ a w tl).1.v, i64 (ustep ⟨s, l, b⟩ a w tl).2]) := by
  refine Con.of (C := ⟨Tryd.prog, tc, Tryd.f22.ntmps⟩) [] tcok Tryd.func22 rfl rfl (by kernel_rfl) (by kernel_rfl) ?_
  refine AWP.seq ?_
  refine AWP.regionT tcok hmix [] [1, 2, 4, 7, 8, 9] [4, 7, 8] (os := []) (s' := St.mk [(1, tp (vb a)), (2, tp (vb w)), (4, tp (V.ptr 4 0)), (7, tp (V.ptr 7 0)), (8, tp (V.ptr 8 0)), (9, tp (i64 0))] [(4, Blk.mk [u8 s, u8 l, u8 b] true 3 none), (7, Blk.mk [u8 wt, u8 tl] true 2 none), (8, Blk.mk [u8 0, u8 0, u8 0] true 3 none)]) (by kernel_rfl) trivial ?_
  refine AWP.seq ?_
  refine AWP.seq ?_
  refine AWP.regionT tcok hmix [] [1, 2, 4, 7, 8, 9, 12] [4, 7, 8] (os := []) (s' := St.mk [(1, tp (vb a)), (2, tp (vb w)), (4, tp (V.ptr 4 0)), (7, tp (V.ptr 7 0)), (8, tp (V.ptr 8 0)), (9, tp (i64 0)), (12, tp (vb (s == 1)))] [(4, Blk.mk [u8 s, u8 l, u8 b] true 3 none), (7, Blk.mk [u8 wt, u8 tl] true 2 none), (8, Blk.mk [u8 0, u8 0, u8 0] true 3 none)]) (by kernel_rfl) trivial ?_
  refine AWP.cond (b := s == 1) (by kernel_rfl) (fun hq16 => ?_) (fun hq16 => ?_)
  · simp only [beq_iff_eq] at hq16
    refine AWP.seq ?_
    refine AWP.seq ?_
    refine AWP.regionT tcok hmix [] [1, 2, 4, 7, 8, 9, 13] [4, 7, 8] (os := []) (s' := St.mk [(1, tp (vb a)), (2, tp (vb w)), (4, tp (V.ptr 4 0)), (7, tp (V.ptr 7 0)), (8, tp (V.ptr 8 0)), (9, tp (i64 0)), (13, tp (vb a))] [(4, Blk.mk [u8 s, u8 l, u8 b] true 3 none), (7, Blk.mk [u8 wt, u8 tl] true 2 none), (8, Blk.mk [u8 0, u8 0, u8 0] true 3 none)]) (by kernel_rfl) trivial ?_
    refine AWP.cond (b := a) (by kernel_rfl) (fun hq17 => ?_) (fun hq17 => ?_)
    · refine AWP.seq ?_
      refine AWP.regionT tcok hmix [] [1, 2, 4, 7, 8, 9] [4, 7, 8] (os := []) (s' := St.mk [(1, tp (vb a)), (2, tp (vb w)), (4, tp (V.ptr 4 0)), (7, tp (V.ptr 7 0)), (8, tp (V.ptr 8 0)), (9, tp (i64 1))] [(4, Blk.mk [u8 s, u8 l, u8 b] true 3 none), (7, Blk.mk [u8 wt, u8 tl] true 2 none), (8, Blk.mk [u8 2, u8 0, u8 0] true 3 none)]) (by kernel_rfl) trivial ?_
      refine AWP.ret ?_
      refine ⟨Or.inr rfl, Eq.trans (b := some ([], V.tup [V.agg true [u8 2, u8 0, u8 0], i64 1])) (by kernel_rfl) ?_⟩
      (simp only [ustep]; (repeat' split) <;> first | rfl | (simp_all; done) | (exfalso; simp_all; done) | (exfalso; simp_all; omega) | (exfalso; omega))
    refine AWP.skip ?_
    refine AWP.seq ?_
    refine AWP.seq ?_
    refine AWP.regionT tcok hmix [] [1, 2, 4, 7, 8, 9, 17] [4, 7, 8] (os := []) (s' := St.mk [(1, tp (vb a)), (2, tp (vb w)), (4, tp (V.ptr 4 0)), (7, tp (V.ptr 7 0)), (8, tp (V.ptr 8 0)), (9, tp (i64 0)), (17, tp (vb (l == 0)))] [(4, Blk.mk [u8 s, u8 l, u8 b] true 3 none), (7, Blk.mk [u8 wt, u8 tl] true 2 none), (8, Blk.mk [u8 0, u8 0, u8 0] true 3 none)]) (by kernel_rfl) trivial ?_
    refine AWP.cond (b := l == 0) (by kernel_rfl) (fun hq18 => ?_) (fun hq18 => ?_)
    · simp only [beq_iff_eq] at hq18
      refine AWP.seq ?_
      refine AWP.regionT tcok hmix [] [1, 2, 4, 7, 8, 9] [4, 7, 8] (os := []) (s' := St.mk [(1, tp (vb a)), (2, tp (vb w)), (4, tp (V.ptr 4 0)), (7, tp (V.ptr 7 0)), (8, tp (V.ptr 8 0)), (9, tp (i64 2))] [(4, Blk.mk [u8 s, u8 l, u8 b] true 3 none), (7, Blk.mk [u8 wt, u8 tl] true 2 none), (8, Blk.mk [u8 3, u8 0, u8 0] true 3 none)]) (by kernel_rfl) trivial ?_
      refine AWP.ret ?_
      refine ⟨Or.inr rfl, Eq.trans (b := some ([], V.tup [V.agg true [u8 3, u8 0, u8 0], i64 2])) (by kernel_rfl) ?_⟩
      (simp only [ustep]; (repeat' split) <;> first | rfl | (simp_all; done) | (exfalso; simp_all; done) | (exfalso; simp_all; omega) | (exfalso; omega))
    simp only [beq_eq_false_iff_ne] at hq18
    refine AWP.skip ?_
    refine AWP.seq ?_
    refine AWP.regionT tcok hmix [(2, ⟨some (u8 (l - 1)), none⟩)] [1, 2, 4, 7, 8, 9] [4, 7, 8] (os := [u8 (IntKind.wrap IntKind.u8 (l - 1)) = u8 (l - 1)]) (s' := St.mk [(1, tp (vb a)), (2, tp (vb w)), (4, tp (V.ptr 4 0)), (7, tp (V.ptr 7 0)), (8, tp (V.ptr 8 0)), (9, tp (i64 0))] [(4, Blk.mk [u8 s, u8 l, u8 b] true 3 none), (7, Blk.mk [u8 wt, u8 tl] true 2 none), (8, Blk.mk [u8 1, u8 (l - 1), u8 b] true 3 none)]) (by kernel_rfl) ⟨(wr_u8 (by omega) (by omega)), trivial⟩ ?_
    refine AWP.ret ?_
    refine ⟨Or.inr rfl, Eq.trans (b := some ([], V.tup [V.agg true [u8 1, u8 (l - 1), u8 b], i64 0])) (by kernel_rfl) ?_⟩
    (simp only [ustep]; (repeat' split) <;> first | rfl | (simp_all; done) | (exfalso; simp_all; done) | (exfalso; simp_all; omega) | (exfalso; omega))
  simp only [beq_eq_false_iff_ne] at hq16
  refine AWP.skip ?_
  refine AWP.seq ?_
  refine AWP.seq ?_
  refine AWP.regionT tcok hmix [] [1, 2, 4, 7, 8, 9, 27] [4, 7, 8] (os := []) (s' := St.mk [(1, tp (vb a)), (2, tp (vb w)), (4, tp (V.ptr 4 0)), (7, tp (V.ptr 7 0)), (8, tp (V.ptr 8 0)), (9, tp (i64 0)), (27, tp (vb (s == 2)))] [(4, Blk.mk [u8 s, u8 l, u8 b] true 3 none), (7, Blk.mk [u8 wt, u8 tl] true 2 none), (8, Blk.mk [u8 0, u8 0, u8 0] true 3 none)]) (by kernel_rfl) trivial ?_
  refine AWP.cond (b := s == 2) (by kernel_rfl) (fun hq19 => ?_) (fun hq19 => ?_)
  · simp only [beq_iff_eq] at hq19
    refine AWP.seq ?_
    refine AWP.seq ?_
    refine AWP.regionT tcok hmix [] [4, 7, 8, 9, 31] [4, 7, 8] (os := []) (s' := St.mk [(4, tp (V.ptr 4 0)), (7, tp (V.ptr 7 0)), (8, tp (V.ptr 8 0)), (9, tp (i64 0)), (31, tp (vb (a && w)))] [(4, Blk.mk [u8 s, u8 l, u8 b] true 3 none), (7, Blk.mk [u8 wt, u8 tl] true 2 none), (8, Blk.mk [u8 0, u8 0, u8 0] true 3 none)]) (by kernel_rfl) trivial ?_
    refine AWP.cond (b := a && w) (by kernel_rfl) (fun hq20 => ?_) (fun hq20 => ?_)
    · simp only [Bool.and_eq_true] at hq20
      refine AWP.seq ?_
      refine AWP.regionT tcok hmix [] [4, 7, 8, 9] [4, 7, 8] (os := []) (s' := St.mk [(4, tp (V.ptr 4 0)), (7, tp (V.ptr 7 0)), (8, tp (V.ptr 8 0)), (9, tp (i64 0))] [(4, Blk.mk [u8 s, u8 l, u8 b] true 3 none), (7, Blk.mk [u8 wt, u8 tl] true 2 none), (8, Blk.mk [u8 2, u8 l, u8 0] true 3 none)]) (by kernel_rfl) trivial ?_
      refine AWP.ret ?_
      refine ⟨Or.inr rfl, Eq.trans (b := some ([], V.tup [V.agg true [u8 2, u8 l, u8 0], i64 0])) (by kernel_rfl) ?_⟩
      (simp only [ustep]; (repeat' split) <;> first | rfl | (simp_all; done) | (exfalso; simp_all; done) | (exfalso; simp_all; omega) | (exfalso; omega))
    simp only [Bool.and_eq_false_iff] at hq20
    refine AWP.skip ?_
    refine AWP.seq ?_
    refine AWP.seq ?_
    refine AWP.regionT tcok hmix [(2, ⟨some (i64 b), none⟩), (3, ⟨some (i64 (b + 1)), none⟩), (6, ⟨some (i64 tl), none⟩)] [4, 8, 9, 42] [4, 8] (os := [i64 (IntKind.wrap IntKind.i64 b) = i64 b, i64 (IntKind.wrap IntKind.i64 (b + 1)) = i64 (b + 1), i64 (IntKind.wrap IntKind.i64 tl) = i64 tl]) (s' := St.mk [(4, tp (V.ptr 4 0)), (8, tp (V.ptr 8 0)), (9, tp (i64 0)), (42, tp (vb (decide (b + 1 > tl))))] [(4, Blk.mk [u8 s, u8 l, u8 b] true 3 none), (8, Blk.mk [u8 0, u8 0, u8 0] true 3 none)]) (by kernel_rfl) ⟨(wr_i64 (by omega) (by omega)), (wr_i64 (by omega) (by omega)), (wr_i64 (by omega) (by omega)), trivial⟩ ?_
    refine AWP.cond (b := decide (b + 1 > tl)) (by kernel_rfl) (fun hq21 => ?_) (fun hq21 => ?_)
    · simp only [decide_eq_true_eq] at hq21
      refine AWP.seq ?_
      refine AWP.regionT tcok hmix [] [4, 8, 9] [4, 8] (os := []) (s' := St.mk [(4, tp (V.ptr 4 0)), (8, tp (V.ptr 8 0)), (9, tp (i64 2))] [(4, Blk.mk [u8 s, u8 l, u8 b] true 3 none), (8, Blk.mk [u8 3, u8 0, u8 0] true 3 none)]) (by kernel_rfl) trivial ?_
      refine AWP.ret ?_
      refine ⟨Or.inr rfl, Eq.trans (b := some ([], V.tup [V.agg true [u8 3, u8 0, u8 0], i64 2])) (by kernel_rfl) ?_⟩
      (simp only [ustep]; (repeat' split) <;> first | rfl | (simp_all; done) | (exfalso; simp_all; done) | (exfalso; simp_all; omega) | (exfalso; omega))
    simp only [decide_eq_false_iff_not] at hq21
    refine AWP.skip ?_
    refine AWP.seq ?_
    refine AWP.regionT tcok hmix [(4, ⟨some (u8 (b + 1)), none⟩)] [4, 8, 9] [4, 8] (os := [u8 (IntKind.wrap IntKind.u8 (b + 1)) = u8 (b + 1)]) (s' := St.mk [(4, tp (V.ptr 4 0)), (8, tp (V.ptr 8 0)), (9, tp (i64 0))] [(4, Blk.mk [u8 s, u8 l, u8 b] true 3 none), (8, Blk.mk [u8 2, u8 l, u8 (b + 1)] true 3 none)]) (by kernel_rfl) ⟨(wr_u8 (by omega) (by omega)), trivial⟩ ?_
    refine AWP.ret ?_
    refine ⟨Or.inr rfl, Eq.trans (b := some ([], V.tup [V.agg true [u8 2, u8 l, u8 (b + 1)], i64 0])) (by kernel_rfl) ?_⟩
    (simp only [ustep]; (repeat' split) <;> first | rfl | (simp_all; done) | (exfalso; simp_all; done) | (exfalso; simp_all; omega) | (exfalso; omega))
  simp only [beq_eq_false_iff_ne] at hq19
  refine AWP.skip ?_
  refine AWP.seq ?_
  refine AWP.regionT tcok hmix [] [8, 9] [8] (os := []) (s' := St.mk [(8, tp (V.ptr 8 0)), (9, tp (i64 0))] [(8, Blk.mk [u8 s, u8 l, u8 b] true 3 none)]) (by kernel_rfl) trivial ?_
  refine AWP.ret ?_
  refine ⟨Or.inr rfl, Eq.trans (b := some ([], V.tup [V.agg true [u8 s, u8 l, u8 b], i64 0])) (by kernel_rfl) ?_⟩
  (simp only [ustep]; (repeat' split) <;> first | rfl | (simp_all; done) | (exfalso; simp_all; done) | (exfalso; simp_all; omega) | (exfalso; omega))
theorem con_st1_ack (l b wt tl : Int) (w : Bool) (h : 0 ≤ l ∧ l < 256 ∧ 0 ≤ b ∧ b < 256) (ht : 0 ≤ tl ∧ tl < 256) : Con Tryd.prog 16 [] [.agg true [u8 1, u8 l, u8 b], vb true, vb w, .agg true [u8 wt, u8 tl]] [] (.tup [.agg true [u8 2, u8 0, u8 0], u8 1]) := by
  have := con_ustep 1 l b wt tl true w (by omega) ht
  simpa [ustep] using this
theorem con_st1_last (b wt tl : Int) (w : Bool) (h : 0 ≤ b ∧ b < 256) (ht : 0 ≤ tl ∧ tl < 256) : Con Tryd.prog 16 [] [.agg true [u8 1, u8 0, u8 b], vb false, vb w, .agg true [u8 wt, u8 tl]] [] (.tup [.agg true [u8 3, u8 0, u8 0], u8 2]) := by
  have := con_ustep 1 0 b wt tl false w (by omega) ht
  simpa [ustep] using this
theorem con_st1_more (l b wt tl : Int) (w : Bool) (hl : l ≠ 0) (h : 0 ≤ l ∧ l < 256 ∧ 0 ≤ b ∧ b < 256) (ht : 0 ≤ tl ∧ tl < 256) : Con Tryd.prog 16 [] [.agg true [u8 1, u8 l, u8 b], vb false, vb w, .agg true [u8 wt, u8 tl]] [] (.tup [.agg true [u8 1, u8 (l - 1), u8 b], u8 0]) := by
  have := con_ustep 1 l b wt tl false w (by omega) ht
  simpa [ustep, hl] using this
theorem con_st2_well (l b wt tl : Int) (h : 0 ≤ l ∧ l < 256 ∧ 0 ≤ b ∧ b < 256) (ht : 0 ≤ tl ∧ tl < 256) : Con Tryd.prog 16 [] [.agg true [u8 2, u8 l, u8 b], vb true, vb true, .agg true [u8 wt, u8 tl]] [] (.tup [.agg true [u8 2, u8 l, u8 0], u8 0]) := by
  have := con_ustep 2 l b wt tl true true (by omega) ht
  simpa [ustep] using this
theorem con_st2_lost0 (l b wt tl : Int) (hb : b ≥ tl) (h : 0 ≤ l ∧ l < 256 ∧ 0 ≤ b ∧ b < 256) (ht : 0 ≤ tl ∧ tl < 256) : Con Tryd.prog 16 [] [.agg true [u8 2, u8 l, u8 b], vb true, vb false, .agg true [u8 wt, u8 tl]] [] (.tup [.agg true [u8 3, u8 0, u8 0], u8 2]) := by
  have := con_ustep 2 l b wt tl true false (by omega) ht
  simpa [ustep, hb] using this
theorem con_st2_bad0 (l b wt tl : Int) (hb : b < tl) (h : 0 ≤ l ∧ l < 256 ∧ 0 ≤ b ∧ b < 256) (ht : 0 ≤ tl ∧ tl < 256) : Con Tryd.prog 16 [] [.agg true [u8 2, u8 l, u8 b], vb true, vb false, .agg true [u8 wt, u8 tl]] [] (.tup [.agg true [u8 2, u8 l, u8 (b + 1)], u8 0]) := by
  have := con_ustep 2 l b wt tl true false (by omega) ht
  simpa [ustep, show ¬ tl ≤ b by omega] using this
theorem con_st2_lost1 (l b wt tl : Int) (w : Bool) (hb : b ≥ tl) (h : 0 ≤ l ∧ l < 256 ∧ 0 ≤ b ∧ b < 256) (ht : 0 ≤ tl ∧ tl < 256) : Con Tryd.prog 16 [] [.agg true [u8 2, u8 l, u8 b], vb false, vb w, .agg true [u8 wt, u8 tl]] [] (.tup [.agg true [u8 3, u8 0, u8 0], u8 2]) := by
  have := con_ustep 2 l b wt tl false w (by omega) ht
  simpa [ustep, hb] using this
theorem con_st2_bad1 (l b wt tl : Int) (w : Bool) (hb : b < tl) (h : 0 ≤ l ∧ l < 256 ∧ 0 ≤ b ∧ b < 256) (ht : 0 ≤ tl ∧ tl < 256) : Con Tryd.prog 16 [] [.agg true [u8 2, u8 l, u8 b], vb false, vb w, .agg true [u8 wt, u8 tl]] [] (.tup [.agg true [u8 2, u8 l, u8 (b + 1)], u8 0]) := by
  have := con_ustep 2 l b wt tl false w (by omega) ht
  simpa [ustep, show ¬ tl ≤ b by omega] using this
theorem con_st0 (l b wt tl : Int) (a w : Bool) (h : 0 ≤ l ∧ l < 256 ∧ 0 ≤ b ∧ b < 256) (ht : 0 ≤ tl ∧ tl < 256) : Con Tryd.prog 16 [] [.agg true [u8 0, u8 l, u8 b], vb a, vb w, .agg true [u8 wt, u8 tl]] [] (.tup [.agg true [u8 0, u8 l, u8 b], u8 0]) := by
  have := con_ustep 0 l b wt tl a w (by omega) ht
  simpa [ustep] using this
theorem con_st3 (l b wt tl : Int) (a w : Bool) (h : 0 ≤ l ∧ l < 256 ∧ 0 ≤ b ∧ b < 256) (ht : 0 ≤ tl ∧ tl < 256) : Con Tryd.prog 16 [] [.agg true [u8 3, u8 l, u8 b], vb a, vb w, .agg true [u8 wt, u8 tl]] [] (.tup [.agg true [u8 3, u8 l, u8 b], u8 0]) := by
  have := con_ustep 3 l b wt tl a w (by omega) ht
  simpa [ustep] using this
theorem con_rst1_ack (l b wt tl : Int) (w : Bool) (h : 0 ≤ l ∧ l < 256 ∧ 0 ≤ b ∧ b < 256) (ht : 0 ≤ tl ∧ tl < 256) : Con Tryd.prog 22 [] [.agg true [u8 1, u8 l, u8 b], vb true, vb w, .agg true [u8 wt, u8 tl]] [] (.tup [.agg true [u8 2, u8 0, u8 0], i64 1]) := by
  have := con_rustep 1 l b wt tl true w (by omega) ht
  simpa [ustep] using this
theorem con_rst1_last (b wt tl : Int) (w : Bool) (h : 0 ≤ b ∧ b < 256) (ht : 0 ≤ tl ∧ tl < 256) : Con Tryd.prog 22 [] [.agg true [u8 1, u8 0, u8 b], vb false, vb w, .agg true [u8 wt, u8 tl]] [] (.tup [.agg true [u8 3, u8 0, u8 0], i64 2]) := by
  have := con_rustep 1 0 b wt tl false w (by omega) ht
  simpa [ustep] using this
theorem con_rst1_more (l b wt tl : Int) (w : Bool) (hl : l ≠ 0) (h : 0 ≤ l ∧ l < 256 ∧ 0 ≤ b ∧ b < 256) (ht : 0 ≤ tl ∧ tl < 256) : Con Tryd.prog 22 [] [.agg true [u8 1, u8 l, u8 b], vb false, vb w, .agg true [u8 wt, u8 tl]] [] (.tup [.agg true [u8 1, u8 (l - 1), u8 b], i64 0]) := by
  have := con_rustep 1 l b wt tl false w (by omega) ht
  simpa [ustep, hl] using this
theorem con_rst2_well (l b wt tl : Int) (h : 0 ≤ l ∧ l < 256 ∧ 0 ≤ b ∧ b < 256) (ht : 0 ≤ tl ∧ tl < 256) : Con Tryd.prog 22 [] [.agg true [u8 2, u8 l, u8 b], vb true, vb true, .agg true [u8 wt, u8 tl]] [] (.tup [.agg true [u8 2, u8 l, u8 0], i64 0]) := by
  have := con_rustep 2 l b wt tl true true (by omega) ht
  simpa [ustep] using this
theorem con_rst2_lost0 (l b wt tl : Int) (hb : b ≥ tl) (h : 0 ≤ l ∧ l < 256 ∧ 0 ≤ b ∧ b < 256) (ht : 0 ≤ tl ∧ tl < 256) : Con Tryd.prog 22 [] [.agg true [u8 2, u8 l, u8 b], vb true, vb false, .agg true [u8 wt, u8 tl]] [] (.tup [.agg true [u8 3, u8 0, u8 0], i64 2]) := by
  have := con_rustep 2 l b wt tl true false (by omega) ht
  simpa [ustep, hb] using this
theorem con_rst2_bad0 (l b wt tl : Int) (hb : b < tl) (h : 0 ≤ l ∧ l < 256 ∧ 0 ≤ b ∧ b < 256) (ht : 0 ≤ tl ∧ tl < 256) : Con Tryd.prog 22 [] [.agg true [u8 2, u8 l, u8 b], vb true, vb false, .agg true [u8 wt, u8 tl]] [] (.tup [.agg true [u8 2, u8 l, u8 (b + 1)], i64 0]) := by
  have := con_rustep 2 l b wt tl true false (by omega) ht
  simpa [ustep, show ¬ tl ≤ b by omega] using this
theorem con_rst2_lost1 (l b wt tl : Int) (w : Bool) (hb : b ≥ tl) (h : 0 ≤ l ∧ l < 256 ∧ 0 ≤ b ∧ b < 256) (ht : 0 ≤ tl ∧ tl < 256) : Con Tryd.prog 22 [] [.agg true [u8 2, u8 l, u8 b], vb false, vb w, .agg true [u8 wt, u8 tl]] [] (.tup [.agg true [u8 3, u8 0, u8 0], i64 2]) := by
  have := con_rustep 2 l b wt tl false w (by omega) ht
  simpa [ustep, hb] using this
theorem con_rst2_bad1 (l b wt tl : Int) (w : Bool) (hb : b < tl) (h : 0 ≤ l ∧ l < 256 ∧ 0 ≤ b ∧ b < 256) (ht : 0 ≤ tl ∧ tl < 256) : Con Tryd.prog 22 [] [.agg true [u8 2, u8 l, u8 b], vb false, vb w, .agg true [u8 wt, u8 tl]] [] (.tup [.agg true [u8 2, u8 l, u8 (b + 1)], i64 0]) := by
  have := con_rustep 2 l b wt tl false w (by omega) ht
  simpa [ustep, show ¬ tl ≤ b by omega] using this
theorem con_rst0 (l b wt tl : Int) (a w : Bool) (h : 0 ≤ l ∧ l < 256 ∧ 0 ≤ b ∧ b < 256) (ht : 0 ≤ tl ∧ tl < 256) : Con Tryd.prog 22 [] [.agg true [u8 0, u8 l, u8 b], vb a, vb w, .agg true [u8 wt, u8 tl]] [] (.tup [.agg true [u8 0, u8 l, u8 b], i64 0]) := by
  have := con_rustep 0 l b wt tl a w (by omega) ht
  simpa [ustep] using this
theorem con_rst3 (l b wt tl : Int) (a w : Bool) (h : 0 ≤ l ∧ l < 256 ∧ 0 ≤ b ∧ b < 256) (ht : 0 ≤ tl ∧ tl < 256) : Con Tryd.prog 22 [] [.agg true [u8 3, u8 l, u8 b], vb a, vb w, .agg true [u8 wt, u8 tl]] [] (.tup [.agg true [u8 3, u8 l, u8 b], i64 0]) := by
  have := con_rustep 3 l b wt tl a w (by omega) ht
  simpa [ustep] using this
theorem con_uright_y (s l b wt tl : Int) (h : s ≤ 3 ∧ (s = 1 → l ≤ wt) ∧ (s ≠ 1 → l ≤ 0) ∧ (s = 2 → b ≤ tl) ∧ (s ≠ 2 → b ≤ 0)) : Con Tryd.prog 23 [] [.agg true [u8 s, u8 l, u8 b], .agg true [u8 wt, u8 tl]] [] (vb true) := by
  have := con_uright s l b wt tl
  rwa [show uright ⟨s, l, b⟩ wt tl = true by
    obtain ⟨h1, h2, h3, h4, h5⟩ := h
    unfold uright
    simp only [Bool.and_eq_true, decide_eq_true_eq]
    refine ⟨h1, ?_, ?_⟩ <;> split <;> simp_all] at this
theorem con_uord_on (s l b wt tl : Int) (hs : s = 0 ∨ s = 1 ∨ s = 2 ∨ s = 3) (h : s = 0 ∨ s = 3) : Con Tryd.prog 15 [] [.agg true [u8 s, u8 l, u8 b], vb true, .agg true [u8 wt, u8 tl]] [] (.tup [.agg true [u8 1, u8 wt, u8 0], vb true]) := by
  have := con_uorder s l b wt tl true
  rcases h with rfl | rfl <;> simpa [uorder] using this
theorem con_uord_stay (s l b wt tl : Int) (hs : s = 0 ∨ s = 1 ∨ s = 2 ∨ s = 3) (h : s = 1 ∨ s = 2) : Con Tryd.prog 15 [] [.agg true [u8 s, u8 l, u8 b], vb true, .agg true [u8 wt, u8 tl]] [] (.tup [.agg true [u8 s, u8 l, u8 b], vb false]) := by
  have := con_uorder s l b wt tl true
  rcases h with rfl | rfl <;> simpa [uorder] using this
theorem con_uord_off (s l b wt tl : Int) (hs : s = 0 ∨ s = 1 ∨ s = 2 ∨ s = 3) (h : s ≠ 0) : Con Tryd.prog 15 [] [.agg true [u8 s, u8 l, u8 b], vb false, .agg true [u8 wt, u8 tl]] [] (.tup [.agg true [u8 0, u8 0, u8 0], vb true]) := by
  have := con_uorder s l b wt tl false
  simpa [uorder, h] using this
theorem con_uord_rest (l b wt tl : Int) : Con Tryd.prog 15 [] [.agg true [u8 0, u8 l, u8 b], vb false, .agg true [u8 wt, u8 tl]] [] (.tup [.agg true [u8 0, u8 l, u8 b], vb false]) := by
  have := con_uorder 0 l b wt tl false
  simpa [uorder] using this
theorem con_rord_on (s l b wt tl : Int) (hs : s = 0 ∨ s = 1 ∨ s = 2 ∨ s = 3) (h : s = 0 ∨ s = 3) : Con Tryd.prog 21 [] [.agg true [u8 s, u8 l, u8 b], vb true, .agg true [u8 wt, u8 tl]] [] (.tup [.agg true [u8 1, u8 wt, u8 0], vb true]) := by
  have := con_rorder s l b wt tl true hs
  rcases h with rfl | rfl <;> simpa [uorder] using this
theorem con_rord_stay (s l b wt tl : Int) (hs : s = 0 ∨ s = 1 ∨ s = 2 ∨ s = 3) (h : s = 1 ∨ s = 2) : Con Tryd.prog 21 [] [.agg true [u8 s, u8 l, u8 b], vb true, .agg true [u8 wt, u8 tl]] [] (.tup [.agg true [u8 s, u8 l, u8 b], vb false]) := by
  have := con_rorder s l b wt tl true hs
  rcases h with rfl | rfl <;> simpa [uorder] using this
theorem con_rord_off (s l b wt tl : Int) (hs : s = 0 ∨ s = 1 ∨ s = 2 ∨ s = 3) (h : s ≠ 0) : Con Tryd.prog 21 [] [.agg true [u8 s, u8 l, u8 b], vb false, .agg true [u8 wt, u8 tl]] [] (.tup [.agg true [u8 0, u8 0, u8 0], vb true]) := by
  have := con_rorder s l b wt tl false hs
  simpa [uorder, h] using this
theorem con_rord_rest (l b wt tl : Int) : Con Tryd.prog 21 [] [.agg true [u8 0, u8 l, u8 b], vb false, .agg true [u8 wt, u8 tl]] [] (.tup [.agg true [u8 0, u8 l, u8 b], vb false]) := by
  have := con_rorder 0 l b wt tl false (.inl rfl)
  simpa [uorder] using this
theorem con_p1_ack (a : Bool) (l b wt tl : Int) (w : Bool) (ha : a = true) (h : 0 ≤ l ∧ l < 256 ∧ 0 ≤ b ∧ b < 256) (ht : 0 ≤ tl ∧ tl < 256) : Con Tryd.prog 16 [] [.agg true [u8 1, u8 l, u8 b], vb a, vb w, .agg true [u8 wt, u8 tl]] [] (.tup [.agg true [u8 2, u8 0, u8 0], u8 1]) := by
  subst ha
  exact con_st1_ack l b wt tl w h ht
theorem con_p1_last (a : Bool) (b wt tl : Int) (w : Bool) (ha : a = false) (h : 0 ≤ b ∧ b < 256) (ht : 0 ≤ tl ∧ tl < 256) : Con Tryd.prog 16 [] [.agg true [u8 1, u8 0, u8 b], vb a, vb w, .agg true [u8 wt, u8 tl]] [] (.tup [.agg true [u8 3, u8 0, u8 0], u8 2]) := by
  subst ha
  exact con_st1_last b wt tl w h ht
theorem con_p1_more (a : Bool) (l b wt tl : Int) (w : Bool) (ha : a = false) (hl : l ≠ 0) (h : 0 ≤ l ∧ l < 256 ∧ 0 ≤ b ∧ b < 256) (ht : 0 ≤ tl ∧ tl < 256) : Con Tryd.prog 16 [] [.agg true [u8 1, u8 l, u8 b], vb a, vb w, .agg true [u8 wt, u8 tl]] [] (.tup [.agg true [u8 1, u8 (l - 1), u8 b], u8 0]) := by
  subst ha
  exact con_st1_more l b wt tl w hl h ht
theorem con_awake13 : Con Tryd.prog 14 [] [] [] (vb true) := run_con tcok (by kernel_rfl) 400 8 (by kernel_rfl)
end Go.Proofs.YtklbonfbiakebaaDoor
