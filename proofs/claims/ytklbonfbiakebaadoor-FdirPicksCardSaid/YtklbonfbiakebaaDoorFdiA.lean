/- Package fdir and the document's answer: what each function returns. -/
import Derived.Test.YtklbonfbiakebaaDoorTc
import Derived.Test.YtklbonfbiakebaaDoorAb26
namespace Go.Proofs.YtklbonfbiakebaaDoor
open Go.Ab
set_option linter.unusedSimpArgs false
set_option linter.unusedVariables false
structure F5 where
  a0 : Int
  a1 : Int
  a2 : Int
  a3 : Int
  a4 : Int
abbrev ladV (l c : F5) : V := .agg true [u8 l.a0, u8 l.a1, u8 l.a2, u8 l.a3, u8 l.a4, u8 c.a0, u8 c.a1, u8 c.a2, u8 c.a3, u8 c.a4]
abbrev f5V (l : F5) : V := .agg true [u8 l.a0, u8 l.a1, u8 l.a2, u8 l.a3, u8 l.a4]
def F5.ok (f : F5) : Prop := 0 ≤ f.a0 ∧ f.a0 < 256 ∧ 0 ≤ f.a1 ∧ f.a1 < 256 ∧ 0 ≤ f.a2 ∧ f.a2 < 256 ∧ 0 ≤ f.a3 ∧ f.a3 < 256 ∧ 0 ≤ f.a4 ∧ f.a4 < 256
def F5.get (f : F5) (n : Int) : Int := if n = 0 then f.a0 else if n = 1 then f.a1 else if n = 2 then f.a2 else if n = 3 then f.a3 else f.a4
def up8 (n : Int) : Int := if n < 255 then n + 1 else n
def F5.inc (f : F5) (n : Int) : F5 := ⟨if n = 0 then up8 f.a0 else f.a0, if n = 1 then up8 f.a1 else f.a1, if n = 2 then up8 f.a2 else f.a2, if n = 3 then up8 f.a3 else f.a3, if n = 4 then up8 f.a4 else f.a4⟩
def F5.clr (f : F5) (n : Int) : F5 := ⟨if n = 0 then 0 else f.a0, if n = 1 then 0 else f.a1, if n = 2 then 0 else f.a2, if n = 3 then 0 else f.a3, if n = 4 then 0 else f.a4⟩
/-- Isn't this level inhibited? -/
def al (inh n : Int) : Bool := decide (inh / 2 ^ n.toNat % 2 = 0)
def lev (inh : Int) (l c : F5) : Nat → Int → Int → Int
  | 0, _, k => k
  | f + 1, n, k => if al inh n = true then (if c.get n < l.get n then n else lev inh l c f (n + 1) n) else lev inh l c f (n + 1) k
def aright (lv un : Int) : Bool := decide (lv < 5) && (decide (un ≥ -1) && decide (un < 16))
def lvl (inh : Int) (l c : F5) (lv un : Int) : Int := if aright lv un = true then lev inh l c (5 - lv).toNat lv (-1) else -1
theorem con_aright (lv un ev : Int) : Con Tryd.prog 38 [] [.agg true [u8 lv, i64 un, u8 ev]] [] (vb (aright lv un)) := by
  refine Con.of (C := ⟨Tryd.prog, tc, Tryd.f38.ntmps⟩) [] tcok Tryd.func38 rfl rfl (by kernel_rfl) (by kernel_rfl) ?_
  refine AWP.seq ?_
  refine AWP.regionT tcok hmix [] [1, 2] [1] (os := []) (s' := St.mk [(1, tp (V.ptr 1 0)), (2, tp (vb false))] [(1, Blk.mk [u8 lv, i64 un, u8 ev] true 3 none)]) (by kernel_rfl) trivial ?_
  refine AWP.seq ?_
  refine AWP.regionT tcok hmix [] [2] [] (os := []) (s' := St.mk [(2, tp (vb (decide (lv < 5) && decide (un ≥ -1) && decide (un < 16))))] []) (by kernel_rfl) trivial ?_
  refine AWP.ret ?_
  refine ⟨Or.inr rfl, Eq.trans (b := some ([], vb (decide (lv < 5) && decide (un ≥ -1) && decide (un < 16)))) (by kernel_rfl) ?_⟩
  (simp [aright, Bool.and_assoc])
theorem iand1 (x : Int) (h : 0 ≤ x ∧ x < 256) : iand .u8 x 1 = x % 2 := by
  have key : ∀ n : Fin 256, iand .u8 ((n.val : Nat) : Int) 1 = ((n.val : Nat) : Int) % 2 := by decide +kernel
  have := key ⟨x.toNat, by omega⟩
  simpa [show ((x.toNat : Nat) : Int) = x by omega] using this
theorem con_allowed (inh n : Int) (hi : 0 ≤ inh ∧ inh < 256) (hn : n = 0 ∨ n = 1 ∨ n = 2 ∨ n = 3 ∨ n = 4) : Con Tryd.prog 40 [] [u8 inh, u8 n] [] (vb (al inh n)) := by
  rcases hn with rfl | rfl | rfl | rfl | rfl
  all_goals
    refine Con.of (C := ⟨Tryd.prog, tc, Tryd.f40.ntmps⟩) [] tcok Tryd.func40 rfl rfl (by kernel_rfl) (by kernel_rfl) ?_
  · refine AWP.seq ?_
    refine AWP.regionT tcok hmix [] [0, 1, 4] [] (os := []) (s' := St.mk [(0, tp (u8 inh)), (1, tp (u8 0)), (4, tp (vb false))] []) (by kernel_rfl) trivial ?_
    refine AWP.seq ?_
    refine AWP.regionT tcok hmix [(5, ⟨some (u8 (inh / 1)), none⟩)] [4] [] (os := [true = true → (0 : Int) ≤ (0 : Int) ∧ u8 (ishr IntKind.u8 inh (0 : Int)) = u8 (inh / (1 : Int)) ∧ True]) (s' := St.mk [(4, tp (vb (true && iand IntKind.u8 (inh / 1) 1 == 0)))] []) (by kernel_rfl) ⟨(by intro hc0; first | (cases hc0; done) | (try simp only [Bool.or_false, Bool.false_or, Bool.true_and, Bool.and_true, decide_eq_true_eq, decide_eq_false_iff_not, Bool.and_eq_true, Bool.or_eq_true, Bool.or_eq_false_iff, Bool.not_eq_true', Bool.and_eq_false_iff, beq_iff_eq, bne_iff_ne, bne_eq_false_iff_eq, beq_eq_false_iff_ne, Bool.not_eq_false'] at hc0; exact ⟨(by omega), (shr_eq rfl (by decide)), trivial⟩)), trivial⟩ ?_
    refine AWP.ret ?_
    refine ⟨Or.inr rfl, Eq.trans (b := some ([], vb (true && iand IntKind.u8 (inh / 1) 1 == 0))) (by kernel_rfl) ?_⟩
    (rw [iand1 _ (by omega)]; first | (refine congrArg (fun b => some (([] : List (Nat × Blk)), vb b)) ?_; simp only [al, Bool.true_and]; apply Bool.eq_iff_iff.2; simp; done) | (refine congrArg (fun b => some (([] : List (Nat × Blk)), vb b)) ?_; simp only [al, Bool.true_and]; apply Bool.eq_iff_iff.2; simp; omega))
  · refine AWP.seq ?_
    refine AWP.regionT tcok hmix [] [0, 1, 4] [] (os := []) (s' := St.mk [(0, tp (u8 inh)), (1, tp (u8 1)), (4, tp (vb false))] []) (by kernel_rfl) trivial ?_
    refine AWP.seq ?_
    refine AWP.regionT tcok hmix [(5, ⟨some (u8 (inh / 2)), none⟩)] [4] [] (os := [true = true → (0 : Int) ≤ (1 : Int) ∧ u8 (ishr IntKind.u8 inh (1 : Int)) = u8 (inh / (2 : Int)) ∧ True]) (s' := St.mk [(4, tp (vb (true && iand IntKind.u8 (inh / 2) 1 == 0)))] []) (by kernel_rfl) ⟨(by intro hc0; first | (cases hc0; done) | (try simp only [Bool.or_false, Bool.false_or, Bool.true_and, Bool.and_true, decide_eq_true_eq, decide_eq_false_iff_not, Bool.and_eq_true, Bool.or_eq_true, Bool.or_eq_false_iff, Bool.not_eq_true', Bool.and_eq_false_iff, beq_iff_eq, bne_iff_ne, bne_eq_false_iff_eq, beq_eq_false_iff_ne, Bool.not_eq_false'] at hc0; exact ⟨(by omega), (shr_eq rfl (by decide)), trivial⟩)), trivial⟩ ?_
    refine AWP.ret ?_
    refine ⟨Or.inr rfl, Eq.trans (b := some ([], vb (true && iand IntKind.u8 (inh / 2) 1 == 0))) (by kernel_rfl) ?_⟩
    (rw [iand1 _ (by omega)]; first | (refine congrArg (fun b => some (([] : List (Nat × Blk)), vb b)) ?_; simp only [al, Bool.true_and]; apply Bool.eq_iff_iff.2; simp; done) | (refine congrArg (fun b => some (([] : List (Nat × Blk)), vb b)) ?_; simp only [al, Bool.true_and]; apply Bool.eq_iff_iff.2; simp; omega))
  · refine AWP.seq ?_
    refine AWP.regionT tcok hmix [] [0, 1, 4] [] (os := []) (s' := St.mk [(0, tp (u8 inh)), (1, tp (u8 2)), (4, tp (vb false))] []) (by kernel_rfl) trivial ?_
    refine AWP.seq ?_
    refine AWP.regionT tcok hmix [(5, ⟨some (u8 (inh / 4)), none⟩)] [4] [] (os := [true = true → (0 : Int) ≤ (2 : Int) ∧ u8 (ishr IntKind.u8 inh (2 : Int)) = u8 (inh / (4 : Int)) ∧ True]) (s' := St.mk [(4, tp (vb (true && iand IntKind.u8 (inh / 4) 1 == 0)))] []) (by kernel_rfl) ⟨(by intro hc0; first | (cases hc0; done) | (try simp only [Bool.or_false, Bool.false_or, Bool.true_and, Bool.and_true, decide_eq_true_eq, decide_eq_false_iff_not, Bool.and_eq_true, Bool.or_eq_true, Bool.or_eq_false_iff, Bool.not_eq_true', Bool.and_eq_false_iff, beq_iff_eq, bne_iff_ne, bne_eq_false_iff_eq, beq_eq_false_iff_ne, Bool.not_eq_false'] at hc0; exact ⟨(by omega), (shr_eq rfl (by decide)), trivial⟩)), trivial⟩ ?_
    refine AWP.ret ?_
    refine ⟨Or.inr rfl, Eq.trans (b := some ([], vb (true && iand IntKind.u8 (inh / 4) 1 == 0))) (by kernel_rfl) ?_⟩
    (rw [iand1 _ (by omega)]; first | (refine congrArg (fun b => some (([] : List (Nat × Blk)), vb b)) ?_; simp only [al, Bool.true_and]; apply Bool.eq_iff_iff.2; simp; done) | (refine congrArg (fun b => some (([] : List (Nat × Blk)), vb b)) ?_; simp only [al, Bool.true_and]; apply Bool.eq_iff_iff.2; simp; omega))
  · refine AWP.seq ?_
    refine AWP.regionT tcok hmix [] [0, 1, 4] [] (os := []) (s' := St.mk [(0, tp (u8 inh)), (1, tp (u8 3)), (4, tp (vb false))] []) (by kernel_rfl) trivial ?_
    refine AWP.seq ?_
    refine AWP.regionT tcok hmix [(5, ⟨some (u8 (inh / 8)), none⟩)] [4] [] (os := [true = true → (0 : Int) ≤ (3 : Int) ∧ u8 (ishr IntKind.u8 inh (3 : Int)) = u8 (inh / (8 : Int)) ∧ True]) (s' := St.mk [(4, tp (vb (true && iand IntKind.u8 (inh / 8) 1 == 0)))] []) (by kernel_rfl) ⟨(by intro hc0; first | (cases hc0; done) | (try simp only [Bool.or_false, Bool.false_or, Bool.true_and, Bool.and_true, decide_eq_true_eq, decide_eq_false_iff_not, Bool.and_eq_true, Bool.or_eq_true, Bool.or_eq_false_iff, Bool.not_eq_true', Bool.and_eq_false_iff, beq_iff_eq, bne_iff_ne, bne_eq_false_iff_eq, beq_eq_false_iff_ne, Bool.not_eq_false'] at hc0; exact ⟨(by omega), (shr_eq rfl (by decide)), trivial⟩)), trivial⟩ ?_
    refine AWP.ret ?_
    refine ⟨Or.inr rfl, Eq.trans (b := some ([], vb (true && iand IntKind.u8 (inh / 8) 1 == 0))) (by kernel_rfl) ?_⟩
    (rw [iand1 _ (by omega)]; first | (refine congrArg (fun b => some (([] : List (Nat × Blk)), vb b)) ?_; simp only [al, Bool.true_and]; apply Bool.eq_iff_iff.2; simp; done) | (refine congrArg (fun b => some (([] : List (Nat × Blk)), vb b)) ?_; simp only [al, Bool.true_and]; apply Bool.eq_iff_iff.2; simp; omega))
  · refine AWP.seq ?_
    refine AWP.regionT tcok hmix [] [0, 1, 4] [] (os := []) (s' := St.mk [(0, tp (u8 inh)), (1, tp (u8 4)), (4, tp (vb false))] []) (by kernel_rfl) trivial ?_
    refine AWP.seq ?_
    refine AWP.regionT tcok hmix [(5, ⟨some (u8 (inh / 16)), none⟩)] [4] [] (os := [true = true → (0 : Int) ≤ (4 : Int) ∧ u8 (ishr IntKind.u8 inh (4 : Int)) = u8 (inh / (16 : Int)) ∧ True]) (s' := St.mk [(4, tp (vb (true && iand IntKind.u8 (inh / 16) 1 == 0)))] []) (by kernel_rfl) ⟨(by intro hc0; first | (cases hc0; done) | (try simp only [Bool.or_false, Bool.false_or, Bool.true_and, Bool.and_true, decide_eq_true_eq, decide_eq_false_iff_not, Bool.and_eq_true, Bool.or_eq_true, Bool.or_eq_false_iff, Bool.not_eq_true', Bool.and_eq_false_iff, beq_iff_eq, bne_iff_ne, bne_eq_false_iff_eq, beq_eq_false_iff_ne, Bool.not_eq_false'] at hc0; exact ⟨(by omega), (shr_eq rfl (by decide)), trivial⟩)), trivial⟩ ?_
    refine AWP.ret ?_
    refine ⟨Or.inr rfl, Eq.trans (b := some ([], vb (true && iand IntKind.u8 (inh / 16) 1 == 0))) (by kernel_rfl) ?_⟩
    (rw [iand1 _ (by omega)]; first | (refine congrArg (fun b => some (([] : List (Nat × Blk)), vb b)) ?_; simp only [al, Bool.true_and]; apply Bool.eq_iff_iff.2; simp; done) | (refine congrArg (fun b => some (([] : List (Nat × Blk)), vb b)) ?_; simp only [al, Bool.true_and]; apply Bool.eq_iff_iff.2; simp; omega))
theorem con_allowed_no (inh n : Int) (hn : 5 ≤ n) : Con Tryd.prog 40 [] [u8 inh, u8 n] [] (vb false) := by
  refine Con.of (C := ⟨Tryd.prog, tc, Tryd.f40.ntmps⟩) [] tcok Tryd.func40 rfl rfl (by kernel_rfl) (by kernel_rfl) ?_
  refine AWP.seq ?_
  refine AWP.regionT tcok hmix [] [0, 1, 4] [] (os := []) (s' := St.mk [(0, tp (u8 inh)), (1, tp (u8 n)), (4, tp (vb false))] []) (by kernel_rfl) trivial ?_
  refine AWP.seq ?_
  refine AWP.regionT tcok hmix [(5, ⟨some (u8 (ishr IntKind.u8 inh n)), none⟩)] [4] [] (os := [decide (n < (5 : Int)) = true → (0 : Int) ≤ n ∧ u8 (ishr IntKind.u8 inh n) = u8 (ishr IntKind.u8 inh n) ∧ True]) (s' := St.mk [(4, tp (vb (decide (n < 5) && iand IntKind.u8 (ishr IntKind.u8 inh n) 1 == 0)))] []) (by kernel_rfl) ⟨(by intro hc0; first | (cases hc0; done) | (try simp only [Bool.or_false, Bool.false_or, Bool.true_and, Bool.and_true, decide_eq_true_eq, decide_eq_false_iff_not, Bool.and_eq_true, Bool.or_eq_true, Bool.or_eq_false_iff, Bool.not_eq_true', Bool.and_eq_false_iff, beq_iff_eq, bne_iff_ne, bne_eq_false_iff_eq, beq_eq_false_iff_ne, Bool.not_eq_false'] at hc0; exact ⟨(by omega), rfl, trivial⟩)), trivial⟩ ?_
  refine AWP.ret ?_
  refine ⟨Or.inr rfl, Eq.trans (b := some ([], vb (decide (n < 5) && iand IntKind.u8 (ishr IntKind.u8 inh n) 1 == 0))) (by kernel_rfl) ?_⟩
  first | rfl | (simp [show ¬ n < 5 by omega]; done) | (exfalso; omega)
theorem con_calm (l c : F5) : Con Tryd.prog 18 [] [ladV l c] [] (ladV l ⟨0, 0, 0, 0, 0⟩) := by
  refine Con.of (C := ⟨Tryd.prog, tc, Tryd.f18.ntmps⟩) [] tcok Tryd.func18 rfl rfl (by kernel_rfl) (by kernel_rfl) ?_
  refine AWP.seq ?_
  refine AWP.regionT tcok hmix [] [1, 2] [1, 2] (os := []) (s' := St.mk [(1, tp (V.ptr 1 0)), (2, tp (V.ptr 2 0))] [(1, Blk.mk [u8 l.a0, u8 l.a1, u8 l.a2, u8 l.a3, u8 l.a4, u8 c.a0, u8 c.a1, u8 c.a2, u8 c.a3, u8 c.a4] true 10 none), (2, Blk.mk [u8 0, u8 0, u8 0, u8 0, u8 0, u8 0, u8 0, u8 0, u8 0, u8 0] true 10 none)]) (by kernel_rfl) trivial ?_
  refine AWP.seq ?_
  refine AWP.regionT tcok hmix [] [1, 2] [1, 2] (os := []) (s' := St.mk [(1, tp (V.ptr 1 0)), (2, tp (V.ptr 2 0))] [(1, Blk.mk [u8 l.a0, u8 l.a1, u8 l.a2, u8 l.a3, u8 l.a4, u8 0, u8 0, u8 0, u8 0, u8 0] true 10 none), (2, Blk.mk [u8 0, u8 0, u8 0, u8 0, u8 0, u8 0, u8 0, u8 0, u8 0, u8 0] true 10 none)]) (by kernel_rfl) trivial ?_
  refine AWP.seq ?_
  refine AWP.regionT tcok hmix [] [2] [2] (os := []) (s' := St.mk [(2, tp (V.ptr 2 0))] [(2, Blk.mk [u8 l.a0, u8 l.a1, u8 l.a2, u8 l.a3, u8 l.a4, u8 0, u8 0, u8 0, u8 0, u8 0] true 10 none)]) (by kernel_rfl) trivial ?_
  refine AWP.ret ?_
  refine ⟨Or.inr rfl, Eq.trans (b := some ([], V.agg true [u8 l.a0, u8 l.a1, u8 l.a2, u8 l.a3, u8 l.a4, u8 0, u8 0, u8 0, u8 0, u8 0])) (by kernel_rfl) ?_⟩
  rfl
theorem con_clear (l c : F5) (n : Int) (hn : n = 0 ∨ n = 1 ∨ n = 2 ∨ n = 3 ∨ n = 4) : Con Tryd.prog 20 [] [ladV l c, u8 n] [] (ladV l (c.clr n)) := by
  rcases hn with rfl | rfl | rfl | rfl | rfl
  all_goals
    refine Con.of (C := ⟨Tryd.prog, tc, Tryd.f20.ntmps⟩) [] tcok Tryd.func20 rfl rfl (by kernel_rfl) (by kernel_rfl) ?_
  · refine AWP.seq ?_
    refine AWP.regionT tcok hmix [] [1, 2, 4] [2, 4] (os := []) (s' := St.mk [(1, tp (u8 0)), (2, tp (V.ptr 2 0)), (4, tp (V.ptr 4 0))] [(2, Blk.mk [u8 l.a0, u8 l.a1, u8 l.a2, u8 l.a3, u8 l.a4, u8 c.a0, u8 c.a1, u8 c.a2, u8 c.a3, u8 c.a4] true 10 none), (4, Blk.mk [u8 0, u8 0, u8 0, u8 0, u8 0, u8 0, u8 0, u8 0, u8 0, u8 0] true 10 none)]) (by kernel_rfl) trivial ?_
    refine AWP.seq ?_
    refine AWP.seq ?_
    refine AWP.regionT tcok hmix [] [1, 2, 4, 6] [2, 4] (os := []) (s' := St.mk [(1, tp (u8 0)), (2, tp (V.ptr 2 0)), (4, tp (V.ptr 4 0)), (6, tp (vb true))] [(2, Blk.mk [u8 l.a0, u8 l.a1, u8 l.a2, u8 l.a3, u8 l.a4, u8 c.a0, u8 c.a1, u8 c.a2, u8 c.a3, u8 c.a4] true 10 none), (4, Blk.mk [u8 0, u8 0, u8 0, u8 0, u8 0, u8 0, u8 0, u8 0, u8 0, u8 0] true 10 none)]) (by kernel_rfl) trivial ?_
    refine AWP.cond (b := true) (by kernel_rfl) (fun _ => ?_) (fun h => by cases h)
    refine AWP.regionT tcok hmix [] [2, 4] [2, 4] (os := []) (s' := St.mk [(2, tp (V.ptr 2 0)), (4, tp (V.ptr 4 0))] [(2, Blk.mk [u8 l.a0, u8 l.a1, u8 l.a2, u8 l.a3, u8 l.a4, u8 0, u8 c.a1, u8 c.a2, u8 c.a3, u8 c.a4] true 10 none), (4, Blk.mk [u8 0, u8 0, u8 0, u8 0, u8 0, u8 0, u8 0, u8 0, u8 0, u8 0] true 10 none)]) (by kernel_rfl) trivial ?_
    refine AWP.seq ?_
    refine AWP.regionT tcok hmix [] [4] [4] (os := []) (s' := St.mk [(4, tp (V.ptr 4 0))] [(4, Blk.mk [u8 l.a0, u8 l.a1, u8 l.a2, u8 l.a3, u8 l.a4, u8 0, u8 c.a1, u8 c.a2, u8 c.a3, u8 c.a4] true 10 none)]) (by kernel_rfl) trivial ?_
    refine AWP.ret ?_
    refine ⟨Or.inr rfl, Eq.trans (b := some ([], V.agg true [u8 l.a0, u8 l.a1, u8 l.a2, u8 l.a3, u8 l.a4, u8 0, u8 c.a1, u8 c.a2, u8 c.a3, u8 c.a4])) (by kernel_rfl) ?_⟩
    rfl
  · refine AWP.seq ?_
    refine AWP.regionT tcok hmix [] [1, 2, 4] [2, 4] (os := []) (s' := St.mk [(1, tp (u8 1)), (2, tp (V.ptr 2 0)), (4, tp (V.ptr 4 0))] [(2, Blk.mk [u8 l.a0, u8 l.a1, u8 l.a2, u8 l.a3, u8 l.a4, u8 c.a0, u8 c.a1, u8 c.a2, u8 c.a3, u8 c.a4] true 10 none), (4, Blk.mk [u8 0, u8 0, u8 0, u8 0, u8 0, u8 0, u8 0, u8 0, u8 0, u8 0] true 10 none)]) (by kernel_rfl) trivial ?_
    refine AWP.seq ?_
    refine AWP.seq ?_
    refine AWP.regionT tcok hmix [] [1, 2, 4, 6] [2, 4] (os := []) (s' := St.mk [(1, tp (u8 1)), (2, tp (V.ptr 2 0)), (4, tp (V.ptr 4 0)), (6, tp (vb true))] [(2, Blk.mk [u8 l.a0, u8 l.a1, u8 l.a2, u8 l.a3, u8 l.a4, u8 c.a0, u8 c.a1, u8 c.a2, u8 c.a3, u8 c.a4] true 10 none), (4, Blk.mk [u8 0, u8 0, u8 0, u8 0, u8 0, u8 0, u8 0, u8 0, u8 0, u8 0] true 10 none)]) (by kernel_rfl) trivial ?_
    refine AWP.cond (b := true) (by kernel_rfl) (fun _ => ?_) (fun h => by cases h)
    refine AWP.regionT tcok hmix [] [2, 4] [2, 4] (os := []) (s' := St.mk [(2, tp (V.ptr 2 0)), (4, tp (V.ptr 4 0))] [(2, Blk.mk [u8 l.a0, u8 l.a1, u8 l.a2, u8 l.a3, u8 l.a4, u8 c.a0, u8 0, u8 c.a2, u8 c.a3, u8 c.a4] true 10 none), (4, Blk.mk [u8 0, u8 0, u8 0, u8 0, u8 0, u8 0, u8 0, u8 0, u8 0, u8 0] true 10 none)]) (by kernel_rfl) trivial ?_
    refine AWP.seq ?_
    refine AWP.regionT tcok hmix [] [4] [4] (os := []) (s' := St.mk [(4, tp (V.ptr 4 0))] [(4, Blk.mk [u8 l.a0, u8 l.a1, u8 l.a2, u8 l.a3, u8 l.a4, u8 c.a0, u8 0, u8 c.a2, u8 c.a3, u8 c.a4] true 10 none)]) (by kernel_rfl) trivial ?_
    refine AWP.ret ?_
    refine ⟨Or.inr rfl, Eq.trans (b := some ([], V.agg true [u8 l.a0, u8 l.a1, u8 l.a2, u8 l.a3, u8 l.a4, u8 c.a0, u8 0, u8 c.a2, u8 c.a3, u8 c.a4])) (by kernel_rfl) ?_⟩
    rfl
  · refine AWP.seq ?_
    refine AWP.regionT tcok hmix [] [1, 2, 4] [2, 4] (os := []) (s' := St.mk [(1, tp (u8 2)), (2, tp (V.ptr 2 0)), (4, tp (V.ptr 4 0))] [(2, Blk.mk [u8 l.a0, u8 l.a1, u8 l.a2, u8 l.a3, u8 l.a4, u8 c.a0, u8 c.a1, u8 c.a2, u8 c.a3, u8 c.a4] true 10 none), (4, Blk.mk [u8 0, u8 0, u8 0, u8 0, u8 0, u8 0, u8 0, u8 0, u8 0, u8 0] true 10 none)]) (by kernel_rfl) trivial ?_
    refine AWP.seq ?_
    refine AWP.seq ?_
    refine AWP.regionT tcok hmix [] [1, 2, 4, 6] [2, 4] (os := []) (s' := St.mk [(1, tp (u8 2)), (2, tp (V.ptr 2 0)), (4, tp (V.ptr 4 0)), (6, tp (vb true))] [(2, Blk.mk [u8 l.a0, u8 l.a1, u8 l.a2, u8 l.a3, u8 l.a4, u8 c.a0, u8 c.a1, u8 c.a2, u8 c.a3, u8 c.a4] true 10 none), (4, Blk.mk [u8 0, u8 0, u8 0, u8 0, u8 0, u8 0, u8 0, u8 0, u8 0, u8 0] true 10 none)]) (by kernel_rfl) trivial ?_
    refine AWP.cond (b := true) (by kernel_rfl) (fun _ => ?_) (fun h => by cases h)
    refine AWP.regionT tcok hmix [] [2, 4] [2, 4] (os := []) (s' := St.mk [(2, tp (V.ptr 2 0)), (4, tp (V.ptr 4 0))] [(2, Blk.mk [u8 l.a0, u8 l.a1, u8 l.a2, u8 l.a3, u8 l.a4, u8 c.a0, u8 c.a1, u8 0, u8 c.a3, u8 c.a4] true 10 none), (4, Blk.mk [u8 0, u8 0, u8 0, u8 0, u8 0, u8 0, u8 0, u8 0, u8 0, u8 0] true 10 none)]) (by kernel_rfl) trivial ?_
    refine AWP.seq ?_
    refine AWP.regionT tcok hmix [] [4] [4] (os := []) (s' := St.mk [(4, tp (V.ptr 4 0))] [(4, Blk.mk [u8 l.a0, u8 l.a1, u8 l.a2, u8 l.a3, u8 l.a4, u8 c.a0, u8 c.a1, u8 0, u8 c.a3, u8 c.a4] true 10 none)]) (by kernel_rfl) trivial ?_
    refine AWP.ret ?_
    refine ⟨Or.inr rfl, Eq.trans (b := some ([], V.agg true [u8 l.a0, u8 l.a1, u8 l.a2, u8 l.a3, u8 l.a4, u8 c.a0, u8 c.a1, u8 0, u8 c.a3, u8 c.a4])) (by kernel_rfl) ?_⟩
    rfl
  · refine AWP.seq ?_
    refine AWP.regionT tcok hmix [] [1, 2, 4] [2, 4] (os := []) (s' := St.mk [(1, tp (u8 3)), (2, tp (V.ptr 2 0)), (4, tp (V.ptr 4 0))] [(2, Blk.mk [u8 l.a0, u8 l.a1, u8 l.a2, u8 l.a3, u8 l.a4, u8 c.a0, u8 c.a1, u8 c.a2, u8 c.a3, u8 c.a4] true 10 none), (4, Blk.mk [u8 0, u8 0, u8 0, u8 0, u8 0, u8 0, u8 0, u8 0, u8 0, u8 0] true 10 none)]) (by kernel_rfl) trivial ?_
    refine AWP.seq ?_
    refine AWP.seq ?_
    refine AWP.regionT tcok hmix [] [1, 2, 4, 6] [2, 4] (os := []) (s' := St.mk [(1, tp (u8 3)), (2, tp (V.ptr 2 0)), (4, tp (V.ptr 4 0)), (6, tp (vb true))] [(2, Blk.mk [u8 l.a0, u8 l.a1, u8 l.a2, u8 l.a3, u8 l.a4, u8 c.a0, u8 c.a1, u8 c.a2, u8 c.a3, u8 c.a4] true 10 none), (4, Blk.mk [u8 0, u8 0, u8 0, u8 0, u8 0, u8 0, u8 0, u8 0, u8 0, u8 0] true 10 none)]) (by kernel_rfl) trivial ?_
    refine AWP.cond (b := true) (by kernel_rfl) (fun _ => ?_) (fun h => by cases h)
    refine AWP.regionT tcok hmix [] [2, 4] [2, 4] (os := []) (s' := St.mk [(2, tp (V.ptr 2 0)), (4, tp (V.ptr 4 0))] [(2, Blk.mk [u8 l.a0, u8 l.a1, u8 l.a2, u8 l.a3, u8 l.a4, u8 c.a0, u8 c.a1, u8 c.a2, u8 0, u8 c.a4] true 10 none), (4, Blk.mk [u8 0, u8 0, u8 0, u8 0, u8 0, u8 0, u8 0, u8 0, u8 0, u8 0] true 10 none)]) (by kernel_rfl) trivial ?_
    refine AWP.seq ?_
    refine AWP.regionT tcok hmix [] [4] [4] (os := []) (s' := St.mk [(4, tp (V.ptr 4 0))] [(4, Blk.mk [u8 l.a0, u8 l.a1, u8 l.a2, u8 l.a3, u8 l.a4, u8 c.a0, u8 c.a1, u8 c.a2, u8 0, u8 c.a4] true 10 none)]) (by kernel_rfl) trivial ?_
    refine AWP.ret ?_
    refine ⟨Or.inr rfl, Eq.trans (b := some ([], V.agg true [u8 l.a0, u8 l.a1, u8 l.a2, u8 l.a3, u8 l.a4, u8 c.a0, u8 c.a1, u8 c.a2, u8 0, u8 c.a4])) (by kernel_rfl) ?_⟩
    rfl
  · refine AWP.seq ?_
    refine AWP.regionT tcok hmix [] [1, 2, 4] [2, 4] (os := []) (s' := St.mk [(1, tp (u8 4)), (2, tp (V.ptr 2 0)), (4, tp (V.ptr 4 0))] [(2, Blk.mk [u8 l.a0, u8 l.a1, u8 l.a2, u8 l.a3, u8 l.a4, u8 c.a0, u8 c.a1, u8 c.a2, u8 c.a3, u8 c.a4] true 10 none), (4, Blk.mk [u8 0, u8 0, u8 0, u8 0, u8 0, u8 0, u8 0, u8 0, u8 0, u8 0] true 10 none)]) (by kernel_rfl) trivial ?_
    refine AWP.seq ?_
    refine AWP.seq ?_
    refine AWP.regionT tcok hmix [] [1, 2, 4, 6] [2, 4] (os := []) (s' := St.mk [(1, tp (u8 4)), (2, tp (V.ptr 2 0)), (4, tp (V.ptr 4 0)), (6, tp (vb true))] [(2, Blk.mk [u8 l.a0, u8 l.a1, u8 l.a2, u8 l.a3, u8 l.a4, u8 c.a0, u8 c.a1, u8 c.a2, u8 c.a3, u8 c.a4] true 10 none), (4, Blk.mk [u8 0, u8 0, u8 0, u8 0, u8 0, u8 0, u8 0, u8 0, u8 0, u8 0] true 10 none)]) (by kernel_rfl) trivial ?_
    refine AWP.cond (b := true) (by kernel_rfl) (fun _ => ?_) (fun h => by cases h)
    refine AWP.regionT tcok hmix [] [2, 4] [2, 4] (os := []) (s' := St.mk [(2, tp (V.ptr 2 0)), (4, tp (V.ptr 4 0))] [(2, Blk.mk [u8 l.a0, u8 l.a1, u8 l.a2, u8 l.a3, u8 l.a4, u8 c.a0, u8 c.a1, u8 c.a2, u8 c.a3, u8 0] true 10 none), (4, Blk.mk [u8 0, u8 0, u8 0, u8 0, u8 0, u8 0, u8 0, u8 0, u8 0, u8 0] true 10 none)]) (by kernel_rfl) trivial ?_
    refine AWP.seq ?_
    refine AWP.regionT tcok hmix [] [4] [4] (os := []) (s' := St.mk [(4, tp (V.ptr 4 0))] [(4, Blk.mk [u8 l.a0, u8 l.a1, u8 l.a2, u8 l.a3, u8 l.a4, u8 c.a0, u8 c.a1, u8 c.a2, u8 c.a3, u8 0] true 10 none)]) (by kernel_rfl) trivial ?_
    refine AWP.ret ?_
    refine ⟨Or.inr rfl, Eq.trans (b := some ([], V.agg true [u8 l.a0, u8 l.a1, u8 l.a2, u8 l.a3, u8 l.a4, u8 c.a0, u8 c.a1, u8 c.a2, u8 c.a3, u8 0])) (by kernel_rfl) ?_⟩
    rfl
theorem con_clear_no (l c : F5) (n : Int) (hn : 5 ≤ n) : Con Tryd.prog 20 [] [ladV l c, u8 n] [] (ladV l c) := by
  refine Con.of (C := ⟨Tryd.prog, tc, Tryd.f20.ntmps⟩) [] tcok Tryd.func20 rfl rfl (by kernel_rfl) (by kernel_rfl) ?_
  refine AWP.seq ?_
  refine AWP.regionT tcok hmix [] [1, 2, 4] [2, 4] (os := []) (s' := St.mk [(1, tp (u8 n)), (2, tp (V.ptr 2 0)), (4, tp (V.ptr 4 0))] [(2, Blk.mk [u8 l.a0, u8 l.a1, u8 l.a2, u8 l.a3, u8 l.a4, u8 c.a0, u8 c.a1, u8 c.a2, u8 c.a3, u8 c.a4] true 10 none), (4, Blk.mk [u8 0, u8 0, u8 0, u8 0, u8 0, u8 0, u8 0, u8 0, u8 0, u8 0] true 10 none)]) (by kernel_rfl) trivial ?_
  refine AWP.seq ?_
  refine AWP.seq ?_
  refine AWP.regionT tcok hmix [] [1, 2, 4, 6] [2, 4] (os := []) (s' := St.mk [(1, tp (u8 n)), (2, tp (V.ptr 2 0)), (4, tp (V.ptr 4 0)), (6, tp (vb (decide (n < 5))))] [(2, Blk.mk [u8 l.a0, u8 l.a1, u8 l.a2, u8 l.a3, u8 l.a4, u8 c.a0, u8 c.a1, u8 c.a2, u8 c.a3, u8 c.a4] true 10 none), (4, Blk.mk [u8 0, u8 0, u8 0, u8 0, u8 0, u8 0, u8 0, u8 0, u8 0, u8 0] true 10 none)]) (by kernel_rfl) trivial ?_
  refine AWP.cond (b := decide (n < 5)) (by kernel_rfl) (fun hq5 => ?_) (fun hq5 => ?_)
  · simp only [decide_eq_true_eq] at hq5
    (exfalso; omega)
  simp only [decide_eq_false_iff_not] at hq5
  refine AWP.skip ?_
  refine AWP.seq ?_
  refine AWP.regionT tcok hmix [] [4] [4] (os := []) (s' := St.mk [(4, tp (V.ptr 4 0))] [(4, Blk.mk [u8 l.a0, u8 l.a1, u8 l.a2, u8 l.a3, u8 l.a4, u8 c.a0, u8 c.a1, u8 c.a2, u8 c.a3, u8 c.a4] true 10 none)]) (by kernel_rfl) trivial ?_
  refine AWP.ret ?_
  refine ⟨Or.inr rfl, Eq.trans (b := some ([], V.agg true [u8 l.a0, u8 l.a1, u8 l.a2, u8 l.a3, u8 l.a4, u8 c.a0, u8 c.a1, u8 c.a2, u8 c.a3, u8 c.a4])) (by kernel_rfl) ?_⟩
  first | rfl | (exfalso; omega)
theorem con_rright (lv un ev : Int) : Con Tryd.prog 39 [] [.agg true [u8 lv, i64 un, u8 ev]] [] (vb (aright lv un)) := by
  refine Con.of (C := ⟨Tryd.prog, tc, Tryd.f39.ntmps⟩) [] tcok Tryd.func39 rfl rfl (by kernel_rfl) (by kernel_rfl) ?_
  refine AWP.seq ?_
  refine AWP.regionT tcok hmix [] [1, 2] [1] (os := []) (s' := St.mk [(1, tp (V.ptr 1 0)), (2, tp (vb false))] [(1, Blk.mk [u8 lv, i64 un, u8 ev] true 3 none)]) (by kernel_rfl) trivial ?_
  refine AWP.seq ?_
  refine AWP.regionT tcok hmix [] [2] [] (os := []) (s' := St.mk [(2, tp (vb (decide (lv < 5) && decide (un ≥ -1) && decide (un < 16))))] []) (by kernel_rfl) trivial ?_
  refine AWP.ret ?_
  refine ⟨Or.inr rfl, Eq.trans (b := some ([], vb (decide (lv < 5) && decide (un ≥ -1) && decide (un < 16)))) (by kernel_rfl) ?_⟩
  (simp [aright, Bool.and_assoc])
theorem con_rallowed (inh n : Int) (hi : 0 ≤ inh ∧ inh < 256) (hn : n = 0 ∨ n = 1 ∨ n = 2 ∨ n = 3 ∨ n = 4) : Con Tryd.prog 12 [] [u8 inh, i64 n] [] (vb (al inh n)) := by
  rcases hn with rfl | rfl | rfl | rfl | rfl
  all_goals
    refine Con.of (C := ⟨Tryd.prog, tc, Tryd.f12.ntmps⟩) [] tcok Tryd.func12 rfl rfl (by kernel_rfl) (by kernel_rfl) ?_
  · refine AWP.seq ?_
    refine AWP.regionT tcok hmix [] [0, 1, 4] [] (os := []) (s' := St.mk [(0, tp (u8 inh)), (1, tp (i64 0)), (4, tp (vb false))] []) (by kernel_rfl) trivial ?_
    refine AWP.seq ?_
    refine AWP.seq ?_
    refine AWP.regionT tcok hmix [] [0, 1, 4, 5] [] (os := []) (s' := St.mk [(0, tp (u8 inh)), (1, tp (i64 0)), (4, tp (vb false)), (5, tp (i64 0))] []) (by kernel_rfl) trivial ?_
    refine AWP.block ?_
    refine AWP.unroll 6 ?_
    refine AWP.seq ?_
    refine AWP.seq ?_
    refine AWP.regionT tcok hmix [] [0, 1, 4, 5, 6, 7, 8] [] (os := []) (s' := St.mk [(0, tp (u8 inh)), (1, tp (i64 0)), (4, tp (vb false)), (5, tp (i64 0)), (6, tp (i64 0)), (7, tp (i64 0)), (8, tp (vb false))] []) (by kernel_rfl) trivial ?_
    refine AWP.cond (b := false) (by kernel_rfl) (fun h => by cases h) (fun _ => ?_)
    refine AWP.exit ?_
    refine AWP.seq ?_
    refine AWP.regionT tcok hmix [(8, ⟨some (u8 (inh % 2)), none⟩)] [4] [] (os := [true = true → (2 : Int) ≠ (0 : Int) ∧ u8 (Int.tmod inh (2 : Int)) = u8 (inh % (2 : Int)) ∧ True]) (s' := St.mk [(4, tp (vb (true && inh % 2 == 0)))] []) (by kernel_rfl) ⟨(by intro hc0; first | (cases hc0; done) | (try simp only [Bool.or_false, Bool.false_or, Bool.true_and, Bool.and_true, decide_eq_true_eq, decide_eq_false_iff_not, Bool.and_eq_true, Bool.or_eq_true, Bool.or_eq_false_iff, Bool.not_eq_true', Bool.and_eq_false_iff, beq_iff_eq, bne_iff_ne, bne_eq_false_iff_eq, beq_eq_false_iff_ne, Bool.not_eq_false'] at hc0; exact ⟨(by omega), (tm_ (by omega)), trivial⟩)), trivial⟩ ?_
    refine AWP.ret ?_
    refine ⟨Or.inr rfl, Eq.trans (b := some ([], vb (true && inh % 2 == 0))) (by kernel_rfl) ?_⟩
    first | (refine congrArg (fun b => some (([] : List (Nat × Blk)), vb b)) ?_; simp only [al, Bool.true_and]; apply Bool.eq_iff_iff.2; simp; done) | (refine congrArg (fun b => some (([] : List (Nat × Blk)), vb b)) ?_; simp only [al, Bool.true_and]; apply Bool.eq_iff_iff.2; simp; omega)
  · refine AWP.seq ?_
    refine AWP.regionT tcok hmix [] [0, 1, 4] [] (os := []) (s' := St.mk [(0, tp (u8 inh)), (1, tp (i64 1)), (4, tp (vb false))] []) (by kernel_rfl) trivial ?_
    refine AWP.seq ?_
    refine AWP.seq ?_
    refine AWP.regionT tcok hmix [] [0, 1, 4, 5] [] (os := []) (s' := St.mk [(0, tp (u8 inh)), (1, tp (i64 1)), (4, tp (vb false)), (5, tp (i64 0))] []) (by kernel_rfl) trivial ?_
    refine AWP.block ?_
    refine AWP.unroll 6 ?_
    refine AWP.seq ?_
    refine AWP.seq ?_
    refine AWP.regionT tcok hmix [] [0, 1, 4, 5, 6, 7, 8] [] (os := []) (s' := St.mk [(0, tp (u8 inh)), (1, tp (i64 1)), (4, tp (vb false)), (5, tp (i64 0)), (6, tp (i64 0)), (7, tp (i64 1)), (8, tp (vb true))] []) (by kernel_rfl) trivial ?_
    refine AWP.cond (b := true) (by kernel_rfl) (fun _ => ?_) (fun h => by cases h)
    refine AWP.skip ?_
    refine AWP.seq ?_
    refine AWP.block ?_
    refine AWP.region tcok hmix [(1, ⟨some (u8 (inh / 2)), none⟩)] (os := [(2 : Int) ≠ (0 : Int), u8 (IntKind.wrap IntKind.u8 (Int.tdiv inh 2)) = u8 (inh / 2)]) (sf := St.mk [(0, tp (u8 (inh / 2))), (1, tp (i64 1)), (4, tp (vb false)), (5, tp (i64 0)), (6, tp (i64 0)), (7, tp (i64 1)), (8, tp (vb true)), (11, tp (u8 inh)), (12, tp (u8 (inh / 2)))] []) (by kernel_rfl) ⟨(by omega), (wtd (by omega) (wr_u8 (by omega) (by omega))), trivial⟩ ?_
    refine AWP.region tcok hmix [] (os := []) (sf := St.mk [(0, tp (u8 (inh / 2))), (1, tp (i64 1)), (4, tp (vb false)), (5, tp (i64 1)), (6, tp (i64 0)), (7, tp (i64 1)), (8, tp (vb true)), (9, tp (i64 0)), (10, tp (i64 1)), (11, tp (u8 inh)), (12, tp (u8 (inh / 2)))] []) (by kernel_rfl) trivial ?_
    refine AWP.seq ?_
    refine AWP.seq ?_
    refine AWP.regionT tcok hmix [] [0, 1, 4, 5, 6, 7, 8, 9, 10, 11, 12] [] (os := []) (s' := St.mk [(0, tp (u8 (inh / 2))), (1, tp (i64 1)), (4, tp (vb false)), (5, tp (i64 1)), (6, tp (i64 1)), (7, tp (i64 1)), (8, tp (vb false)), (9, tp (i64 0)), (10, tp (i64 1)), (11, tp (u8 inh)), (12, tp (u8 (inh / 2)))] []) (by kernel_rfl) trivial ?_
    refine AWP.cond (b := false) (by kernel_rfl) (fun h => by cases h) (fun _ => ?_)
    refine AWP.exit ?_
    refine AWP.seq ?_
    refine AWP.regionT tcok hmix [(8, ⟨some (u8 (inh / 2 % 2)), none⟩)] [4] [] (os := [true = true → (2 : Int) ≠ (0 : Int) ∧ u8 (Int.tmod (inh / (2 : Int)) (2 : Int)) = u8 (inh / (2 : Int) % (2 : Int)) ∧ True]) (s' := St.mk [(4, tp (vb (true && inh / 2 % 2 == 0)))] []) (by kernel_rfl) ⟨(by intro hc0; first | (cases hc0; done) | (try simp only [Bool.or_false, Bool.false_or, Bool.true_and, Bool.and_true, decide_eq_true_eq, decide_eq_false_iff_not, Bool.and_eq_true, Bool.or_eq_true, Bool.or_eq_false_iff, Bool.not_eq_true', Bool.and_eq_false_iff, beq_iff_eq, bne_iff_ne, bne_eq_false_iff_eq, beq_eq_false_iff_ne, Bool.not_eq_false'] at hc0; exact ⟨(by omega), (tm_ (by omega)), trivial⟩)), trivial⟩ ?_
    refine AWP.ret ?_
    refine ⟨Or.inr rfl, Eq.trans (b := some ([], vb (true && inh / 2 % 2 == 0))) (by kernel_rfl) ?_⟩
    first | (refine congrArg (fun b => some (([] : List (Nat × Blk)), vb b)) ?_; simp only [al, Bool.true_and]; apply Bool.eq_iff_iff.2; simp; done) | (refine congrArg (fun b => some (([] : List (Nat × Blk)), vb b)) ?_; simp only [al, Bool.true_and]; apply Bool.eq_iff_iff.2; simp; omega)
  · refine AWP.seq ?_
    refine AWP.regionT tcok hmix [] [0, 1, 4] [] (os := []) (s' := St.mk [(0, tp (u8 inh)), (1, tp (i64 2)), (4, tp (vb false))] []) (by kernel_rfl) trivial ?_
    refine AWP.seq ?_
    refine AWP.seq ?_
    refine AWP.regionT tcok hmix [] [0, 1, 4, 5] [] (os := []) (s' := St.mk [(0, tp (u8 inh)), (1, tp (i64 2)), (4, tp (vb false)), (5, tp (i64 0))] []) (by kernel_rfl) trivial ?_
    refine AWP.block ?_
    refine AWP.unroll 6 ?_
    refine AWP.seq ?_
    refine AWP.seq ?_
    refine AWP.regionT tcok hmix [] [0, 1, 4, 5, 6, 7, 8] [] (os := []) (s' := St.mk [(0, tp (u8 inh)), (1, tp (i64 2)), (4, tp (vb false)), (5, tp (i64 0)), (6, tp (i64 0)), (7, tp (i64 2)), (8, tp (vb true))] []) (by kernel_rfl) trivial ?_
    refine AWP.cond (b := true) (by kernel_rfl) (fun _ => ?_) (fun h => by cases h)
    refine AWP.skip ?_
    refine AWP.seq ?_
    refine AWP.block ?_
    refine AWP.region tcok hmix [(1, ⟨some (u8 (inh / 2)), none⟩)] (os := [(2 : Int) ≠ (0 : Int), u8 (IntKind.wrap IntKind.u8 (Int.tdiv inh 2)) = u8 (inh / 2)]) (sf := St.mk [(0, tp (u8 (inh / 2))), (1, tp (i64 2)), (4, tp (vb false)), (5, tp (i64 0)), (6, tp (i64 0)), (7, tp (i64 2)), (8, tp (vb true)), (11, tp (u8 inh)), (12, tp (u8 (inh / 2)))] []) (by kernel_rfl) ⟨(by omega), (wtd (by omega) (wr_u8 (by omega) (by omega))), trivial⟩ ?_
    refine AWP.region tcok hmix [] (os := []) (sf := St.mk [(0, tp (u8 (inh / 2))), (1, tp (i64 2)), (4, tp (vb false)), (5, tp (i64 1)), (6, tp (i64 0)), (7, tp (i64 2)), (8, tp (vb true)), (9, tp (i64 0)), (10, tp (i64 1)), (11, tp (u8 inh)), (12, tp (u8 (inh / 2)))] []) (by kernel_rfl) trivial ?_
    refine AWP.seq ?_
    refine AWP.seq ?_
    refine AWP.regionT tcok hmix [] [0, 1, 4, 5, 6, 7, 8, 9, 10, 11, 12] [] (os := []) (s' := St.mk [(0, tp (u8 (inh / 2))), (1, tp (i64 2)), (4, tp (vb false)), (5, tp (i64 1)), (6, tp (i64 1)), (7, tp (i64 2)), (8, tp (vb true)), (9, tp (i64 0)), (10, tp (i64 1)), (11, tp (u8 inh)), (12, tp (u8 (inh / 2)))] []) (by kernel_rfl) trivial ?_
    refine AWP.cond (b := true) (by kernel_rfl) (fun _ => ?_) (fun h => by cases h)
    refine AWP.skip ?_
    refine AWP.seq ?_
    refine AWP.block ?_
    refine AWP.region tcok hmix [(1, ⟨some (u8 (inh / 2 / 2)), none⟩)] (os := [(2 : Int) ≠ (0 : Int), u8 (IntKind.wrap IntKind.u8 (Int.tdiv (inh / 2) 2)) = u8 (inh / 2 / 2)]) (sf := St.mk [(0, tp (u8 (inh / 2 / 2))), (1, tp (i64 2)), (4, tp (vb false)), (5, tp (i64 1)), (6, tp (i64 1)), (7, tp (i64 2)), (8, tp (vb true)), (9, tp (i64 0)), (10, tp (i64 1)), (11, tp (u8 (inh / 2))), (12, tp (u8 (inh / 2 / 2)))] []) (by kernel_rfl) ⟨(by omega), (wtd (by omega) (wr_u8 (by omega) (by omega))), trivial⟩ ?_
    refine AWP.region tcok hmix [] (os := []) (sf := St.mk [(0, tp (u8 (inh / 2 / 2))), (1, tp (i64 2)), (4, tp (vb false)), (5, tp (i64 2)), (6, tp (i64 1)), (7, tp (i64 2)), (8, tp (vb true)), (9, tp (i64 1)), (10, tp (i64 2)), (11, tp (u8 (inh / 2))), (12, tp (u8 (inh / 2 / 2)))] []) (by kernel_rfl) trivial ?_
    refine AWP.seq ?_
    refine AWP.seq ?_
    refine AWP.regionT tcok hmix [] [0, 1, 4, 5, 6, 7, 8, 9, 10, 11, 12] [] (os := []) (s' := St.mk [(0, tp (u8 (inh / 2 / 2))), (1, tp (i64 2)), (4, tp (vb false)), (5, tp (i64 2)), (6, tp (i64 2)), (7, tp (i64 2)), (8, tp (vb false)), (9, tp (i64 1)), (10, tp (i64 2)), (11, tp (u8 (inh / 2))), (12, tp (u8 (inh / 2 / 2)))] []) (by kernel_rfl) trivial ?_
    refine AWP.cond (b := false) (by kernel_rfl) (fun h => by cases h) (fun _ => ?_)
    refine AWP.exit ?_
    refine AWP.seq ?_
    refine AWP.regionT tcok hmix [(8, ⟨some (u8 (inh / 2 / 2 % 2)), none⟩)] [4] [] (os := [true = true → (2 : Int) ≠ (0 : Int) ∧ u8 (Int.tmod (inh / (2 : Int) / (2 : Int)) (2 : Int)) = u8 (inh / (2 : Int) / (2 : Int) % (2 : Int)) ∧ True]) (s' := St.mk [(4, tp (vb (true && inh / 2 / 2 % 2 == 0)))] []) (by kernel_rfl) ⟨(by intro hc0; first | (cases hc0; done) | (try simp only [Bool.or_false, Bool.false_or, Bool.true_and, Bool.and_true, decide_eq_true_eq, decide_eq_false_iff_not, Bool.and_eq_true, Bool.or_eq_true, Bool.or_eq_false_iff, Bool.not_eq_true', Bool.and_eq_false_iff, beq_iff_eq, bne_iff_ne, bne_eq_false_iff_eq, beq_eq_false_iff_ne, Bool.not_eq_false'] at hc0; exact ⟨(by omega), (tm_ (by omega)), trivial⟩)), trivial⟩ ?_
    refine AWP.ret ?_
    refine ⟨Or.inr rfl, Eq.trans (b := some ([], vb (true && inh / 2 / 2 % 2 == 0))) (by kernel_rfl) ?_⟩
    first | (refine congrArg (fun b => some (([] : List (Nat × Blk)), vb b)) ?_; simp only [al, Bool.true_and]; apply Bool.eq_iff_iff.2; simp; done) | (refine congrArg (fun b => some (([] : List (Nat × Blk)), vb b)) ?_; simp only [al, Bool.true_and]; apply Bool.eq_iff_iff.2; simp; omega)
  · refine AWP.seq ?_
    refine AWP.regionT tcok hmix [] [0, 1, 4] [] (os := []) (s' := St.mk [(0, tp (u8 inh)), (1, tp (i64 3)), (4, tp (vb false))] []) (by kernel_rfl) trivial ?_
    refine AWP.seq ?_
    refine AWP.seq ?_
    refine AWP.regionT tcok hmix [] [0, 1, 4, 5] [] (os := []) (s' := St.mk [(0, tp (u8 inh)), (1, tp (i64 3)), (4, tp (vb false)), (5, tp (i64 0))] []) (by kernel_rfl) trivial ?_
    refine AWP.block ?_
    refine AWP.unroll 6 ?_
    refine AWP.seq ?_
    refine AWP.seq ?_
    refine AWP.regionT tcok hmix [] [0, 1, 4, 5, 6, 7, 8] [] (os := []) (s' := St.mk [(0, tp (u8 inh)), (1, tp (i64 3)), (4, tp (vb false)), (5, tp (i64 0)), (6, tp (i64 0)), (7, tp (i64 3)), (8, tp (vb true))] []) (by kernel_rfl) trivial ?_
    refine AWP.cond (b := true) (by kernel_rfl) (fun _ => ?_) (fun h => by cases h)
    refine AWP.skip ?_
    refine AWP.seq ?_
    refine AWP.block ?_
    refine AWP.region tcok hmix [(1, ⟨some (u8 (inh / 2)), none⟩)] (os := [(2 : Int) ≠ (0 : Int), u8 (IntKind.wrap IntKind.u8 (Int.tdiv inh 2)) = u8 (inh / 2)]) (sf := St.mk [(0, tp (u8 (inh / 2))), (1, tp (i64 3)), (4, tp (vb false)), (5, tp (i64 0)), (6, tp (i64 0)), (7, tp (i64 3)), (8, tp (vb true)), (11, tp (u8 inh)), (12, tp (u8 (inh / 2)))] []) (by kernel_rfl) ⟨(by omega), (wtd (by omega) (wr_u8 (by omega) (by omega))), trivial⟩ ?_
    refine AWP.region tcok hmix [] (os := []) (sf := St.mk [(0, tp (u8 (inh / 2))), (1, tp (i64 3)), (4, tp (vb false)), (5, tp (i64 1)), (6, tp (i64 0)), (7, tp (i64 3)), (8, tp (vb true)), (9, tp (i64 0)), (10, tp (i64 1)), (11, tp (u8 inh)), (12, tp (u8 (inh / 2)))] []) (by kernel_rfl) trivial ?_
    refine AWP.seq ?_
    refine AWP.seq ?_
    refine AWP.regionT tcok hmix [] [0, 1, 4, 5, 6, 7, 8, 9, 10, 11, 12] [] (os := []) (s' := St.mk [(0, tp (u8 (inh / 2))), (1, tp (i64 3)), (4, tp (vb false)), (5, tp (i64 1)), (6, tp (i64 1)), (7, tp (i64 3)), (8, tp (vb true)), (9, tp (i64 0)), (10, tp (i64 1)), (11, tp (u8 inh)), (12, tp (u8 (inh / 2)))] []) (by kernel_rfl) trivial ?_
    refine AWP.cond (b := true) (by kernel_rfl) (fun _ => ?_) (fun h => by cases h)
    refine AWP.skip ?_
    refine AWP.seq ?_
    refine AWP.block ?_
    refine AWP.region tcok hmix [(1, ⟨some (u8 (inh / 2 / 2)), none⟩)] (os := [(2 : Int) ≠ (0 : Int), u8 (IntKind.wrap IntKind.u8 (Int.tdiv (inh / 2) 2)) = u8 (inh / 2 / 2)]) (sf := St.mk [(0, tp (u8 (inh / 2 / 2))), (1, tp (i64 3)), (4, tp (vb false)), (5, tp (i64 1)), (6, tp (i64 1)), (7, tp (i64 3)), (8, tp (vb true)), (9, tp (i64 0)), (10, tp (i64 1)), (11, tp (u8 (inh / 2))), (12, tp (u8 (inh / 2 / 2)))] []) (by kernel_rfl) ⟨(by omega), (wtd (by omega) (wr_u8 (by omega) (by omega))), trivial⟩ ?_
    refine AWP.region tcok hmix [] (os := []) (sf := St.mk [(0, tp (u8 (inh / 2 / 2))), (1, tp (i64 3)), (4, tp (vb false)), (5, tp (i64 2)), (6, tp (i64 1)), (7, tp (i64 3)), (8, tp (vb true)), (9, tp (i64 1)), (10, tp (i64 2)), (11, tp (u8 (inh / 2))), (12, tp (u8 (inh / 2 / 2)))] []) (by kernel_rfl) trivial ?_
    refine AWP.seq ?_
    refine AWP.seq ?_
    refine AWP.regionT tcok hmix [] [0, 1, 4, 5, 6, 7, 8, 9, 10, 11, 12] [] (os := []) (s' := St.mk [(0, tp (u8 (inh / 2 / 2))), (1, tp (i64 3)), (4, tp (vb false)), (5, tp (i64 2)), (6, tp (i64 2)), (7, tp (i64 3)), (8, tp (vb true)), (9, tp (i64 1)), (10, tp (i64 2)), (11, tp (u8 (inh / 2))), (12, tp (u8 (inh / 2 / 2)))] []) (by kernel_rfl) trivial ?_
    refine AWP.cond (b := true) (by kernel_rfl) (fun _ => ?_) (fun h => by cases h)
    refine AWP.skip ?_
    refine AWP.seq ?_
    refine AWP.block ?_
    refine AWP.region tcok hmix [(1, ⟨some (u8 (inh / 2 / 2 / 2)), none⟩)] (os := [(2 : Int) ≠ (0 : Int), u8 (IntKind.wrap IntKind.u8 (Int.tdiv (inh / 2 / 2) 2)) = u8 (inh / 2 / 2 / 2)]) (sf := St.mk [(0, tp (u8 (inh / 2 / 2 / 2))), (1, tp (i64 3)), (4, tp (vb false)), (5, tp (i64 2)), (6, tp (i64 2)), (7, tp (i64 3)), (8, tp (vb true)), (9, tp (i64 1)), (10, tp (i64 2)), (11, tp (u8 (inh / 2 / 2))), (12, tp (u8 (inh / 2 / 2 / 2)))] []) (by kernel_rfl) ⟨(by omega), (wtd (by omega) (wr_u8 (by omega) (by omega))), trivial⟩ ?_
    refine AWP.region tcok hmix [] (os := []) (sf := St.mk [(0, tp (u8 (inh / 2 / 2 / 2))), (1, tp (i64 3)), (4, tp (vb false)), (5, tp (i64 3)), (6, tp (i64 2)), (7, tp (i64 3)), (8, tp (vb true)), (9, tp (i64 2)), (10, tp (i64 3)), (11, tp (u8 (inh / 2 / 2))), (12, tp (u8 (inh / 2 / 2 / 2)))] []) (by kernel_rfl) trivial ?_
    refine AWP.seq ?_
    refine AWP.seq ?_
    refine AWP.regionT tcok hmix [] [0, 1, 4, 5, 6, 7, 8, 9, 10, 11, 12] [] (os := []) (s' := St.mk [(0, tp (u8 (inh / 2 / 2 / 2))), (1, tp (i64 3)), (4, tp (vb false)), (5, tp (i64 3)), (6, tp (i64 3)), (7, tp (i64 3)), (8, tp (vb false)), (9, tp (i64 2)), (10, tp (i64 3)), (11, tp (u8 (inh / 2 / 2))), (12, tp (u8 (inh / 2 / 2 / 2)))] []) (by kernel_rfl) trivial ?_
    refine AWP.cond (b := false) (by kernel_rfl) (fun h => by cases h) (fun _ => ?_)
    refine AWP.exit ?_
    refine AWP.seq ?_
    refine AWP.regionT tcok hmix [(8, ⟨some (u8 (inh / 2 / 2 / 2 % 2)), none⟩)] [4] [] (os := [true = true → (2 : Int) ≠ (0 : Int) ∧ u8 (Int.tmod (inh / (2 : Int) / (2 : Int) / (2 : Int)) (2 : Int)) = u8 (inh / (2 : Int) / (2 : Int) / (2 : Int) % (2 : Int)) ∧ True]) (s' := St.mk [(4, tp (vb (true && inh / 2 / 2 / 2 % 2 == 0)))] []) (by kernel_rfl) ⟨(by intro hc0; first | (cases hc0; done) | (try simp only [Bool.or_false, Bool.false_or, Bool.true_and, Bool.and_true, decide_eq_true_eq, decide_eq_false_iff_not, Bool.and_eq_true, Bool.or_eq_true, Bool.or_eq_false_iff, Bool.not_eq_true', Bool.and_eq_false_iff, beq_iff_eq, bne_iff_ne, bne_eq_false_iff_eq, beq_eq_false_iff_ne, Bool.not_eq_false'] at hc0; exact ⟨(by omega), (tm_ (by omega)), trivial⟩)), trivial⟩ ?_
    refine AWP.ret ?_
    refine ⟨Or.inr rfl, Eq.trans (b := some ([], vb (true && inh / 2 / 2 / 2 % 2 == 0))) (by kernel_rfl) ?_⟩
    first | (refine congrArg (fun b => some (([] : List (Nat × Blk)), vb b)) ?_; simp only [al, Bool.true_and]; apply Bool.eq_iff_iff.2; simp; done) | (refine congrArg (fun b => some (([] : List (Nat × Blk)), vb b)) ?_; simp only [al, Bool.true_and]; apply Bool.eq_iff_iff.2; simp; omega)
  · refine AWP.seq ?_
    refine AWP.regionT tcok hmix [] [0, 1, 4] [] (os := []) (s' := St.mk [(0, tp (u8 inh)), (1, tp (i64 4)), (4, tp (vb false))] []) (by kernel_rfl) trivial ?_
    refine AWP.seq ?_
    refine AWP.seq ?_
    refine AWP.regionT tcok hmix [] [0, 1, 4, 5] [] (os := []) (s' := St.mk [(0, tp (u8 inh)), (1, tp (i64 4)), (4, tp (vb false)), (5, tp (i64 0))] []) (by kernel_rfl) trivial ?_
    refine AWP.block ?_
    refine AWP.unroll 6 ?_
    refine AWP.seq ?_
    refine AWP.seq ?_
    refine AWP.regionT tcok hmix [] [0, 1, 4, 5, 6, 7, 8] [] (os := []) (s' := St.mk [(0, tp (u8 inh)), (1, tp (i64 4)), (4, tp (vb false)), (5, tp (i64 0)), (6, tp (i64 0)), (7, tp (i64 4)), (8, tp (vb true))] []) (by kernel_rfl) trivial ?_
    refine AWP.cond (b := true) (by kernel_rfl) (fun _ => ?_) (fun h => by cases h)
    refine AWP.skip ?_
    refine AWP.seq ?_
    refine AWP.block ?_
    refine AWP.region tcok hmix [(1, ⟨some (u8 (inh / 2)), none⟩)] (os := [(2 : Int) ≠ (0 : Int), u8 (IntKind.wrap IntKind.u8 (Int.tdiv inh 2)) = u8 (inh / 2)]) (sf := St.mk [(0, tp (u8 (inh / 2))), (1, tp (i64 4)), (4, tp (vb false)), (5, tp (i64 0)), (6, tp (i64 0)), (7, tp (i64 4)), (8, tp (vb true)), (11, tp (u8 inh)), (12, tp (u8 (inh / 2)))] []) (by kernel_rfl) ⟨(by omega), (wtd (by omega) (wr_u8 (by omega) (by omega))), trivial⟩ ?_
    refine AWP.region tcok hmix [] (os := []) (sf := St.mk [(0, tp (u8 (inh / 2))), (1, tp (i64 4)), (4, tp (vb false)), (5, tp (i64 1)), (6, tp (i64 0)), (7, tp (i64 4)), (8, tp (vb true)), (9, tp (i64 0)), (10, tp (i64 1)), (11, tp (u8 inh)), (12, tp (u8 (inh / 2)))] []) (by kernel_rfl) trivial ?_
    refine AWP.seq ?_
    refine AWP.seq ?_
    refine AWP.regionT tcok hmix [] [0, 1, 4, 5, 6, 7, 8, 9, 10, 11, 12] [] (os := []) (s' := St.mk [(0, tp (u8 (inh / 2))), (1, tp (i64 4)), (4, tp (vb false)), (5, tp (i64 1)), (6, tp (i64 1)), (7, tp (i64 4)), (8, tp (vb true)), (9, tp (i64 0)), (10, tp (i64 1)), (11, tp (u8 inh)), (12, tp (u8 (inh / 2)))] []) (by kernel_rfl) trivial ?_
    refine AWP.cond (b := true) (by kernel_rfl) (fun _ => ?_) (fun h => by cases h)
    refine AWP.skip ?_
    refine AWP.seq ?_
    refine AWP.block ?_
    refine AWP.region tcok hmix [(1, ⟨some (u8 (inh / 2 / 2)), none⟩)] (os := [(2 : Int) ≠ (0 : Int), u8 (IntKind.wrap IntKind.u8 (Int.tdiv (inh / 2) 2)) = u8 (inh / 2 / 2)]) (sf := St.mk [(0, tp (u8 (inh / 2 / 2))), (1, tp (i64 4)), (4, tp (vb false)), (5, tp (i64 1)), (6, tp (i64 1)), (7, tp (i64 4)), (8, tp (vb true)), (9, tp (i64 0)), (10, tp (i64 1)), (11, tp (u8 (inh / 2))), (12, tp (u8 (inh / 2 / 2)))] []) (by kernel_rfl) ⟨(by omega), (wtd (by omega) (wr_u8 (by omega) (by omega))), trivial⟩ ?_
    refine AWP.region tcok hmix [] (os := []) (sf := St.mk [(0, tp (u8 (inh / 2 / 2))), (1, tp (i64 4)), (4, tp (vb false)), (5, tp (i64 2)), (6, tp (i64 1)), (7, tp (i64 4)), (8, tp (vb true)), (9, tp (i64 1)), (10, tp (i64 2)), (11, tp (u8 (inh / 2))), (12, tp (u8 (inh / 2 / 2)))] []) (by kernel_rfl) trivial ?_
    refine AWP.seq ?_
    refine AWP.seq ?_
    refine AWP.regionT tcok hmix [] [0, 1, 4, 5, 6, 7, 8, 9, 10, 11, 12] [] (os := []) (s' := St.mk [(0, tp (u8 (inh / 2 / 2))), (1, tp (i64 4)), (4, tp (vb false)), (5, tp (i64 2)), (6, tp (i64 2)), (7, tp (i64 4)), (8, tp (vb true)), (9, tp (i64 1)), (10, tp (i64 2)), (11, tp (u8 (inh / 2))), (12, tp (u8 (inh / 2 / 2)))] []) (by kernel_rfl) trivial ?_
    refine AWP.cond (b := true) (by kernel_rfl) (fun _ => ?_) (fun h => by cases h)
    refine AWP.skip ?_
    refine AWP.seq ?_
    refine AWP.block ?_
    refine AWP.region tcok hmix [(1, ⟨some (u8 (inh / 2 / 2 / 2)), none⟩)] (os := [(2 : Int) ≠ (0 : Int), u8 (IntKind.wrap IntKind.u8 (Int.tdiv (inh / 2 / 2) 2)) = u8 (inh / 2 / 2 / 2)]) (sf := St.mk [(0, tp (u8 (inh / 2 / 2 / 2))), (1, tp (i64 4)), (4, tp (vb false)), (5, tp (i64 2)), (6, tp (i64 2)), (7, tp (i64 4)), (8, tp (vb true)), (9, tp (i64 1)), (10, tp (i64 2)), (11, tp (u8 (inh / 2 / 2))), (12, tp (u8 (inh / 2 / 2 / 2)))] []) (by kernel_rfl) ⟨(by omega), (wtd (by omega) (wr_u8 (by omega) (by omega))), trivial⟩ ?_
    refine AWP.region tcok hmix [] (os := []) (sf := St.mk [(0, tp (u8 (inh / 2 / 2 / 2))), (1, tp (i64 4)), (4, tp (vb false)), (5, tp (i64 3)), (6, tp (i64 2)), (7, tp (i64 4)), (8, tp (vb true)), (9, tp (i64 2)), (10, tp (i64 3)), (11, tp (u8 (inh / 2 / 2))), (12, tp (u8 (inh / 2 / 2 / 2)))] []) (by kernel_rfl) trivial ?_
    refine AWP.seq ?_
    refine AWP.seq ?_
    refine AWP.regionT tcok hmix [] [0, 1, 4, 5, 6, 7, 8, 9, 10, 11, 12] [] (os := []) (s' := St.mk [(0, tp (u8 (inh / 2 / 2 / 2))), (1, tp (i64 4)), (4, tp (vb false)), (5, tp (i64 3)), (6, tp (i64 3)), (7, tp (i64 4)), (8, tp (vb true)), (9, tp (i64 2)), (10, tp (i64 3)), (11, tp (u8 (inh / 2 / 2))), (12, tp (u8 (inh / 2 / 2 / 2)))] []) (by kernel_rfl) trivial ?_
    refine AWP.cond (b := true) (by kernel_rfl) (fun _ => ?_) (fun h => by cases h)
    refine AWP.skip ?_
    refine AWP.seq ?_
    refine AWP.block ?_
    refine AWP.region tcok hmix [(1, ⟨some (u8 (inh / 2 / 2 / 2 / 2)), none⟩)] (os := [(2 : Int) ≠ (0 : Int), u8 (IntKind.wrap IntKind.u8 (Int.tdiv (inh / 2 / 2 / 2) 2)) = u8 (inh / 2 / 2 / 2 / 2)]) (sf := St.mk [(0, tp (u8 (inh / 2 / 2 / 2 / 2))), (1, tp (i64 4)), (4, tp (vb false)), (5, tp (i64 3)), (6, tp (i64 3)), (7, tp (i64 4)), (8, tp (vb true)), (9, tp (i64 2)), (10, tp (i64 3)), (11, tp (u8 (inh / 2 / 2 / 2))), (12, tp (u8 (inh / 2 / 2 / 2 / 2)))] []) (by kernel_rfl) ⟨(by omega), (wtd (by omega) (wr_u8 (by omega) (by omega))), trivial⟩ ?_
    refine AWP.region tcok hmix [] (os := []) (sf := St.mk [(0, tp (u8 (inh / 2 / 2 / 2 / 2))), (1, tp (i64 4)), (4, tp (vb false)), (5, tp (i64 4)), (6, tp (i64 3)), (7, tp (i64 4)), (8, tp (vb true)), (9, tp (i64 3)), (10, tp (i64 4)), (11, tp (u8 (inh / 2 / 2 / 2))), (12, tp (u8 (inh / 2 / 2 / 2 / 2)))] []) (by kernel_rfl) trivial ?_
    refine AWP.seq ?_
    refine AWP.seq ?_
    refine AWP.regionT tcok hmix [] [0, 1, 4, 5, 6, 7, 8, 9, 10, 11, 12] [] (os := []) (s' := St.mk [(0, tp (u8 (inh / 2 / 2 / 2 / 2))), (1, tp (i64 4)), (4, tp (vb false)), (5, tp (i64 4)), (6, tp (i64 4)), (7, tp (i64 4)), (8, tp (vb false)), (9, tp (i64 3)), (10, tp (i64 4)), (11, tp (u8 (inh / 2 / 2 / 2))), (12, tp (u8 (inh / 2 / 2 / 2 / 2)))] []) (by kernel_rfl) trivial ?_
    refine AWP.cond (b := false) (by kernel_rfl) (fun h => by cases h) (fun _ => ?_)
    refine AWP.exit ?_
    refine AWP.seq ?_
    refine AWP.regionT tcok hmix [(8, ⟨some (u8 (inh / 2 / 2 / 2 / 2 % 2)), none⟩)] [4] [] (os := [true = true → (2 : Int) ≠ (0 : Int) ∧ u8 (Int.tmod (inh / (2 : Int) / (2 : Int) / (2 : Int) / (2 : Int)) (2 : Int)) = u8 (inh / (2 : Int) / (2 : Int) / (2 : Int) / (2 : Int) % (2 : Int)) ∧ True]) (s' := St.mk [(4, tp (vb (true && inh / 2 / 2 / 2 / 2 % 2 == 0)))] []) (by kernel_rfl) ⟨(by intro hc0; first | (cases hc0; done) | (try simp only [Bool.or_false, Bool.false_or, Bool.true_and, Bool.and_true, decide_eq_true_eq, decide_eq_false_iff_not, Bool.and_eq_true, Bool.or_eq_true, Bool.or_eq_false_iff, Bool.not_eq_true', Bool.and_eq_false_iff, beq_iff_eq, bne_iff_ne, bne_eq_false_iff_eq, beq_eq_false_iff_ne, Bool.not_eq_false'] at hc0; exact ⟨(by omega), (tm_ (by omega)), trivial⟩)), trivial⟩ ?_
    refine AWP.ret ?_
    refine ⟨Or.inr rfl, Eq.trans (b := some ([], vb (true && inh / 2 / 2 / 2 / 2 % 2 == 0))) (by kernel_rfl) ?_⟩
    first | (refine congrArg (fun b => some (([] : List (Nat × Blk)), vb b)) ?_; simp only [al, Bool.true_and]; apply Bool.eq_iff_iff.2; simp; done) | (refine congrArg (fun b => some (([] : List (Nat × Blk)), vb b)) ?_; simp only [al, Bool.true_and]; apply Bool.eq_iff_iff.2; simp; omega)
theorem con_awake22 : Con Tryd.prog 11 [] [] [] (vb true) := run_con tcok (by kernel_rfl) 400 8 (by kernel_rfl)
end Go.Proofs.YtklbonfbiakebaaDoor
