/- Sets of units: the next one. -/
import Derived.Test.YtmeiemdnhjnpcaaDoorRg
import Derived.Test.YtmeiemdnhjnpcaaDoorBitP
namespace Go.Proofs.YtmeiemdnhjnpcaaDoor
open Go.Ab
set_option linter.unusedSimpArgs false
set_option linter.unusedVariables false
set_option maxHeartbeats 4000000
set_option maxRecDepth 100000
/-- The least unit from n on, or -1. -/
def nxt (s : Int) (n : Nat) : Int := match ups s n with | [] => -1 | k :: _ => (k : Int)
theorem iand16_nat {a b : Int} (ha : 0 ≤ a ∧ a < 65536) (hb : 0 ≤ b ∧ b < 65536) : iand .u16 a b = ((a.toNat &&& b.toNat : Nat) : Int) := by
  rw [iand16, BitVec.toNat_and]
  have e1 := u16_bv a ha
  have e2 := u16_bv b hb
  have f1 : (BitVec.ofInt 16 a).toNat = a.toNat := by omega
  have f2 : (BitVec.ofInt 16 b).toNat = b.toNat := by omega
  rw [f1, f2]
theorem con_tz (x : Int) (hx : 0 < x ∧ x < 65536) (k : Nat) (hk : k < 16) (h : x.toNat &&& (65536 - x.toNat) = 2 ^ k) : Con Tryd.prog 28 [] [u16 x] [] (i64 k) := by
  have hp : iand .u16 x (65536 - x) = ((2 ^ k : Nat) : Int) := by
    rw [iand16_nat (by omega) (by omega), ← h]
    congr 2
    omega
  have wf1 : (0 - x) % 65536 = 65536 - x := by omega
  have wf1b : (-x) % 65536 = 65536 - x := by omega
  have wf1c : IntKind.wrap .u16 (0 - x) = 65536 - x := wf1
  have wf1d : IntKind.wrap .u16 (-x) = 65536 - x := wf1b
  clear h
  rcases (by omega : k = 0 ∨ k = 1 ∨ k = 2 ∨ k = 3 ∨ k = 4 ∨ k = 5 ∨ k = 6 ∨ k = 7 ∨ k = 8 ∨ k = 9 ∨ k = 10 ∨ k = 11 ∨ k = 12 ∨ k = 13 ∨ k = 14 ∨ k = 15) with rfl | rfl | rfl | rfl | rfl | rfl | rfl | rfl | rfl | rfl | rfl | rfl | rfl | rfl | rfl | rfl
  · have wf2 : iand .u16 x (65536 - x) = 1 := hp
    clear hp
    refine Con.of (C := ⟨Tryd.prog, tc, Tryd.f28.ntmps⟩) [] tcok Tryd.func28 rfl rfl (by kernel_rfl) (by kernel_rfl) ?_
    refine xe0 [0, 2] [] (by kernel_rfl) ?_
    refine AWP.seq ?_
    refine xe0 [0, 2, 4] [] (by kernel_rfl) ?_
    refine AWP.cond (b := x == 0) (by kernel_rfl) (fun hq0 => ?_) (fun hq0 => ?_)
    · simp only [beq_iff_eq] at hq0
      (exfalso; omega)
    simp only [beq_eq_false_iff_ne] at hq0
    refine AWP.skip ?_
    refine xe1 (os := [u16 (IntKind.wrap IntKind.u16 (0 - x)) = u16 (65536 - x), u16 (iand IntKind.u16 x (65536 - x)) = u16 1]) [(2, ⟨some (u16 (65536 - x)), none⟩), (3, ⟨some (u16 1), none⟩)] [2] [] (by kernel_rfl) ⟨(in_eq wf1c), (in_eq wf2), trivial⟩ ?_
    refine AWP.ret ?_
    refine ⟨Or.inr rfl, Eq.trans (b := some ([], i64 0)) (by kernel_rfl) ?_⟩
    rfl
  · have wf2 : iand .u16 x (65536 - x) = 2 := hp
    clear hp
    refine Con.of (C := ⟨Tryd.prog, tc, Tryd.f28.ntmps⟩) [] tcok Tryd.func28 rfl rfl (by kernel_rfl) (by kernel_rfl) ?_
    refine xe0 [0, 2] [] (by kernel_rfl) ?_
    refine AWP.seq ?_
    refine xe0 [0, 2, 4] [] (by kernel_rfl) ?_
    refine AWP.cond (b := x == 0) (by kernel_rfl) (fun hq1 => ?_) (fun hq1 => ?_)
    · simp only [beq_iff_eq] at hq1
      (exfalso; omega)
    simp only [beq_eq_false_iff_ne] at hq1
    refine AWP.skip ?_
    refine xe1 (os := [u16 (IntKind.wrap IntKind.u16 (0 - x)) = u16 (65536 - x), u16 (iand IntKind.u16 x (65536 - x)) = u16 2]) [(2, ⟨some (u16 (65536 - x)), none⟩), (3, ⟨some (u16 2), none⟩)] [2] [] (by kernel_rfl) ⟨(in_eq wf1c), (in_eq wf2), trivial⟩ ?_
    refine AWP.ret ?_
    refine ⟨Or.inr rfl, Eq.trans (b := some ([], i64 1)) (by kernel_rfl) ?_⟩
    rfl
  · have wf2 : iand .u16 x (65536 - x) = 4 := hp
    clear hp
    refine Con.of (C := ⟨Tryd.prog, tc, Tryd.f28.ntmps⟩) [] tcok Tryd.func28 rfl rfl (by kernel_rfl) (by kernel_rfl) ?_
    refine xe0 [0, 2] [] (by kernel_rfl) ?_
    refine AWP.seq ?_
    refine xe0 [0, 2, 4] [] (by kernel_rfl) ?_
    refine AWP.cond (b := x == 0) (by kernel_rfl) (fun hq2 => ?_) (fun hq2 => ?_)
    · simp only [beq_iff_eq] at hq2
      (exfalso; omega)
    simp only [beq_eq_false_iff_ne] at hq2
    refine AWP.skip ?_
    refine xe1 (os := [u16 (IntKind.wrap IntKind.u16 (0 - x)) = u16 (65536 - x), u16 (iand IntKind.u16 x (65536 - x)) = u16 4]) [(2, ⟨some (u16 (65536 - x)), none⟩), (3, ⟨some (u16 4), none⟩)] [2] [] (by kernel_rfl) ⟨(in_eq wf1c), (in_eq wf2), trivial⟩ ?_
    refine AWP.ret ?_
    refine ⟨Or.inr rfl, Eq.trans (b := some ([], i64 2)) (by kernel_rfl) ?_⟩
    rfl
  · have wf2 : iand .u16 x (65536 - x) = 8 := hp
    clear hp
    refine Con.of (C := ⟨Tryd.prog, tc, Tryd.f28.ntmps⟩) [] tcok Tryd.func28 rfl rfl (by kernel_rfl) (by kernel_rfl) ?_
    refine xe0 [0, 2] [] (by kernel_rfl) ?_
    refine AWP.seq ?_
    refine xe0 [0, 2, 4] [] (by kernel_rfl) ?_
    refine AWP.cond (b := x == 0) (by kernel_rfl) (fun hq3 => ?_) (fun hq3 => ?_)
    · simp only [beq_iff_eq] at hq3
      (exfalso; omega)
    simp only [beq_eq_false_iff_ne] at hq3
    refine AWP.skip ?_
    refine xe1 (os := [u16 (IntKind.wrap IntKind.u16 (0 - x)) = u16 (65536 - x), u16 (iand IntKind.u16 x (65536 - x)) = u16 8]) [(2, ⟨some (u16 (65536 - x)), none⟩), (3, ⟨some (u16 8), none⟩)] [2] [] (by kernel_rfl) ⟨(in_eq wf1c), (in_eq wf2), trivial⟩ ?_
    refine AWP.ret ?_
    refine ⟨Or.inr rfl, Eq.trans (b := some ([], i64 3)) (by kernel_rfl) ?_⟩
    rfl
  · have wf2 : iand .u16 x (65536 - x) = 16 := hp
    clear hp
    refine Con.of (C := ⟨Tryd.prog, tc, Tryd.f28.ntmps⟩) [] tcok Tryd.func28 rfl rfl (by kernel_rfl) (by kernel_rfl) ?_
    refine xe0 [0, 2] [] (by kernel_rfl) ?_
    refine AWP.seq ?_
    refine xe0 [0, 2, 4] [] (by kernel_rfl) ?_
    refine AWP.cond (b := x == 0) (by kernel_rfl) (fun hq4 => ?_) (fun hq4 => ?_)
    · simp only [beq_iff_eq] at hq4
      (exfalso; omega)
    simp only [beq_eq_false_iff_ne] at hq4
    refine AWP.skip ?_
    refine xe1 (os := [u16 (IntKind.wrap IntKind.u16 (0 - x)) = u16 (65536 - x), u16 (iand IntKind.u16 x (65536 - x)) = u16 16]) [(2, ⟨some (u16 (65536 - x)), none⟩), (3, ⟨some (u16 16), none⟩)] [2] [] (by kernel_rfl) ⟨(in_eq wf1c), (in_eq wf2), trivial⟩ ?_
    refine AWP.ret ?_
    refine ⟨Or.inr rfl, Eq.trans (b := some ([], i64 4)) (by kernel_rfl) ?_⟩
    rfl
  · have wf2 : iand .u16 x (65536 - x) = 32 := hp
    clear hp
    refine Con.of (C := ⟨Tryd.prog, tc, Tryd.f28.ntmps⟩) [] tcok Tryd.func28 rfl rfl (by kernel_rfl) (by kernel_rfl) ?_
    refine xe0 [0, 2] [] (by kernel_rfl) ?_
    refine AWP.seq ?_
    refine xe0 [0, 2, 4] [] (by kernel_rfl) ?_
    refine AWP.cond (b := x == 0) (by kernel_rfl) (fun hq5 => ?_) (fun hq5 => ?_)
    · simp only [beq_iff_eq] at hq5
      (exfalso; omega)
    simp only [beq_eq_false_iff_ne] at hq5
    refine AWP.skip ?_
    refine xe1 (os := [u16 (IntKind.wrap IntKind.u16 (0 - x)) = u16 (65536 - x), u16 (iand IntKind.u16 x (65536 - x)) = u16 32]) [(2, ⟨some (u16 (65536 - x)), none⟩), (3, ⟨some (u16 32), none⟩)] [2] [] (by kernel_rfl) ⟨(in_eq wf1c), (in_eq wf2), trivial⟩ ?_
    refine AWP.ret ?_
    refine ⟨Or.inr rfl, Eq.trans (b := some ([], i64 5)) (by kernel_rfl) ?_⟩
    rfl
  · have wf2 : iand .u16 x (65536 - x) = 64 := hp
    clear hp
    refine Con.of (C := ⟨Tryd.prog, tc, Tryd.f28.ntmps⟩) [] tcok Tryd.func28 rfl rfl (by kernel_rfl) (by kernel_rfl) ?_
    refine xe0 [0, 2] [] (by kernel_rfl) ?_
    refine AWP.seq ?_
    refine xe0 [0, 2, 4] [] (by kernel_rfl) ?_
    refine AWP.cond (b := x == 0) (by kernel_rfl) (fun hq6 => ?_) (fun hq6 => ?_)
    · simp only [beq_iff_eq] at hq6
      (exfalso; omega)
    simp only [beq_eq_false_iff_ne] at hq6
    refine AWP.skip ?_
    refine xe1 (os := [u16 (IntKind.wrap IntKind.u16 (0 - x)) = u16 (65536 - x), u16 (iand IntKind.u16 x (65536 - x)) = u16 64]) [(2, ⟨some (u16 (65536 - x)), none⟩), (3, ⟨some (u16 64), none⟩)] [2] [] (by kernel_rfl) ⟨(in_eq wf1c), (in_eq wf2), trivial⟩ ?_
    refine AWP.ret ?_
    refine ⟨Or.inr rfl, Eq.trans (b := some ([], i64 6)) (by kernel_rfl) ?_⟩
    rfl
  · have wf2 : iand .u16 x (65536 - x) = 128 := hp
    clear hp
    refine Con.of (C := ⟨Tryd.prog, tc, Tryd.f28.ntmps⟩) [] tcok Tryd.func28 rfl rfl (by kernel_rfl) (by kernel_rfl) ?_
    refine xe0 [0, 2] [] (by kernel_rfl) ?_
    refine AWP.seq ?_
    refine xe0 [0, 2, 4] [] (by kernel_rfl) ?_
    refine AWP.cond (b := x == 0) (by kernel_rfl) (fun hq7 => ?_) (fun hq7 => ?_)
    · simp only [beq_iff_eq] at hq7
      (exfalso; omega)
    simp only [beq_eq_false_iff_ne] at hq7
    refine AWP.skip ?_
    refine xe1 (os := [u16 (IntKind.wrap IntKind.u16 (0 - x)) = u16 (65536 - x), u16 (iand IntKind.u16 x (65536 - x)) = u16 128]) [(2, ⟨some (u16 (65536 - x)), none⟩), (3, ⟨some (u16 128), none⟩)] [2] [] (by kernel_rfl) ⟨(in_eq wf1c), (in_eq wf2), trivial⟩ ?_
    refine AWP.ret ?_
    refine ⟨Or.inr rfl, Eq.trans (b := some ([], i64 7)) (by kernel_rfl) ?_⟩
    rfl
  · have wf2 : iand .u16 x (65536 - x) = 256 := hp
    clear hp
    refine Con.of (C := ⟨Tryd.prog, tc, Tryd.f28.ntmps⟩) [] tcok Tryd.func28 rfl rfl (by kernel_rfl) (by kernel_rfl) ?_
    refine xe0 [0, 2] [] (by kernel_rfl) ?_
    refine AWP.seq ?_
    refine xe0 [0, 2, 4] [] (by kernel_rfl) ?_
    refine AWP.cond (b := x == 0) (by kernel_rfl) (fun hq8 => ?_) (fun hq8 => ?_)
    · simp only [beq_iff_eq] at hq8
      (exfalso; omega)
    simp only [beq_eq_false_iff_ne] at hq8
    refine AWP.skip ?_
    refine xe1 (os := [u16 (IntKind.wrap IntKind.u16 (0 - x)) = u16 (65536 - x), u16 (iand IntKind.u16 x (65536 - x)) = u16 256]) [(2, ⟨some (u16 (65536 - x)), none⟩), (3, ⟨some (u16 256), none⟩)] [2] [] (by kernel_rfl) ⟨(in_eq wf1c), (in_eq wf2), trivial⟩ ?_
    refine AWP.ret ?_
    refine ⟨Or.inr rfl, Eq.trans (b := some ([], i64 8)) (by kernel_rfl) ?_⟩
    rfl
  · have wf2 : iand .u16 x (65536 - x) = 512 := hp
    clear hp
    refine Con.of (C := ⟨Tryd.prog, tc, Tryd.f28.ntmps⟩) [] tcok Tryd.func28 rfl rfl (by kernel_rfl) (by kernel_rfl) ?_
    refine xe0 [0, 2] [] (by kernel_rfl) ?_
    refine AWP.seq ?_
    refine xe0 [0, 2, 4] [] (by kernel_rfl) ?_
    refine AWP.cond (b := x == 0) (by kernel_rfl) (fun hq9 => ?_) (fun hq9 => ?_)
    · simp only [beq_iff_eq] at hq9
      (exfalso; omega)
    simp only [beq_eq_false_iff_ne] at hq9
    refine AWP.skip ?_
    refine xe1 (os := [u16 (IntKind.wrap IntKind.u16 (0 - x)) = u16 (65536 - x), u16 (iand IntKind.u16 x (65536 - x)) = u16 512]) [(2, ⟨some (u16 (65536 - x)), none⟩), (3, ⟨some (u16 512), none⟩)] [2] [] (by kernel_rfl) ⟨(in_eq wf1c), (in_eq wf2), trivial⟩ ?_
    refine AWP.ret ?_
    refine ⟨Or.inr rfl, Eq.trans (b := some ([], i64 9)) (by kernel_rfl) ?_⟩
    rfl
  · have wf2 : iand .u16 x (65536 - x) = 1024 := hp
    clear hp
    refine Con.of (C := ⟨Tryd.prog, tc, Tryd.f28.ntmps⟩) [] tcok Tryd.func28 rfl rfl (by kernel_rfl) (by kernel_rfl) ?_
    refine xe0 [0, 2] [] (by kernel_rfl) ?_
    refine AWP.seq ?_
    refine xe0 [0, 2, 4] [] (by kernel_rfl) ?_
    refine AWP.cond (b := x == 0) (by kernel_rfl) (fun hq10 => ?_) (fun hq10 => ?_)
    · simp only [beq_iff_eq] at hq10
      (exfalso; omega)
    simp only [beq_eq_false_iff_ne] at hq10
    refine AWP.skip ?_
    refine xe1 (os := [u16 (IntKind.wrap IntKind.u16 (0 - x)) = u16 (65536 - x), u16 (iand IntKind.u16 x (65536 - x)) = u16 1024]) [(2, ⟨some (u16 (65536 - x)), none⟩), (3, ⟨some (u16 1024), none⟩)] [2] [] (by kernel_rfl) ⟨(in_eq wf1c), (in_eq wf2), trivial⟩ ?_
    refine AWP.ret ?_
    refine ⟨Or.inr rfl, Eq.trans (b := some ([], i64 10)) (by kernel_rfl) ?_⟩
    rfl
  · have wf2 : iand .u16 x (65536 - x) = 2048 := hp
    clear hp
    refine Con.of (C := ⟨Tryd.prog, tc, Tryd.f28.ntmps⟩) [] tcok Tryd.func28 rfl rfl (by kernel_rfl) (by kernel_rfl) ?_
    refine xe0 [0, 2] [] (by kernel_rfl) ?_
    refine AWP.seq ?_
    refine xe0 [0, 2, 4] [] (by kernel_rfl) ?_
    refine AWP.cond (b := x == 0) (by kernel_rfl) (fun hq11 => ?_) (fun hq11 => ?_)
    · simp only [beq_iff_eq] at hq11
      (exfalso; omega)
    simp only [beq_eq_false_iff_ne] at hq11
    refine AWP.skip ?_
    refine xe1 (os := [u16 (IntKind.wrap IntKind.u16 (0 - x)) = u16 (65536 - x), u16 (iand IntKind.u16 x (65536 - x)) = u16 2048]) [(2, ⟨some (u16 (65536 - x)), none⟩), (3, ⟨some (u16 2048), none⟩)] [2] [] (by kernel_rfl) ⟨(in_eq wf1c), (in_eq wf2), trivial⟩ ?_
    refine AWP.ret ?_
    refine ⟨Or.inr rfl, Eq.trans (b := some ([], i64 11)) (by kernel_rfl) ?_⟩
    rfl
  · have wf2 : iand .u16 x (65536 - x) = 4096 := hp
    clear hp
    refine Con.of (C := ⟨Tryd.prog, tc, Tryd.f28.ntmps⟩) [] tcok Tryd.func28 rfl rfl (by kernel_rfl) (by kernel_rfl) ?_
    refine xe0 [0, 2] [] (by kernel_rfl) ?_
    refine AWP.seq ?_
    refine xe0 [0, 2, 4] [] (by kernel_rfl) ?_
    refine AWP.cond (b := x == 0) (by kernel_rfl) (fun hq12 => ?_) (fun hq12 => ?_)
    · simp only [beq_iff_eq] at hq12
      (exfalso; omega)
    simp only [beq_eq_false_iff_ne] at hq12
    refine AWP.skip ?_
    refine xe1 (os := [u16 (IntKind.wrap IntKind.u16 (0 - x)) = u16 (65536 - x), u16 (iand IntKind.u16 x (65536 - x)) = u16 4096]) [(2, ⟨some (u16 (65536 - x)), none⟩), (3, ⟨some (u16 4096), none⟩)] [2] [] (by kernel_rfl) ⟨(in_eq wf1c), (in_eq wf2), trivial⟩ ?_
    refine AWP.ret ?_
    refine ⟨Or.inr rfl, Eq.trans (b := some ([], i64 12)) (by kernel_rfl) ?_⟩
    rfl
  · have wf2 : iand .u16 x (65536 - x) = 8192 := hp
    clear hp
    refine Con.of (C := ⟨Tryd.prog, tc, Tryd.f28.ntmps⟩) [] tcok Tryd.func28 rfl rfl (by kernel_rfl) (by kernel_rfl) ?_
    refine xe0 [0, 2] [] (by kernel_rfl) ?_
    refine AWP.seq ?_
    refine xe0 [0, 2, 4] [] (by kernel_rfl) ?_
    refine AWP.cond (b := x == 0) (by kernel_rfl) (fun hq13 => ?_) (fun hq13 => ?_)
    · simp only [beq_iff_eq] at hq13
      (exfalso; omega)
    simp only [beq_eq_false_iff_ne] at hq13
    refine AWP.skip ?_
    refine xe1 (os := [u16 (IntKind.wrap IntKind.u16 (0 - x)) = u16 (65536 - x), u16 (iand IntKind.u16 x (65536 - x)) = u16 8192]) [(2, ⟨some (u16 (65536 - x)), none⟩), (3, ⟨some (u16 8192), none⟩)] [2] [] (by kernel_rfl) ⟨(in_eq wf1c), (in_eq wf2), trivial⟩ ?_
    refine AWP.ret ?_
    refine ⟨Or.inr rfl, Eq.trans (b := some ([], i64 13)) (by kernel_rfl) ?_⟩
    rfl
  · have wf2 : iand .u16 x (65536 - x) = 16384 := hp
    clear hp
    refine Con.of (C := ⟨Tryd.prog, tc, Tryd.f28.ntmps⟩) [] tcok Tryd.func28 rfl rfl (by kernel_rfl) (by kernel_rfl) ?_
    refine xe0 [0, 2] [] (by kernel_rfl) ?_
    refine AWP.seq ?_
    refine xe0 [0, 2, 4] [] (by kernel_rfl) ?_
    refine AWP.cond (b := x == 0) (by kernel_rfl) (fun hq14 => ?_) (fun hq14 => ?_)
    · simp only [beq_iff_eq] at hq14
      (exfalso; omega)
    simp only [beq_eq_false_iff_ne] at hq14
    refine AWP.skip ?_
    refine xe1 (os := [u16 (IntKind.wrap IntKind.u16 (0 - x)) = u16 (65536 - x), u16 (iand IntKind.u16 x (65536 - x)) = u16 16384]) [(2, ⟨some (u16 (65536 - x)), none⟩), (3, ⟨some (u16 16384), none⟩)] [2] [] (by kernel_rfl) ⟨(in_eq wf1c), (in_eq wf2), trivial⟩ ?_
    refine AWP.ret ?_
    refine ⟨Or.inr rfl, Eq.trans (b := some ([], i64 14)) (by kernel_rfl) ?_⟩
    rfl
  · have wf2 : iand .u16 x (65536 - x) = 32768 := hp
    clear hp
    refine Con.of (C := ⟨Tryd.prog, tc, Tryd.f28.ntmps⟩) [] tcok Tryd.func28 rfl rfl (by kernel_rfl) (by kernel_rfl) ?_
    refine xe0 [0, 2] [] (by kernel_rfl) ?_
    refine AWP.seq ?_
    refine xe0 [0, 2, 4] [] (by kernel_rfl) ?_
    refine AWP.cond (b := x == 0) (by kernel_rfl) (fun hq15 => ?_) (fun hq15 => ?_)
    · simp only [beq_iff_eq] at hq15
      (exfalso; omega)
    simp only [beq_eq_false_iff_ne] at hq15
    refine AWP.skip ?_
    refine xe1 (os := [u16 (IntKind.wrap IntKind.u16 (0 - x)) = u16 (65536 - x), u16 (iand IntKind.u16 x (65536 - x)) = u16 32768]) [(2, ⟨some (u16 (65536 - x)), none⟩), (3, ⟨some (u16 32768), none⟩)] [2] [] (by kernel_rfl) ⟨(in_eq wf1c), (in_eq wf2), trivial⟩ ?_
    refine AWP.ret ?_
    refine ⟨Or.inr rfl, Eq.trans (b := some ([], i64 15)) (by kernel_rfl) ?_⟩
    rfl
theorem con_next (s i : Int) (hs : 0 ≤ s ∧ s < 65536) : Con Tryd.prog 16 [] [u16 s, i64 i] [] (i64 (nxt s i.toNat)) := by
  by_cases hi : 16 ≤ i
  · have e : nxt s i.toNat = -1 := by unfold nxt; rw [ups_end (by omega)]
    rw [e]
    refine Con.of (C := ⟨Tryd.prog, tc, Tryd.f16.ntmps⟩) [] tcok Tryd.func16 rfl rfl (by kernel_rfl) (by kernel_rfl) ?_
    refine xe0 [0, 1, 4] [] (by kernel_rfl) ?_
    refine AWP.seq ?_
    refine xe0 [0, 1, 4, 6] [] (by kernel_rfl) ?_
    refine AWP.cond (b := decide (i ≥ 16)) (by kernel_rfl) (fun hq16 => ?_) (fun hq16 => ?_)
    · simp only [decide_eq_true_eq] at hq16
      refine xe0 [0, 1, 4] [] (by kernel_rfl) ?_
      refine AWP.ret ?_
      refine ⟨Or.inr rfl, Eq.trans (b := some ([], i64 (-1))) (by kernel_rfl) ?_⟩
      first | rfl | (exfalso; omega)
    simp only [decide_eq_false_iff_not] at hq16
    (exfalso; omega)
  obtain ⟨m, hm⟩ : ∃ m : Nat, i.toNat = m := ⟨_, rfl⟩
  have wf1 : imax i 0 = (m : Int) := by unfold imax; omega
  rw [hm]
  by_cases ht : iand .u16 s (ishl .u16 65535 (m : Nat)) = 0
  · have e : nxt s m = -1 := by unfold nxt; rw [mask_zero s m (by omega) ht]
    rw [e]
    refine Con.of (C := ⟨Tryd.prog, tc, Tryd.f16.ntmps⟩) [] tcok Tryd.func16 rfl rfl (by kernel_rfl) (by kernel_rfl) ?_
    refine xe0 [0, 1, 4] [] (by kernel_rfl) ?_
    refine AWP.seq ?_
    refine xe0 [0, 1, 4, 6] [] (by kernel_rfl) ?_
    refine AWP.cond (b := decide (i ≥ 16)) (by kernel_rfl) (fun hq17 => ?_) (fun hq17 => ?_)
    · simp only [decide_eq_true_eq] at hq17
      (exfalso; omega)
    simp only [decide_eq_false_iff_not] at hq17
    refine AWP.skip ?_
    refine xe1 (os := [i64 (imax i 0) = i64 (↑m : Int), u16 (iand IntKind.u16 s (ishl IntKind.u16 65535 (↑m : Int))) = u16 0]) [(2, ⟨some (i64 (↑m : Int)), none⟩), (4, ⟨some (u16 0), none⟩)] [0, 4] [] (by kernel_rfl) ⟨(in_eq wf1), (in_eq ht), trivial⟩ ?_
    refine AWP.seq ?_
    refine xe0 [0, 4, 13] [] (by kernel_rfl) ?_
    refine AWP.condT (by kernel_rfl) ?_
    refine xe0 [0, 4] [] (by kernel_rfl) ?_
    refine AWP.ret ?_
    refine ⟨Or.inr rfl, Eq.trans (b := some ([], i64 (-1))) (by kernel_rfl) ?_⟩
    first | rfl | (exfalso; omega)
  · obtain ⟨k, h1, h2, h3, h4⟩ := mask_low s m (by omega) ht
    have hb := iand16_bd s (ishl .u16 65535 (m : Nat))
    have e : nxt s m = (k : Int) := by unfold nxt; rw [h2]
    rw [e]
    have c := con_tz _ (by omega) k h1 h4
    refine Con.of (C := ⟨Tryd.prog, tc, Tryd.f16.ntmps⟩) [] tcok Tryd.func16 rfl rfl (by kernel_rfl) (by kernel_rfl) ?_
    refine xe0 [0, 1, 4] [] (by kernel_rfl) ?_
    refine AWP.seq ?_
    refine xe0 [0, 1, 4, 6] [] (by kernel_rfl) ?_
    refine AWP.cond (b := decide (i ≥ 16)) (by kernel_rfl) (fun hq19 => ?_) (fun hq19 => ?_)
    · simp only [decide_eq_true_eq] at hq19
      (exfalso; omega)
    simp only [decide_eq_false_iff_not] at hq19
    refine AWP.skip ?_
    refine xe1 (os := [i64 (imax i 0) = i64 (↑m : Int)]) [(2, ⟨some (i64 (↑m : Int)), none⟩)] [0, 4] [] (by kernel_rfl) ⟨(in_eq wf1), trivial⟩ ?_
    refine AWP.seq ?_
    refine xe0 [0, 4, 13] [] (by kernel_rfl) ?_
    refine AWP.cond (b := iand IntKind.u16 s (ishl IntKind.u16 65535 (↑m : Int)) == 0) (by kernel_rfl) (fun hq20 => ?_) (fun hq20 => ?_)
    · simp only [beq_iff_eq] at hq20
      (exfalso; omega)
    simp only [beq_eq_false_iff_ne] at hq20
    refine AWP.skip ?_
    refine xe1 (os := [Con Tryd.prog 28 [] [u16 (iand IntKind.u16 s (ishl IntKind.u16 65535 (↑m : Int)))] [] (i64 (↑k : Int))]) [(1, ⟨none, some ⟨i64 (↑k : Int), [], []⟩⟩)] [4] [] (by kernel_rfl) ⟨(c ), trivial⟩ ?_
    refine AWP.ret ?_
    refine ⟨Or.inr rfl, Eq.trans (b := some ([], i64 (↑k : Int))) (by kernel_rfl) ?_⟩
    first | rfl | (exfalso; omega)
theorem con_first (s : Int) (hs : 0 ≤ s ∧ s < 65536) : Con Tryd.prog 17 [] [u16 s] [] (i64 (nxt s 0)) := by
  have c : Con Tryd.prog 16 [] [u16 s, i64 0] [] (i64 (nxt s 0)) := con_next s 0 hs
  refine Con.of (C := ⟨Tryd.prog, tc, Tryd.f17.ntmps⟩) [] tcok Tryd.func17 rfl rfl (by kernel_rfl) (by kernel_rfl) ?_
  refine xe0 [0, 2] [] (by kernel_rfl) ?_
  refine xe1 (os := [Con Tryd.prog 16 [] [u16 s, i64 0] [] (i64 (nxt s 0))]) [(1, ⟨none, some ⟨i64 (nxt s 0), [], []⟩⟩)] [2] [] (by kernel_rfl) ⟨(c ), trivial⟩ ?_
  refine AWP.ret ?_
  refine ⟨Or.inr rfl, Eq.trans (b := some ([], i64 (nxt s 0))) (by kernel_rfl) ?_⟩
  rfl
end Go.Proofs.YtmeiemdnhjnpcaaDoor
