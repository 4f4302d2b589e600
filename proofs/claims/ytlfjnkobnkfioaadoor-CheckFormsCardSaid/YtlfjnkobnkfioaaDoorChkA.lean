/- Package check and the document's answer: what each function returns. -/
import Derived.Test.YtlfjnkobnkfioaaDoorRg
import Derived.Test.YtlfjnkobnkfioaaDoorTc
import Derived.Test.YtlfjnkobnkfioaaDoorAb26
namespace Go.Proofs.YtlfjnkobnkfioaaDoor
open Go.Ab
set_option linter.unusedSimpArgs false
set_option linter.unusedVariables false
set_option maxHeartbeats 4000000
abbrev dV (k pa lo hi ma wa : Int) : V := .agg true [u8 k, i64 pa, i32 lo, i32 hi, u32 ma, u32 wa]
def cright (k pa lo hi : Int) : Bool := decide (k ≤ 2) && (decide (pa ≥ 0) && (decide (pa < 16) && decide (lo ≤ hi)))
def betw (lo hi n : Int) : Int := if n < lo then 2 else if n > hi then 3 else 1
/-- What differs, under the mask. -/
def mis (now wa ma : Int) : Int := iand .u32 (ixor .u32 (now % 4294967296) wa) ma
def look (k pa lo hi ma wa now bef : Int) (first : Bool) : Int :=
  if cright k pa lo hi = false then 0 else if k = 2 ∧ first = true then 0
  else if k = 0 then betw lo hi now else if k = 2 then betw lo hi (now - bef) else if mis now wa ma ≠ 0 then 4 else 1
theorem con_between (k pa lo hi ma wa n : Int) (hlo : -2147483648 ≤ lo ∧ lo ≤ 2147483647) (hhi : -2147483648 ≤ hi ∧ hi ≤ 2147483647) : Con Tryd.prog 22 [] [dV k pa lo hi ma wa, i64 n] [] (u8 (betw lo hi n)) := by
  refine Con.of (C := ⟨Tryd.prog, tc, Tryd.f22.ntmps⟩) [] tcok Tryd.func22 rfl rfl (by kernel_rfl) (by kernel_rfl) ?_
  refine e0 [1, 2, 4] [2] (by kernel_rfl) ?_
  refine AWP.seq ?_
  refine AWP.block ?_
  refine e1 (os := [i64 (IntKind.wrap IntKind.i64 lo) = i64 lo]) [(3, ⟨some (i64 lo), none⟩)] [1, 2, 4, 5] [2] (by kernel_rfl) ⟨(wr_i64 (by omega) (by omega)), trivial⟩ ?_
  refine AWP.cond (b := decide (n < lo)) (by kernel_rfl) (fun hq0 => ?_) (fun hq0 => ?_)
  · simp only [decide_eq_true_eq] at hq0
    refine e0 [4] [] (by kernel_rfl) ?_
    refine AWP.ret ?_
    refine ⟨Or.inr rfl, Eq.trans (b := some ([], u8 2)) (by kernel_rfl) ?_⟩
    (simp [betw, *])
  simp only [decide_eq_false_iff_not] at hq0
  refine e1 (os := [i64 (IntKind.wrap IntKind.i64 hi) = i64 hi]) [(3, ⟨some (i64 hi), none⟩)] [4, 11] [] (by kernel_rfl) ⟨(wr_i64 (by omega) (by omega)), trivial⟩ ?_
  refine AWP.cond (b := decide (n > hi)) (by kernel_rfl) (fun hq1 => ?_) (fun hq1 => ?_)
  · simp only [decide_eq_true_eq] at hq1
    refine e0 [4] [] (by kernel_rfl) ?_
    refine AWP.ret ?_
    refine ⟨Or.inr rfl, Eq.trans (b := some ([], u8 3)) (by kernel_rfl) ?_⟩
    (simp [betw, *])
  simp only [decide_eq_false_iff_not] at hq1
  refine AWP.skip ?_
  refine e0 [4] [] (by kernel_rfl) ?_
  refine AWP.ret ?_
  refine ⟨Or.inr rfl, Eq.trans (b := some ([], u8 1)) (by kernel_rfl) ?_⟩
  (simp [betw, *])
theorem con_cright (k pa lo hi ma wa : Int) : Con Tryd.prog 10 [] [dV k pa lo hi ma wa] [] (vb (cright k pa lo hi)) := by
  refine Con.of (C := ⟨Tryd.prog, tc, Tryd.f10.ntmps⟩) [] tcok Tryd.func10 rfl rfl (by kernel_rfl) (by kernel_rfl) ?_
  refine e0 [1, 2] [1] (by kernel_rfl) ?_
  refine e0 [2] [] (by kernel_rfl) ?_
  refine AWP.ret ?_
  refine ⟨Or.inr rfl, Eq.trans (b := some ([], vb (decide (k ≤ 2) && decide (pa ≥ 0) && decide (pa < 16) && decide (lo ≤ hi)))) (by kernel_rfl) ?_⟩
  (simp [cright, Bool.and_assoc])
theorem con_rcright (k pa lo hi ma wa : Int) : Con Tryd.prog 11 [] [dV k pa lo hi ma wa] [] (vb (cright k pa lo hi)) := by
  have e : decide (k < 3) = decide (k ≤ 2) := by
    apply Bool.eq_iff_iff.2
    simp only [decide_eq_true_eq]
    omega
  refine Con.of (C := ⟨Tryd.prog, tc, Tryd.f11.ntmps⟩) [] tcok Tryd.func11 rfl rfl (by kernel_rfl) (by kernel_rfl) ?_
  refine e0 [1, 2] [1] (by kernel_rfl) ?_
  refine e0 [2] [] (by kernel_rfl) ?_
  refine AWP.ret ?_
  refine ⟨Or.inr rfl, Eq.trans (b := some ([], vb (decide (k < 3) && decide (pa ≥ 0) && decide (pa < 16) && decide (lo ≤ hi)))) (by kernel_rfl) ?_⟩
  (simp [cright, Bool.and_assoc, e])
theorem con_violates (s : Int) : Con Tryd.prog 13 [] [u8 s] [] (vb (decide (2 ≤ s) && decide (s ≤ 4))) := by
  refine Con.of (C := ⟨Tryd.prog, tc, Tryd.f13.ntmps⟩) [] tcok Tryd.func13 rfl rfl (by kernel_rfl) (by kernel_rfl) ?_
  refine e0 [0, 2] [] (by kernel_rfl) ?_
  refine e0 [2] [] (by kernel_rfl) ?_
  refine AWP.ret ?_
  refine ⟨Or.inr rfl, Eq.trans (b := some ([], vb (decide (s ≥ 2) && decide (s ≤ 4)))) (by kernel_rfl) ?_⟩
  rfl
theorem con_look (k pa lo hi ma wa now bef : Int) (first : Bool) (hk : 0 ≤ k ∧ k < 256) (hlo : -2147483648 ≤ lo ∧ lo ≤ 2147483647) (hhi : -2147483648 ≤ hi ∧ hi ≤ 2147483647) (hn : -2147483648 ≤ now ∧ now ≤ 2147483647) (hb : -2147483648 ≤ bef ∧ bef ≤ 2147483647) :
    Con Tryd.prog 9 [] [dV k pa lo hi ma wa, i32 now, i32 bef, vb first] [] (u8 (look k pa lo hi ma wa now bef first)) := by
  refine Con.of (C := ⟨Tryd.prog, tc, Tryd.f9.ntmps⟩) [] tcok Tryd.func9 rfl rfl (by kernel_rfl) (by kernel_rfl) ?_
  refine e0 [1, 2, 3, 4, 8] [4] (by kernel_rfl) ?_
  refine AWP.seq ?_
  refine AWP.block ?_
  refine AWP.seq ?_
  refine e1 [(1, ⟨none, some ⟨vb (cright k pa lo hi), [], []⟩⟩)] [1, 2, 3, 4, 8, 9] [4] (by kernel_rfl) (AllP.c (con_cright (k) (pa) (lo) (hi) (ma) (wa)) AllP.n) ?_
  refine AWP.cond (b := !cright k pa lo hi) (by kernel_rfl) (fun hq2 => ?_) (fun hq2 => ?_)
  · simp only [Bool.not_eq_true'] at hq2
    refine AWP.skip ?_
    refine AWP.cond (b := !cright k pa lo hi) (by kernel_rfl) (fun hq3 => ?_) (fun hq3 => ?_)
    · simp only [Bool.not_eq_true'] at hq3
      refine e0 [8] [] (by kernel_rfl) ?_
      refine AWP.ret ?_
      refine ⟨Or.inr rfl, Eq.trans (b := some ([], u8 0)) (by kernel_rfl) ?_⟩
      (simp only [look, mis]; (repeat' split) <;> first | rfl | (simp_all; done) | (exfalso; simp_all; done) | (exfalso; simp_all; omega) | (exfalso; omega))
    simp only [Bool.not_eq_false'] at hq3
    refine e0 [1, 2, 4, 8, 19] [4] (by kernel_rfl) ?_
    refine AWP.cond (b := k == 0) (by kernel_rfl) (fun hq4 => ?_) (fun hq4 => ?_)
    · simp only [beq_iff_eq] at hq4
      refine e1 (os := [i64 (IntKind.wrap IntKind.i64 now) = i64 now, Con Tryd.prog 22 [] [V.agg true [u8 k, i64 pa, i32 lo, i32 hi, u32 ma, u32 wa], i64 now] [] (u8 (betw lo hi now))]) [(2, ⟨some (i64 now), none⟩), (3, ⟨none, some ⟨u8 (betw lo hi now), [], []⟩⟩)] [8] [] (by kernel_rfl) ⟨(wr_i64 (by omega) (by omega)), (con_between (k) (pa) (lo) (hi) (ma) (wa) (now) (by assumption) (by assumption)), trivial⟩ ?_
      refine AWP.ret ?_
      refine ⟨Or.inr rfl, Eq.trans (b := some ([], u8 (betw lo hi now))) (by kernel_rfl) ?_⟩
      (simp only [look, mis]; (repeat' split) <;> first | rfl | (simp_all; done) | (exfalso; simp_all; done) | (exfalso; simp_all; omega) | (exfalso; omega))
    simp only [beq_eq_false_iff_ne] at hq4
    refine e0 [1, 2, 4, 8, 27] [4] (by kernel_rfl) ?_
    refine AWP.cond (b := k == 2) (by kernel_rfl) (fun hq5 => ?_) (fun hq5 => ?_)
    · simp only [beq_iff_eq] at hq5
      refine e1 (os := [i64 (IntKind.wrap IntKind.i64 now) = i64 now, i64 (IntKind.wrap IntKind.i64 bef) = i64 bef, i64 (IntKind.wrap IntKind.i64 (now - bef)) = i64 (now - bef), Con Tryd.prog 22 [] [V.agg true [u8 k, i64 pa, i32 lo, i32 hi, u32 ma, u32 wa], i64 (now - bef)] [] (u8 (betw lo hi (now - bef)))]) [(2, ⟨some (i64 now), none⟩), (4, ⟨some (i64 bef), none⟩), (5, ⟨some (i64 (now - bef)), none⟩), (6, ⟨none, some ⟨u8 (betw lo hi (now - bef)), [], []⟩⟩)] [8] [] (by kernel_rfl) ⟨(wr_i64 (by omega) (by omega)), (wr_i64 (by omega) (by omega)), (wr_i64 (by omega) (by omega)), (con_between (k) (pa) (lo) (hi) (ma) (wa) (now - bef) (by assumption) (by assumption)), trivial⟩ ?_
      refine AWP.ret ?_
      refine ⟨Or.inr rfl, Eq.trans (b := some ([], u8 (betw lo hi (now - bef)))) (by kernel_rfl) ?_⟩
      (simp only [look, mis]; (repeat' split) <;> first | rfl | (simp_all; done) | (exfalso; simp_all; done) | (exfalso; simp_all; omega) | (exfalso; omega))
    simp only [beq_eq_false_iff_ne] at hq5
    refine e1 (os := [u32 (IntKind.wrap IntKind.u32 now) = u32 (now % 4294967296)]) [(1, ⟨some (u32 (now % 4294967296)), none⟩)] [8, 38] [] (by kernel_rfl) ⟨wm_u32, trivial⟩ ?_
    refine AWP.cond (b := iand IntKind.u32 (ixor IntKind.u32 (now % 4294967296) wa) ma != 0) (by kernel_rfl) (fun hq6 => ?_) (fun hq6 => ?_)
    · simp only [bne_iff_ne] at hq6
      refine e0 [8] [] (by kernel_rfl) ?_
      refine AWP.ret ?_
      refine ⟨Or.inr rfl, Eq.trans (b := some ([], u8 4)) (by kernel_rfl) ?_⟩
      (simp only [look, mis]; (repeat' split) <;> first | rfl | (simp_all; done) | (exfalso; simp_all; done) | (exfalso; simp_all; omega) | (exfalso; omega))
    simp only [bne_eq_false_iff_eq] at hq6
    refine AWP.skip ?_
    refine e0 [8] [] (by kernel_rfl) ?_
    refine AWP.ret ?_
    refine ⟨Or.inr rfl, Eq.trans (b := some ([], u8 1)) (by kernel_rfl) ?_⟩
    (simp only [look, mis]; (repeat' split) <;> first | rfl | (simp_all; done) | (exfalso; simp_all; done) | (exfalso; simp_all; omega) | (exfalso; omega))
  simp only [Bool.not_eq_false'] at hq2
  refine g0 [1, 2, 4, 8, 9] [4] (by kernel_rfl) ?_
  refine AWP.cond (b := k == 2 && first) (by kernel_rfl) (fun hq7 => ?_) (fun hq7 => ?_)
  · simp only [Bool.and_eq_true, beq_iff_eq] at hq7
    refine e0 [8] [] (by kernel_rfl) ?_
    refine AWP.ret ?_
    refine ⟨Or.inr rfl, Eq.trans (b := some ([], u8 0)) (by kernel_rfl) ?_⟩
    (simp only [look, mis]; (repeat' split) <;> first | rfl | (simp_all; done) | (exfalso; simp_all; done) | (exfalso; simp_all; omega) | (exfalso; omega))
  simp only [Bool.and_eq_false_iff, beq_eq_false_iff_ne] at hq7
  refine e0 [1, 2, 4, 8, 19] [4] (by kernel_rfl) ?_
  refine AWP.cond (b := k == 0) (by kernel_rfl) (fun hq8 => ?_) (fun hq8 => ?_)
  · simp only [beq_iff_eq] at hq8
    refine e1 (os := [i64 (IntKind.wrap IntKind.i64 now) = i64 now, Con Tryd.prog 22 [] [V.agg true [u8 k, i64 pa, i32 lo, i32 hi, u32 ma, u32 wa], i64 now] [] (u8 (betw lo hi now))]) [(2, ⟨some (i64 now), none⟩), (3, ⟨none, some ⟨u8 (betw lo hi now), [], []⟩⟩)] [8] [] (by kernel_rfl) ⟨(wr_i64 (by omega) (by omega)), (con_between (k) (pa) (lo) (hi) (ma) (wa) (now) (by assumption) (by assumption)), trivial⟩ ?_
    refine AWP.ret ?_
    refine ⟨Or.inr rfl, Eq.trans (b := some ([], u8 (betw lo hi now))) (by kernel_rfl) ?_⟩
    (simp only [look, mis]; (repeat' split) <;> first | rfl | (simp_all; done) | (exfalso; simp_all; done) | (exfalso; simp_all; omega) | (exfalso; omega))
  simp only [beq_eq_false_iff_ne] at hq8
  refine e0 [1, 2, 4, 8, 27] [4] (by kernel_rfl) ?_
  refine AWP.cond (b := k == 2) (by kernel_rfl) (fun hq9 => ?_) (fun hq9 => ?_)
  · simp only [beq_iff_eq] at hq9
    refine e1 (os := [i64 (IntKind.wrap IntKind.i64 now) = i64 now, i64 (IntKind.wrap IntKind.i64 bef) = i64 bef, i64 (IntKind.wrap IntKind.i64 (now - bef)) = i64 (now - bef), Con Tryd.prog 22 [] [V.agg true [u8 k, i64 pa, i32 lo, i32 hi, u32 ma, u32 wa], i64 (now - bef)] [] (u8 (betw lo hi (now - bef)))]) [(2, ⟨some (i64 now), none⟩), (4, ⟨some (i64 bef), none⟩), (5, ⟨some (i64 (now - bef)), none⟩), (6, ⟨none, some ⟨u8 (betw lo hi (now - bef)), [], []⟩⟩)] [8] [] (by kernel_rfl) ⟨(wr_i64 (by omega) (by omega)), (wr_i64 (by omega) (by omega)), (wr_i64 (by omega) (by omega)), (con_between (k) (pa) (lo) (hi) (ma) (wa) (now - bef) (by assumption) (by assumption)), trivial⟩ ?_
    refine AWP.ret ?_
    refine ⟨Or.inr rfl, Eq.trans (b := some ([], u8 (betw lo hi (now - bef)))) (by kernel_rfl) ?_⟩
    (simp only [look, mis]; (repeat' split) <;> first | rfl | (simp_all; done) | (exfalso; simp_all; done) | (exfalso; simp_all; omega) | (exfalso; omega))
  simp only [beq_eq_false_iff_ne] at hq9
  refine e1 (os := [u32 (IntKind.wrap IntKind.u32 now) = u32 (now % 4294967296)]) [(1, ⟨some (u32 (now % 4294967296)), none⟩)] [8, 38] [] (by kernel_rfl) ⟨wm_u32, trivial⟩ ?_
  refine AWP.cond (b := iand IntKind.u32 (ixor IntKind.u32 (now % 4294967296) wa) ma != 0) (by kernel_rfl) (fun hq10 => ?_) (fun hq10 => ?_)
  · simp only [bne_iff_ne] at hq10
    refine e0 [8] [] (by kernel_rfl) ?_
    refine AWP.ret ?_
    refine ⟨Or.inr rfl, Eq.trans (b := some ([], u8 4)) (by kernel_rfl) ?_⟩
    (simp only [look, mis]; (repeat' split) <;> first | rfl | (simp_all; done) | (exfalso; simp_all; done) | (exfalso; simp_all; omega) | (exfalso; omega))
  simp only [bne_eq_false_iff_eq] at hq10
  refine AWP.skip ?_
  refine e0 [8] [] (by kernel_rfl) ?_
  refine AWP.ret ?_
  refine ⟨Or.inr rfl, Eq.trans (b := some ([], u8 1)) (by kernel_rfl) ?_⟩
  (simp only [look, mis]; (repeat' split) <;> first | rfl | (simp_all; done) | (exfalso; simp_all; done) | (exfalso; simp_all; omega) | (exfalso; omega))
theorem con_awake15 : Con Tryd.prog 8 [] [] [] (vb true) := run_con tcok (by kernel_rfl) 400 8 (by kernel_rfl)
end Go.Proofs.YtlfjnkobnkfioaaDoor
