/- Which cells can be read; the document's vote. -/
import Derived.Test.YtmeiemdnhjnpcaaCelY
namespace Go.Proofs.Ytmeiemdnhjnpcaa
open Go.Ab
set_option linter.unusedSimpArgs false
set_option linter.unusedVariables false
theorem bitm (z m : Int) (hm : m ≠ 0) : (z % 2 * m != 0) = decide (z % 2 = 1) := by
  have h : z % 2 = 0 ∨ z % 2 = 1 := by omega
  rcases h with h | h
  · rw [h]; simp
  · rw [h]; simp [hm]
/-- Which of the first k can be read. -/
def gsn (ls : List (List Int)) : Nat → Int
  | 0 => 0
  | k + 1 => gsn ls k + (if cE (ls.getD k []) = 0 then (2 : Int) ^ k else 0)
theorem gsn_bd (ls : List (List Int)) : ∀ k, 0 ≤ gsn ls k ∧ gsn ls k < (2 : Int) ^ k
  | 0 => by simp [gsn]
  | k + 1 => by
    have := gsn_bd ls k
    have h2 : (2 : Int) ^ (k + 1) = 2 ^ k * 2 := Int.pow_succ _ _
    rw [h2]
    simp only [gsn]
    split <;> omega
theorem gsn_bit (ls : List (List Int)) (i : Nat) : ∀ k, i < k → (gsn ls k / (2 : Int) ^ i % 2 = if cE (ls.getD i []) = 0 then 1 else 0)
  | 0, h => by omega
  | k + 1, h => by
    by_cases hk : i = k
    · subst hk
      have := gsn_bd ls i
      simp only [gsn]
      have hp : (0 : Int) < 2 ^ i := by omega
      split
      · rw [Int.add_ediv_of_dvd_right (Int.dvd_refl _), Int.ediv_eq_zero_of_lt this.1 this.2, Int.ediv_self (by omega)]
        rfl
      · rw [Int.add_zero, Int.ediv_eq_zero_of_lt this.1 this.2]
        rfl
    · have ih := gsn_bit ls i k (by omega)
      rw [← ih]
      simp only [gsn]
      split
      · obtain ⟨d, rfl⟩ : ∃ d, k = i + 1 + d := ⟨k - (i + 1), by omega⟩
        have e : (2 : Int) ^ (i + 1 + d) = 2 ^ d * 2 * 2 ^ i := by rw [Int.pow_add, Int.pow_succ, Int.mul_comm, Int.mul_assoc, Int.mul_comm (2 ^ i : Int) 2]
        have hp : (2 : Int) ^ i ≠ 0 := Int.pow_ne_zero (by omega)
        rw [e, Int.add_mul_ediv_right _ _ hp]
        omega
      · rw [Int.add_zero]
theorem con_one0 : Con Try.prog 72 [] [i64 0] [] (u16 1) := by
  refine Con.of (C := ⟨Try.prog, tc, Try.f72.ntmps⟩) [] tcok Try.func72 rfl rfl (by kernel_rfl) (by kernel_rfl) ?_
  refine AWP.seq ?_
  refine AWP.regionT tcok hmix [] [0, 2] [] (os := []) (s' := St.mk [(0, tp (i64 0)), (2, tp (u16 0))] []) (by kernel_rfl) trivial ?_
  refine AWP.seq ?_
  refine AWP.seq ?_
  refine AWP.regionT tcok hmix [] [0, 2, 8] [] (os := []) (s' := St.mk [(0, tp (i64 0)), (2, tp (u16 0)), (8, tp (vb false))] []) (by kernel_rfl) trivial ?_
  refine AWP.cond (b := false) (by kernel_rfl) (fun h => by cases h) (fun _ => ?_)
  refine AWP.skip ?_
  refine AWP.seq ?_
  refine AWP.regionT tcok hmix [] [2] [] (os := []) (s' := St.mk [(2, tp (u16 1))] []) (by kernel_rfl) trivial ?_
  refine AWP.ret ?_
  refine ⟨Or.inr rfl, Eq.trans (b := some ([], u16 1)) (by kernel_rfl) ?_⟩
  rfl
theorem con_with0s (s : Int) (h : 0 ≤ s ∧ s < 1) : Con Try.prog 71 [] [u16 s, .vs [i64 0] 1] [] (u16 (s + 1)) := by
  have key : ∀ n : Fin 1, ior .u16 ((n.val : Nat) : Int) 1 = ((n.val : Nat) : Int) + 1 := by decide
  have wfo : ior .u16 s 1 = s + 1 := by
    have := key ⟨s.toNat, by omega⟩
    simpa [show ((s.toNat : Nat) : Int) = s by omega] using this
  refine Con.of (C := ⟨Try.prog, tc, Try.f71.ntmps⟩) [] tcok Try.func71 rfl rfl (by kernel_rfl) (by kernel_rfl) ?_
  refine AWP.seq ?_
  refine AWP.regionT tcok hmix [] [0, 1, 4] [] (os := []) (s' := St.mk [(0, tp (u16 s)), (1, tp (V.vs [i64 0] 1)), (4, tp (u16 0))] []) (by kernel_rfl) trivial ?_
  refine AWP.seq ?_
  refine AWP.seq ?_
  refine AWP.regionT tcok hmix [] [0, 4, 7, 8, 9] [] (os := []) (s' := St.mk [(0, tp (u16 s)), (4, tp (u16 0)), (7, tp (V.vs [i64 0] 1)), (8, tp (i64 1)), (9, tp (i64 0))] []) (by kernel_rfl) trivial ?_
  refine AWP.block ?_
  refine AWP.unroll 8 ?_
  refine AWP.seq ?_
  refine AWP.regionT tcok hmix [] [0, 4, 7, 8, 9, 10] [] (os := []) (s' := St.mk [(0, tp (u16 s)), (4, tp (u16 0)), (7, tp (V.vs [i64 0] 1)), (8, tp (i64 1)), (9, tp (i64 0)), (10, tp (vb true))] []) (by kernel_rfl) trivial ?_
  refine AWP.seq ?_
  refine AWP.cond (b := true) (by kernel_rfl) (fun _ => ?_) (fun h => by cases h)
  refine AWP.skip ?_
  refine AWP.seq ?_
  refine AWP.block ?_
  refine AWP.seq ?_
  refine AWP.regionT tcok hmix [] [0, 4, 6, 7, 8, 9, 10, 11, 12] [] (os := []) (s' := St.mk [(0, tp (u16 s)), (4, tp (u16 0)), (6, tp (i64 0)), (7, tp (V.vs [i64 0] 1)), (8, tp (i64 1)), (9, tp (i64 0)), (10, tp (vb true)), (11, tp (V.vp [i64 0])), (12, tp (i64 0))] []) (by kernel_rfl) trivial ?_
  refine AWP.region tcok hmix [(2, ⟨none, some ⟨u16 1, [], []⟩⟩), (3, ⟨some (u16 (s + 1)), none⟩)] (os := [Con Try.prog 72 [] [i64 0] [] (u16 1), u16 (ior IntKind.u16 s 1) = u16 (s + 1)]) (sf := St.mk [(0, tp (u16 (s + 1))), (4, tp (u16 0)), (6, tp (i64 0)), (7, tp (V.vs [i64 0] 1)), (8, tp (i64 1)), (9, tp (i64 0)), (10, tp (vb true)), (11, tp (V.vp [i64 0])), (12, tp (i64 0)), (13, tp (u16 s)), (14, tp (i64 0)), (15, tp (u16 1)), (16, tp (u16 (s + 1)))] []) (by kernel_rfl) ⟨(con_one0 ), (in_eq wfo), trivial⟩ ?_
  refine AWP.region tcok hmix [] (os := []) (sf := St.mk [(0, tp (u16 (s + 1))), (4, tp (u16 0)), (6, tp (i64 0)), (7, tp (V.vs [i64 0] 1)), (8, tp (i64 1)), (9, tp (i64 1)), (10, tp (vb true)), (11, tp (V.vp [i64 0])), (12, tp (i64 0)), (13, tp (u16 s)), (14, tp (i64 0)), (15, tp (u16 1)), (16, tp (u16 (s + 1))), (17, tp (i64 1))] []) (by kernel_rfl) trivial ?_
  refine AWP.seq ?_
  refine AWP.regionT tcok hmix [] [0, 4, 6, 7, 8, 9, 10, 11, 12, 13, 14, 15, 16, 17] [] (os := []) (s' := St.mk [(0, tp (u16 (s + 1))), (4, tp (u16 0)), (6, tp (i64 0)), (7, tp (V.vs [i64 0] 1)), (8, tp (i64 1)), (9, tp (i64 1)), (10, tp (vb false)), (11, tp (V.vp [i64 0])), (12, tp (i64 0)), (13, tp (u16 s)), (14, tp (i64 0)), (15, tp (u16 1)), (16, tp (u16 (s + 1))), (17, tp (i64 1))] []) (by kernel_rfl) trivial ?_
  refine AWP.seq ?_
  refine AWP.cond (b := false) (by kernel_rfl) (fun h => by cases h) (fun _ => ?_)
  refine AWP.exit ?_
  refine AWP.seq ?_
  refine AWP.regionT tcok hmix [] [4] [] (os := []) (s' := St.mk [(4, tp (u16 (s + 1)))] []) (by kernel_rfl) trivial ?_
  refine AWP.ret ?_
  refine ⟨Or.inr rfl, Eq.trans (b := some ([], u16 (s + 1))) (by kernel_rfl) ?_⟩
  rfl
theorem con_has0 (s : Int) (h : 0 ≤ s ∧ s < 16) : Con Try.prog 40 [] [u16 s, i64 0] [] (vb (decide (s / 1 % 2 = 1))) := by
  have key : ∀ n : Fin 16, iand .u16 ((n.val : Nat) : Int) 1 = ((n.val : Nat) : Int) / 1 % 2 * 1 := by decide
  have wfo : iand .u16 s 1 = s / 1 % 2 * 1 := by
    have := key ⟨s.toNat, by omega⟩
    simpa [show ((s.toNat : Nat) : Int) = s by omega] using this
  refine Con.of (C := ⟨Try.prog, tc, Try.f40.ntmps⟩) [] tcok Try.func40 rfl rfl (by kernel_rfl) (by kernel_rfl) ?_
  refine AWP.seq ?_
  refine AWP.regionT tcok hmix [] [0, 1, 4] [] (os := []) (s' := St.mk [(0, tp (u16 s)), (1, tp (i64 0)), (4, tp (vb false))] []) (by kernel_rfl) trivial ?_
  refine AWP.seq ?_
  refine AWP.regionT tcok hmix [(2, ⟨none, some ⟨u16 1, [], []⟩⟩), (3, ⟨some (u16 (s / 1 % 2 * 1)), none⟩)] [4] [] (os := [Con Try.prog 72 [] [i64 0] [] (u16 1), u16 (iand IntKind.u16 s 1) = u16 (s / 1 % 2 * 1)]) (s' := St.mk [(4, tp (vb (s / 1 % 2 * 1 != 0)))] []) (by kernel_rfl) ⟨(con_one0 ), (in_eq wfo), trivial⟩ ?_
  refine AWP.ret ?_
  refine ⟨Or.inr rfl, Eq.trans (b := some ([], vb (s / 1 % 2 * 1 != 0))) (by kernel_rfl) ?_⟩
  first | rfl | (rw [bitm _ _ (by decide)]; done)
theorem con_one1 : Con Try.prog 72 [] [i64 1] [] (u16 2) := by
  refine Con.of (C := ⟨Try.prog, tc, Try.f72.ntmps⟩) [] tcok Try.func72 rfl rfl (by kernel_rfl) (by kernel_rfl) ?_
  refine AWP.seq ?_
  refine AWP.regionT tcok hmix [] [0, 2] [] (os := []) (s' := St.mk [(0, tp (i64 1)), (2, tp (u16 0))] []) (by kernel_rfl) trivial ?_
  refine AWP.seq ?_
  refine AWP.seq ?_
  refine AWP.regionT tcok hmix [] [0, 2, 8] [] (os := []) (s' := St.mk [(0, tp (i64 1)), (2, tp (u16 0)), (8, tp (vb false))] []) (by kernel_rfl) trivial ?_
  refine AWP.cond (b := false) (by kernel_rfl) (fun h => by cases h) (fun _ => ?_)
  refine AWP.skip ?_
  refine AWP.seq ?_
  refine AWP.regionT tcok hmix [] [2] [] (os := []) (s' := St.mk [(2, tp (u16 2))] []) (by kernel_rfl) trivial ?_
  refine AWP.ret ?_
  refine ⟨Or.inr rfl, Eq.trans (b := some ([], u16 2)) (by kernel_rfl) ?_⟩
  rfl
theorem con_with1s (s : Int) (h : 0 ≤ s ∧ s < 2) : Con Try.prog 71 [] [u16 s, .vs [i64 1] 1] [] (u16 (s + 2)) := by
  have key : ∀ n : Fin 2, ior .u16 ((n.val : Nat) : Int) 2 = ((n.val : Nat) : Int) + 2 := by decide
  have wfo : ior .u16 s 2 = s + 2 := by
    have := key ⟨s.toNat, by omega⟩
    simpa [show ((s.toNat : Nat) : Int) = s by omega] using this
  refine Con.of (C := ⟨Try.prog, tc, Try.f71.ntmps⟩) [] tcok Try.func71 rfl rfl (by kernel_rfl) (by kernel_rfl) ?_
  refine AWP.seq ?_
  refine AWP.regionT tcok hmix [] [0, 1, 4] [] (os := []) (s' := St.mk [(0, tp (u16 s)), (1, tp (V.vs [i64 1] 1)), (4, tp (u16 0))] []) (by kernel_rfl) trivial ?_
  refine AWP.seq ?_
  refine AWP.seq ?_
  refine AWP.regionT tcok hmix [] [0, 4, 7, 8, 9] [] (os := []) (s' := St.mk [(0, tp (u16 s)), (4, tp (u16 0)), (7, tp (V.vs [i64 1] 1)), (8, tp (i64 1)), (9, tp (i64 0))] []) (by kernel_rfl) trivial ?_
  refine AWP.block ?_
  refine AWP.unroll 8 ?_
  refine AWP.seq ?_
  refine AWP.regionT tcok hmix [] [0, 4, 7, 8, 9, 10] [] (os := []) (s' := St.mk [(0, tp (u16 s)), (4, tp (u16 0)), (7, tp (V.vs [i64 1] 1)), (8, tp (i64 1)), (9, tp (i64 0)), (10, tp (vb true))] []) (by kernel_rfl) trivial ?_
  refine AWP.seq ?_
  refine AWP.cond (b := true) (by kernel_rfl) (fun _ => ?_) (fun h => by cases h)
  refine AWP.skip ?_
  refine AWP.seq ?_
  refine AWP.block ?_
  refine AWP.seq ?_
  refine AWP.regionT tcok hmix [] [0, 4, 6, 7, 8, 9, 10, 11, 12] [] (os := []) (s' := St.mk [(0, tp (u16 s)), (4, tp (u16 0)), (6, tp (i64 1)), (7, tp (V.vs [i64 1] 1)), (8, tp (i64 1)), (9, tp (i64 0)), (10, tp (vb true)), (11, tp (V.vp [i64 1])), (12, tp (i64 1))] []) (by kernel_rfl) trivial ?_
  refine AWP.region tcok hmix [(2, ⟨none, some ⟨u16 2, [], []⟩⟩), (3, ⟨some (u16 (s + 2)), none⟩)] (os := [Con Try.prog 72 [] [i64 1] [] (u16 2), u16 (ior IntKind.u16 s 2) = u16 (s + 2)]) (sf := St.mk [(0, tp (u16 (s + 2))), (4, tp (u16 0)), (6, tp (i64 1)), (7, tp (V.vs [i64 1] 1)), (8, tp (i64 1)), (9, tp (i64 0)), (10, tp (vb true)), (11, tp (V.vp [i64 1])), (12, tp (i64 1)), (13, tp (u16 s)), (14, tp (i64 1)), (15, tp (u16 2)), (16, tp (u16 (s + 2)))] []) (by kernel_rfl) ⟨(con_one1 ), (in_eq wfo), trivial⟩ ?_
  refine AWP.region tcok hmix [] (os := []) (sf := St.mk [(0, tp (u16 (s + 2))), (4, tp (u16 0)), (6, tp (i64 1)), (7, tp (V.vs [i64 1] 1)), (8, tp (i64 1)), (9, tp (i64 1)), (10, tp (vb true)), (11, tp (V.vp [i64 1])), (12, tp (i64 1)), (13, tp (u16 s)), (14, tp (i64 1)), (15, tp (u16 2)), (16, tp (u16 (s + 2))), (17, tp (i64 1))] []) (by kernel_rfl) trivial ?_
  refine AWP.seq ?_
  refine AWP.regionT tcok hmix [] [0, 4, 6, 7, 8, 9, 10, 11, 12, 13, 14, 15, 16, 17] [] (os := []) (s' := St.mk [(0, tp (u16 (s + 2))), (4, tp (u16 0)), (6, tp (i64 1)), (7, tp (V.vs [i64 1] 1)), (8, tp (i64 1)), (9, tp (i64 1)), (10, tp (vb false)), (11, tp (V.vp [i64 1])), (12, tp (i64 1)), (13, tp (u16 s)), (14, tp (i64 1)), (15, tp (u16 2)), (16, tp (u16 (s + 2))), (17, tp (i64 1))] []) (by kernel_rfl) trivial ?_
  refine AWP.seq ?_
  refine AWP.cond (b := false) (by kernel_rfl) (fun h => by cases h) (fun _ => ?_)
  refine AWP.exit ?_
  refine AWP.seq ?_
  refine AWP.regionT tcok hmix [] [4] [] (os := []) (s' := St.mk [(4, tp (u16 (s + 2)))] []) (by kernel_rfl) trivial ?_
  refine AWP.ret ?_
  refine ⟨Or.inr rfl, Eq.trans (b := some ([], u16 (s + 2))) (by kernel_rfl) ?_⟩
  rfl
theorem con_has1 (s : Int) (h : 0 ≤ s ∧ s < 16) : Con Try.prog 40 [] [u16 s, i64 1] [] (vb (decide (s / 2 % 2 = 1))) := by
  have key : ∀ n : Fin 16, iand .u16 ((n.val : Nat) : Int) 2 = ((n.val : Nat) : Int) / 2 % 2 * 2 := by decide
  have wfo : iand .u16 s 2 = s / 2 % 2 * 2 := by
    have := key ⟨s.toNat, by omega⟩
    simpa [show ((s.toNat : Nat) : Int) = s by omega] using this
  refine Con.of (C := ⟨Try.prog, tc, Try.f40.ntmps⟩) [] tcok Try.func40 rfl rfl (by kernel_rfl) (by kernel_rfl) ?_
  refine AWP.seq ?_
  refine AWP.regionT tcok hmix [] [0, 1, 4] [] (os := []) (s' := St.mk [(0, tp (u16 s)), (1, tp (i64 1)), (4, tp (vb false))] []) (by kernel_rfl) trivial ?_
  refine AWP.seq ?_
  refine AWP.regionT tcok hmix [(2, ⟨none, some ⟨u16 2, [], []⟩⟩), (3, ⟨some (u16 (s / 2 % 2 * 2)), none⟩)] [4] [] (os := [Con Try.prog 72 [] [i64 1] [] (u16 2), u16 (iand IntKind.u16 s 2) = u16 (s / 2 % 2 * 2)]) (s' := St.mk [(4, tp (vb (s / 2 % 2 * 2 != 0)))] []) (by kernel_rfl) ⟨(con_one1 ), (in_eq wfo), trivial⟩ ?_
  refine AWP.ret ?_
  refine ⟨Or.inr rfl, Eq.trans (b := some ([], vb (s / 2 % 2 * 2 != 0))) (by kernel_rfl) ?_⟩
  first | rfl | (rw [bitm _ _ (by decide)]; done)
theorem con_one2 : Con Try.prog 72 [] [i64 2] [] (u16 4) := by
  refine Con.of (C := ⟨Try.prog, tc, Try.f72.ntmps⟩) [] tcok Try.func72 rfl rfl (by kernel_rfl) (by kernel_rfl) ?_
  refine AWP.seq ?_
  refine AWP.regionT tcok hmix [] [0, 2] [] (os := []) (s' := St.mk [(0, tp (i64 2)), (2, tp (u16 0))] []) (by kernel_rfl) trivial ?_
  refine AWP.seq ?_
  refine AWP.seq ?_
  refine AWP.regionT tcok hmix [] [0, 2, 8] [] (os := []) (s' := St.mk [(0, tp (i64 2)), (2, tp (u16 0)), (8, tp (vb false))] []) (by kernel_rfl) trivial ?_
  refine AWP.cond (b := false) (by kernel_rfl) (fun h => by cases h) (fun _ => ?_)
  refine AWP.skip ?_
  refine AWP.seq ?_
  refine AWP.regionT tcok hmix [] [2] [] (os := []) (s' := St.mk [(2, tp (u16 4))] []) (by kernel_rfl) trivial ?_
  refine AWP.ret ?_
  refine ⟨Or.inr rfl, Eq.trans (b := some ([], u16 4)) (by kernel_rfl) ?_⟩
  rfl
theorem con_with2s (s : Int) (h : 0 ≤ s ∧ s < 4) : Con Try.prog 71 [] [u16 s, .vs [i64 2] 1] [] (u16 (s + 4)) := by
  have key : ∀ n : Fin 4, ior .u16 ((n.val : Nat) : Int) 4 = ((n.val : Nat) : Int) + 4 := by decide
  have wfo : ior .u16 s 4 = s + 4 := by
    have := key ⟨s.toNat, by omega⟩
    simpa [show ((s.toNat : Nat) : Int) = s by omega] using this
  refine Con.of (C := ⟨Try.prog, tc, Try.f71.ntmps⟩) [] tcok Try.func71 rfl rfl (by kernel_rfl) (by kernel_rfl) ?_
  refine AWP.seq ?_
  refine AWP.regionT tcok hmix [] [0, 1, 4] [] (os := []) (s' := St.mk [(0, tp (u16 s)), (1, tp (V.vs [i64 2] 1)), (4, tp (u16 0))] []) (by kernel_rfl) trivial ?_
  refine AWP.seq ?_
  refine AWP.seq ?_
  refine AWP.regionT tcok hmix [] [0, 4, 7, 8, 9] [] (os := []) (s' := St.mk [(0, tp (u16 s)), (4, tp (u16 0)), (7, tp (V.vs [i64 2] 1)), (8, tp (i64 1)), (9, tp (i64 0))] []) (by kernel_rfl) trivial ?_
  refine AWP.block ?_
  refine AWP.unroll 8 ?_
  refine AWP.seq ?_
  refine AWP.regionT tcok hmix [] [0, 4, 7, 8, 9, 10] [] (os := []) (s' := St.mk [(0, tp (u16 s)), (4, tp (u16 0)), (7, tp (V.vs [i64 2] 1)), (8, tp (i64 1)), (9, tp (i64 0)), (10, tp (vb true))] []) (by kernel_rfl) trivial ?_
  refine AWP.seq ?_
  refine AWP.cond (b := true) (by kernel_rfl) (fun _ => ?_) (fun h => by cases h)
  refine AWP.skip ?_
  refine AWP.seq ?_
  refine AWP.block ?_
  refine AWP.seq ?_
  refine AWP.regionT tcok hmix [] [0, 4, 6, 7, 8, 9, 10, 11, 12] [] (os := []) (s' := St.mk [(0, tp (u16 s)), (4, tp (u16 0)), (6, tp (i64 2)), (7, tp (V.vs [i64 2] 1)), (8, tp (i64 1)), (9, tp (i64 0)), (10, tp (vb true)), (11, tp (V.vp [i64 2])), (12, tp (i64 2))] []) (by kernel_rfl) trivial ?_
  refine AWP.region tcok hmix [(2, ⟨none, some ⟨u16 4, [], []⟩⟩), (3, ⟨some (u16 (s + 4)), none⟩)] (os := [Con Try.prog 72 [] [i64 2] [] (u16 4), u16 (ior IntKind.u16 s 4) = u16 (s + 4)]) (sf := St.mk [(0, tp (u16 (s + 4))), (4, tp (u16 0)), (6, tp (i64 2)), (7, tp (V.vs [i64 2] 1)), (8, tp (i64 1)), (9, tp (i64 0)), (10, tp (vb true)), (11, tp (V.vp [i64 2])), (12, tp (i64 2)), (13, tp (u16 s)), (14, tp (i64 2)), (15, tp (u16 4)), (16, tp (u16 (s + 4)))] []) (by kernel_rfl) ⟨(con_one2 ), (in_eq wfo), trivial⟩ ?_
  refine AWP.region tcok hmix [] (os := []) (sf := St.mk [(0, tp (u16 (s + 4))), (4, tp (u16 0)), (6, tp (i64 2)), (7, tp (V.vs [i64 2] 1)), (8, tp (i64 1)), (9, tp (i64 1)), (10, tp (vb true)), (11, tp (V.vp [i64 2])), (12, tp (i64 2)), (13, tp (u16 s)), (14, tp (i64 2)), (15, tp (u16 4)), (16, tp (u16 (s + 4))), (17, tp (i64 1))] []) (by kernel_rfl) trivial ?_
  refine AWP.seq ?_
  refine AWP.regionT tcok hmix [] [0, 4, 6, 7, 8, 9, 10, 11, 12, 13, 14, 15, 16, 17] [] (os := []) (s' := St.mk [(0, tp (u16 (s + 4))), (4, tp (u16 0)), (6, tp (i64 2)), (7, tp (V.vs [i64 2] 1)), (8, tp (i64 1)), (9, tp (i64 1)), (10, tp (vb false)), (11, tp (V.vp [i64 2])), (12, tp (i64 2)), (13, tp (u16 s)), (14, tp (i64 2)), (15, tp (u16 4)), (16, tp (u16 (s + 4))), (17, tp (i64 1))] []) (by kernel_rfl) trivial ?_
  refine AWP.seq ?_
  refine AWP.cond (b := false) (by kernel_rfl) (fun h => by cases h) (fun _ => ?_)
  refine AWP.exit ?_
  refine AWP.seq ?_
  refine AWP.regionT tcok hmix [] [4] [] (os := []) (s' := St.mk [(4, tp (u16 (s + 4)))] []) (by kernel_rfl) trivial ?_
  refine AWP.ret ?_
  refine ⟨Or.inr rfl, Eq.trans (b := some ([], u16 (s + 4))) (by kernel_rfl) ?_⟩
  rfl
theorem con_has2 (s : Int) (h : 0 ≤ s ∧ s < 16) : Con Try.prog 40 [] [u16 s, i64 2] [] (vb (decide (s / 4 % 2 = 1))) := by
  have key : ∀ n : Fin 16, iand .u16 ((n.val : Nat) : Int) 4 = ((n.val : Nat) : Int) / 4 % 2 * 4 := by decide
  have wfo : iand .u16 s 4 = s / 4 % 2 * 4 := by
    have := key ⟨s.toNat, by omega⟩
    simpa [show ((s.toNat : Nat) : Int) = s by omega] using this
  refine Con.of (C := ⟨Try.prog, tc, Try.f40.ntmps⟩) [] tcok Try.func40 rfl rfl (by kernel_rfl) (by kernel_rfl) ?_
  refine AWP.seq ?_
  refine AWP.regionT tcok hmix [] [0, 1, 4] [] (os := []) (s' := St.mk [(0, tp (u16 s)), (1, tp (i64 2)), (4, tp (vb false))] []) (by kernel_rfl) trivial ?_
  refine AWP.seq ?_
  refine AWP.regionT tcok hmix [(2, ⟨none, some ⟨u16 4, [], []⟩⟩), (3, ⟨some (u16 (s / 4 % 2 * 4)), none⟩)] [4] [] (os := [Con Try.prog 72 [] [i64 2] [] (u16 4), u16 (iand IntKind.u16 s 4) = u16 (s / 4 % 2 * 4)]) (s' := St.mk [(4, tp (vb (s / 4 % 2 * 4 != 0)))] []) (by kernel_rfl) ⟨(con_one2 ), (in_eq wfo), trivial⟩ ?_
  refine AWP.ret ?_
  refine ⟨Or.inr rfl, Eq.trans (b := some ([], vb (s / 4 % 2 * 4 != 0))) (by kernel_rfl) ?_⟩
  first | rfl | (rw [bitm _ _ (by decide)]; done)
theorem con_one3 : Con Try.prog 72 [] [i64 3] [] (u16 8) := by
  refine Con.of (C := ⟨Try.prog, tc, Try.f72.ntmps⟩) [] tcok Try.func72 rfl rfl (by kernel_rfl) (by kernel_rfl) ?_
  refine AWP.seq ?_
  refine AWP.regionT tcok hmix [] [0, 2] [] (os := []) (s' := St.mk [(0, tp (i64 3)), (2, tp (u16 0))] []) (by kernel_rfl) trivial ?_
  refine AWP.seq ?_
  refine AWP.seq ?_
  refine AWP.regionT tcok hmix [] [0, 2, 8] [] (os := []) (s' := St.mk [(0, tp (i64 3)), (2, tp (u16 0)), (8, tp (vb false))] []) (by kernel_rfl) trivial ?_
  refine AWP.cond (b := false) (by kernel_rfl) (fun h => by cases h) (fun _ => ?_)
  refine AWP.skip ?_
  refine AWP.seq ?_
  refine AWP.regionT tcok hmix [] [2] [] (os := []) (s' := St.mk [(2, tp (u16 8))] []) (by kernel_rfl) trivial ?_
  refine AWP.ret ?_
  refine ⟨Or.inr rfl, Eq.trans (b := some ([], u16 8)) (by kernel_rfl) ?_⟩
  rfl
theorem con_with3s (s : Int) (h : 0 ≤ s ∧ s < 8) : Con Try.prog 71 [] [u16 s, .vs [i64 3] 1] [] (u16 (s + 8)) := by
  have key : ∀ n : Fin 8, ior .u16 ((n.val : Nat) : Int) 8 = ((n.val : Nat) : Int) + 8 := by decide
  have wfo : ior .u16 s 8 = s + 8 := by
    have := key ⟨s.toNat, by omega⟩
    simpa [show ((s.toNat : Nat) : Int) = s by omega] using this
  refine Con.of (C := ⟨Try.prog, tc, Try.f71.ntmps⟩) [] tcok Try.func71 rfl rfl (by kernel_rfl) (by kernel_rfl) ?_
  refine AWP.seq ?_
  refine AWP.regionT tcok hmix [] [0, 1, 4] [] (os := []) (s' := St.mk [(0, tp (u16 s)), (1, tp (V.vs [i64 3] 1)), (4, tp (u16 0))] []) (by kernel_rfl) trivial ?_
  refine AWP.seq ?_
  refine AWP.seq ?_
  refine AWP.regionT tcok hmix [] [0, 4, 7, 8, 9] [] (os := []) (s' := St.mk [(0, tp (u16 s)), (4, tp (u16 0)), (7, tp (V.vs [i64 3] 1)), (8, tp (i64 1)), (9, tp (i64 0))] []) (by kernel_rfl) trivial ?_
  refine AWP.block ?_
  refine AWP.unroll 8 ?_
  refine AWP.seq ?_
  refine AWP.regionT tcok hmix [] [0, 4, 7, 8, 9, 10] [] (os := []) (s' := St.mk [(0, tp (u16 s)), (4, tp (u16 0)), (7, tp (V.vs [i64 3] 1)), (8, tp (i64 1)), (9, tp (i64 0)), (10, tp (vb true))] []) (by kernel_rfl) trivial ?_
  refine AWP.seq ?_
  refine AWP.cond (b := true) (by kernel_rfl) (fun _ => ?_) (fun h => by cases h)
  refine AWP.skip ?_
  refine AWP.seq ?_
  refine AWP.block ?_
  refine AWP.seq ?_
  refine AWP.regionT tcok hmix [] [0, 4, 6, 7, 8, 9, 10, 11, 12] [] (os := []) (s' := St.mk [(0, tp (u16 s)), (4, tp (u16 0)), (6, tp (i64 3)), (7, tp (V.vs [i64 3] 1)), (8, tp (i64 1)), (9, tp (i64 0)), (10, tp (vb true)), (11, tp (V.vp [i64 3])), (12, tp (i64 3))] []) (by kernel_rfl) trivial ?_
  refine AWP.region tcok hmix [(2, ⟨none, some ⟨u16 8, [], []⟩⟩), (3, ⟨some (u16 (s + 8)), none⟩)] (os := [Con Try.prog 72 [] [i64 3] [] (u16 8), u16 (ior IntKind.u16 s 8) = u16 (s + 8)]) (sf := St.mk [(0, tp (u16 (s + 8))), (4, tp (u16 0)), (6, tp (i64 3)), (7, tp (V.vs [i64 3] 1)), (8, tp (i64 1)), (9, tp (i64 0)), (10, tp (vb true)), (11, tp (V.vp [i64 3])), (12, tp (i64 3)), (13, tp (u16 s)), (14, tp (i64 3)), (15, tp (u16 8)), (16, tp (u16 (s + 8)))] []) (by kernel_rfl) ⟨(con_one3 ), (in_eq wfo), trivial⟩ ?_
  refine AWP.region tcok hmix [] (os := []) (sf := St.mk [(0, tp (u16 (s + 8))), (4, tp (u16 0)), (6, tp (i64 3)), (7, tp (V.vs [i64 3] 1)), (8, tp (i64 1)), (9, tp (i64 1)), (10, tp (vb true)), (11, tp (V.vp [i64 3])), (12, tp (i64 3)), (13, tp (u16 s)), (14, tp (i64 3)), (15, tp (u16 8)), (16, tp (u16 (s + 8))), (17, tp (i64 1))] []) (by kernel_rfl) trivial ?_
  refine AWP.seq ?_
  refine AWP.regionT tcok hmix [] [0, 4, 6, 7, 8, 9, 10, 11, 12, 13, 14, 15, 16, 17] [] (os := []) (s' := St.mk [(0, tp (u16 (s + 8))), (4, tp (u16 0)), (6, tp (i64 3)), (7, tp (V.vs [i64 3] 1)), (8, tp (i64 1)), (9, tp (i64 1)), (10, tp (vb false)), (11, tp (V.vp [i64 3])), (12, tp (i64 3)), (13, tp (u16 s)), (14, tp (i64 3)), (15, tp (u16 8)), (16, tp (u16 (s + 8))), (17, tp (i64 1))] []) (by kernel_rfl) trivial ?_
  refine AWP.seq ?_
  refine AWP.cond (b := false) (by kernel_rfl) (fun h => by cases h) (fun _ => ?_)
  refine AWP.exit ?_
  refine AWP.seq ?_
  refine AWP.regionT tcok hmix [] [4] [] (os := []) (s' := St.mk [(4, tp (u16 (s + 8)))] []) (by kernel_rfl) trivial ?_
  refine AWP.ret ?_
  refine ⟨Or.inr rfl, Eq.trans (b := some ([], u16 (s + 8))) (by kernel_rfl) ?_⟩
  rfl
theorem con_has3 (s : Int) (h : 0 ≤ s ∧ s < 16) : Con Try.prog 40 [] [u16 s, i64 3] [] (vb (decide (s / 8 % 2 = 1))) := by
  have key : ∀ n : Fin 16, iand .u16 ((n.val : Nat) : Int) 8 = ((n.val : Nat) : Int) / 8 % 2 * 8 := by decide
  have wfo : iand .u16 s 8 = s / 8 % 2 * 8 := by
    have := key ⟨s.toNat, by omega⟩
    simpa [show ((s.toNat : Nat) : Int) = s by omega] using this
  refine Con.of (C := ⟨Try.prog, tc, Try.f40.ntmps⟩) [] tcok Try.func40 rfl rfl (by kernel_rfl) (by kernel_rfl) ?_
  refine AWP.seq ?_
  refine AWP.regionT tcok hmix [] [0, 1, 4] [] (os := []) (s' := St.mk [(0, tp (u16 s)), (1, tp (i64 3)), (4, tp (vb false))] []) (by kernel_rfl) trivial ?_
  refine AWP.seq ?_
  refine AWP.regionT tcok hmix [(2, ⟨none, some ⟨u16 8, [], []⟩⟩), (3, ⟨some (u16 (s / 8 % 2 * 8)), none⟩)] [4] [] (os := [Con Try.prog 72 [] [i64 3] [] (u16 8), u16 (iand IntKind.u16 s 8) = u16 (s / 8 % 2 * 8)]) (s' := St.mk [(4, tp (vb (s / 8 % 2 * 8 != 0)))] []) (by kernel_rfl) ⟨(con_one3 ), (in_eq wfo), trivial⟩ ?_
  refine AWP.ret ?_
  refine ⟨Or.inr rfl, Eq.trans (b := some ([], vb (s / 8 % 2 * 8 != 0))) (by kernel_rfl) ?_⟩
  first | rfl | (rw [bitm _ _ (by decide)]; done)
theorem con_withs (s i : Int) (hi : 0 ≤ i ∧ i < 4) (h : 0 ≤ s ∧ s < (2 : Int) ^ i.toNat) : Con Try.prog 71 [] [u16 s, .vs [i64 i] 1] [] (u16 (s + (2 : Int) ^ i.toNat)) := by
  have : i = 0 ∨ i = 1 ∨ i = 2 ∨ i = 3 := by omega
  rcases this with e | e | e | e
  · subst e; exact con_with0s s h
  · subst e; exact con_with1s s h
  · subst e; exact con_with2s s h
  · subst e; exact con_with3s s h
theorem con_hass (s i : Int) (hi : 0 ≤ i ∧ i < 4) (h : 0 ≤ s ∧ s < 16) : Con Try.prog 40 [] [u16 s, i64 i] [] (vb (decide (s / (2 : Int) ^ i.toNat % 2 = 1))) := by
  have : i = 0 ∨ i = 1 ∨ i = 2 ∨ i = 3 := by omega
  rcases this with e | e | e | e
  · subst e; exact con_has0 s h
  · subst e; exact con_has1 s h
  · subst e; exact con_has2 s h
  · subst e; exact con_has3 s h
theorem con_good (ls : List (List Int)) (n : Nat) (hn : ls.length = n) (hl : ∀ l ∈ ls, BL l ∧ l.length ≤ 1000000) (h4 : n ≤ 4) : Con Try.prog 39 [] [.vs (LL ls) n] [] (u16 (gsn ls n)) := by
  refine Con.of (C := ⟨Try.prog, tc, Try.f39.ntmps⟩) [] tcok Try.func39 rfl rfl (by kernel_rfl) (by kernel_rfl) ?_
  refine AWP.seq ?_
  refine AWP.regionT tcok hmix [] [0, 2] [] (os := []) (s' := St.mk [(0, tp (V.vs (LL ls) n)), (2, tp (u16 0))] []) (by kernel_rfl) trivial ?_
  refine AWP.seq ?_
  refine AWP.regionT tcok hmix [] [0, 2, 3] [] (os := []) (s' := St.mk [(0, tp (V.vs (LL ls) n)), (2, tp (u16 0)), (3, tp (u16 0))] []) (by kernel_rfl) trivial ?_
  refine AWP.seq ?_
  refine AWP.seq ?_
  refine AWP.regionT tcok hmix [] [2, 3, 9, 10, 11] [] (os := []) (s' := St.mk [(2, tp (u16 0)), (3, tp (u16 0)), (9, tp (V.vs (LL ls) n)), (10, tp (i64 (↑n : Int))), (11, tp (i64 0))] []) (by kernel_rfl) trivial ?_
  refine AWP.block ?_
  refine AWP.loopI [2, 3, 9, 10, 11] [] (fun N s' => ∃ (i : Int), s' = St.mk [(2, tp (u16 0)), (3, tp (u16 (gsn ls i.toNat))), (9, tp (V.vs (LL ls) n)), (10, tp (i64 (n : Int))), (11, tp (i64 i))] [] ∧ 0 ≤ i ∧ i ≤ n ∧ (N : Int) = n - i) n (s0 := St.mk [(2, tp (u16 0)), (3, tp (u16 0)), (9, tp (V.vs (LL ls) n)), (10, tp (i64 (n : Int))), (11, tp (i64 0))] []) (by kernel_rfl) ?_ ?_
  · exact ⟨0, rfl, by omega, by omega, by omega⟩
  rintro N s' ⟨i, rfl, hi, hi2, hN⟩
  by_cases hin : i < n
  case neg =>
    have e : i.toNat = n := by omega
    rw [e]
    refine AWP.seq ?_
    refine AWP.regionT tcok hmix [] [2, 3, 9, 10, 11, 12] [] (os := []) (s' := St.mk [(2, tp (u16 0)), (3, tp (u16 (gsn ls n))), (9, tp (V.vs (LL ls) n)), (10, tp (i64 (↑n : Int))), (11, tp (i64 i)), (12, tp (vb (decide (i < (↑n : Int)))))] []) (by kernel_rfl) trivial ?_
    refine AWP.seq ?_
    refine AWP.cond (b := decide (i < (↑n : Int))) (by kernel_rfl) (fun hq12 => ?_) (fun hq12 => ?_)
    · simp only [decide_eq_true_eq] at hq12
      (exfalso; omega)
    simp only [decide_eq_false_iff_not] at hq12
    refine AWP.exit ?_
    refine AWP.seq ?_
    refine AWP.regionT tcok hmix [] [2] [] (os := []) (s' := St.mk [(2, tp (u16 (gsn ls n)))] []) (by kernel_rfl) trivial ?_
    refine AWP.ret ?_
    refine ⟨Or.inr rfl, Eq.trans (b := some ([], u16 (gsn ls n))) (by kernel_rfl) ?_⟩
    first | rfl | (exfalso; omega)
  have kx := LL_at ls i.toNat
  have hcm : ls.getD i.toNat [] ∈ ls := by
    rw [List.getD_eq_getElem?_getD, List.getElem?_eq_getElem (by omega)]
    exact List.getElem_mem _
  have hg : gsn ls (i + 1).toNat = gsn ls i.toNat + (if cE (ls.getD i.toNat []) = 0 then (2 : Int) ^ i.toNat else 0) := by rw [show (i + 1).toNat = i.toNat + 1 by omega]; rfl
  have hb := gsn_bd ls i.toNat
  generalize ls.getD i.toNat [] = c at kx hcm hg
  have hcb := (hl c hcm).1
  have hcl := (hl c hcm).2
  have hw := con_withs (gsn ls i.toNat) i (by omega) hb
  refine AWP.seq ?_
  refine AWP.regionT tcok hmix [] [2, 3, 9, 10, 11, 12] [] (os := []) (s' := St.mk [(2, tp (u16 0)), (3, tp (u16 (gsn ls (Int.toNat i)))), (9, tp (V.vs (LL ls) n)), (10, tp (i64 (↑n : Int))), (11, tp (i64 i)), (12, tp (vb (decide (i < (↑n : Int)))))] []) (by kernel_rfl) trivial ?_
  refine AWP.seq ?_
  refine AWP.cond (b := decide (i < (↑n : Int))) (by kernel_rfl) (fun hq13 => ?_) (fun hq13 => ?_)
  · simp only [decide_eq_true_eq] at hq13
    refine AWP.skip ?_
    refine AWP.seq ?_
    refine AWP.block ?_
    refine AWP.seq ?_
    refine AWP.regionT tcok hmix [(1, ⟨some (V.vp (B8 c :: List.drop (Int.toNat i + 1) (LL ls))), none⟩)] [2, 3, 4, 5, 9, 10, 11] [] (os := [(0 : Int) ≤ i ∧ i < (↑n : Int), V.vp (List.drop (Int.toNat i * 1) (LL ls)) = V.vp (B8 c :: List.drop (Int.toNat i + 1) (LL ls))]) (s' := St.mk [(2, tp (u16 0)), (3, tp (u16 (gsn ls (Int.toNat i)))), (4, tp (i64 i)), (5, tp (B8 c)), (9, tp (V.vs (LL ls) n)), (10, tp (i64 (↑n : Int))), (11, tp (i64 i))] []) (by kernel_rfl) ⟨(by omega), (congrArg V.vp (kx (by omega))), trivial⟩ ?_
    refine AWP.seq ?_
    refine AWP.regionT tcok hmix [(1, ⟨none, some ⟨V.tup [u32 (cNo c), V.sl 680005 0 (List.length (cPo c)), i64 (cE c)], [(680005, Blk.mk (u8s (cPo c)) true 0 (some (5, 1)))], []⟩⟩)] [2, 3, 4, 8, 9, 10, 11] [] (os := [Con Try.prog 33 [] [B8 c] [(680005, Blk.mk (u8s (cPo c)) true 0 (some (5, 1)))] (V.tup [u32 (cNo c), V.sl 680005 0 (List.length (cPo c)), i64 (cE c)])]) (s' := St.mk [(2, tp (u16 0)), (3, tp (u16 (gsn ls (Int.toNat i)))), (4, tp (i64 i)), (8, tp (i64 (cE c))), (9, tp (V.vs (LL ls) n)), (10, tp (i64 (↑n : Int))), (11, tp (i64 i))] []) (by kernel_rfl) ⟨(con_cparse (c) (List.length c) (by omega) (by assumption) (by omega)), trivial⟩ ?_
    refine AWP.seq ?_
    refine AWP.regionT tcok hmix [] [2, 3, 4, 9, 10, 11, 23] [] (os := []) (s' := St.mk [(2, tp (u16 0)), (3, tp (u16 (gsn ls (Int.toNat i)))), (4, tp (i64 i)), (9, tp (V.vs (LL ls) n)), (10, tp (i64 (↑n : Int))), (11, tp (i64 i)), (23, tp (vb (cE c == 0)))] []) (by kernel_rfl) trivial ?_
    refine AWP.cond (b := cE c == 0) (by kernel_rfl) (fun hq14 => ?_) (fun hq14 => ?_)
    · simp only [beq_iff_eq] at hq14
      refine AWP.region tcok hmix [(3, ⟨none, some ⟨u16 (gsn ls (Int.toNat i) + 2 ^ Int.toNat i), [], [(26, true)]⟩⟩)] (os := [VO (u16 (gsn ls (Int.toNat i) + (2 : Int) ^ Int.toNat i)), VOH [], Con Try.prog 71 [] [u16 (gsn ls (Int.toNat i)), V.vs [i64 i] 1] [] (u16 (gsn ls (Int.toNat i) + 2 ^ Int.toNat i)), (0 : Nat) = (0 : Nat), (1 : Nat) = (1 : Nat)]) (sf := St.mk [(2, tp (u16 0)), (3, tp (u16 (gsn ls (Int.toNat i) + 2 ^ Int.toNat i))), (4, tp (i64 i)), (9, tp (V.vs (LL ls) n)), (10, tp (i64 (↑n : Int))), (11, tp (i64 i)), (23, tp (vb (cE c == 0))), (24, tp (u16 (gsn ls (Int.toNat i)))), (25, tp (i64 i)), (26, tp (V.sl 26 0 1)), (27, tp (u16 (gsn ls (Int.toNat i) + 2 ^ Int.toNat i)))] [(26, Blk.mk [i64 i] true 0 (some (3, 1)))]) (by kernel_rfl) ⟨(VO.val _), trivial, (hw ), (by omega), (by omega), trivial⟩ ?_
      refine AWP.keep' [2, 3, 9, 10, 11] [] (sf := St.mk [(2, tp (u16 0)), (3, tp (u16 (gsn ls (Int.toNat i) + 2 ^ Int.toNat i))), (9, tp (V.vs (LL ls) n)), (10, tp (i64 (↑n : Int))), (11, tp (i64 i))] []) (by kernel_rfl) ?_
      refine AWP.region tcok hmix [(0, ⟨some (i64 (i + 1)), none⟩)] (os := [i64 (IntKind.wrap IntKind.i64 (i + 1)) = i64 (i + 1)]) (sf := St.mk [(2, tp (u16 0)), (3, tp (u16 (gsn ls (Int.toNat i) + 2 ^ Int.toNat i))), (9, tp (V.vs (LL ls) n)), (10, tp (i64 (↑n : Int))), (11, tp (i64 (i + 1))), (28, tp (i64 (i + 1)))] []) (by kernel_rfl) ⟨(wr_i64 (by omega) (by omega)), trivial⟩ ?_
      refine ⟨St.mk [(2, tp (u16 0)), (3, tp (u16 (gsn ls (Int.toNat i) + 2 ^ Int.toNat i))), (9, tp (V.vs (LL ls) n)), (10, tp (i64 (↑n : Int))), (11, tp (i64 (i + 1)))] [], by kernel_rfl, ?_⟩
      first | (exact ⟨(n - (i + 1)).toNat, (by omega), i + 1, (by rw [hg, if_pos (by assumption)]), (by omega), (by omega), (by omega)⟩) | (exact ⟨(n - (i + 1)).toNat, (by omega), i + 1, (by rw [hg, if_neg (by assumption), Int.add_zero]), (by omega), (by omega), (by omega)⟩)
    simp only [beq_eq_false_iff_ne] at hq14
    refine AWP.skip ?_
    refine AWP.region tcok hmix [(0, ⟨some (i64 (i + 1)), none⟩)] (os := [i64 (IntKind.wrap IntKind.i64 (i + 1)) = i64 (i + 1)]) (sf := St.mk [(2, tp (u16 0)), (3, tp (u16 (gsn ls (Int.toNat i)))), (4, tp (i64 i)), (9, tp (V.vs (LL ls) n)), (10, tp (i64 (↑n : Int))), (11, tp (i64 (i + 1))), (23, tp (vb (cE c == 0))), (28, tp (i64 (i + 1)))] []) (by kernel_rfl) ⟨(wr_i64 (by omega) (by omega)), trivial⟩ ?_
    refine ⟨St.mk [(2, tp (u16 0)), (3, tp (u16 (gsn ls (Int.toNat i)))), (9, tp (V.vs (LL ls) n)), (10, tp (i64 (↑n : Int))), (11, tp (i64 (i + 1)))] [], by kernel_rfl, ?_⟩
    first | (exact ⟨(n - (i + 1)).toNat, (by omega), i + 1, (by rw [hg, if_pos (by assumption)]), (by omega), (by omega), (by omega)⟩) | (exact ⟨(n - (i + 1)).toNat, (by omega), i + 1, (by rw [hg, if_neg (by assumption), Int.add_zero]), (by omega), (by omega), (by omega)⟩)
  simp only [decide_eq_false_iff_not] at hq13
  (exfalso; omega)
/-- The document's vote. -/
def vno (ls : List (List Int)) : Int := if 2 ≤ (vst ls).1 then cNo (vst ls).2 else 0
def vpo (ls : List (List Int)) : List Int := if 2 ≤ (vst ls).1 then cPo (vst ls).2 else []
theorem con_rvote (ls : List (List Int)) (n : Nat) (hn : ls.length = n) (hl : ∀ l ∈ ls, BL l ∧ l.length ≤ 1000000) (hlen : n ≤ 1000000) : Con Try.prog 38 [] [.vs (LL ls) n] [] (.tup [u32 (vno ls), B8 (vpo ls), i64 (if 2 ≤ (vst ls).1 then 0 else 3)]) := by
  unfold vno vpo
  refine Con.of (C := ⟨Try.prog, tc, Try.f38.ntmps⟩) [1000000000] tcok Try.func38 rfl rfl (by kernel_rfl) (by kernel_rfl) ?_
  refine AWP.seq ?_
  refine AWP.regionT tcok hmix [] [0, 2, 3, 4] [3] (os := []) (s' := St.mk [(0, tp (V.vs (LL ls) n)), (2, tp (u32 0)), (3, tp (V.sl 3 0 0)), (4, tp (i64 0))] [(3, Blk.mk [] true 0 (some (5, 1)))]) (by kernel_rfl) trivial ?_
  refine AWP.seq ?_
  refine AWP.regionT tcok hmix [] [0, 2, 3, 4, 5] [3] (os := []) (s' := St.mk [(0, tp (V.vs (LL ls) n)), (2, tp (u32 0)), (3, tp (V.sl 3 0 0)), (4, tp (i64 0)), (5, tp (i64 0))] [(3, Blk.mk [] true 0 (some (5, 1)))]) (by kernel_rfl) trivial ?_
  refine AWP.seq ?_
  refine AWP.regionT tcok hmix [] [0, 2, 3, 4, 5, 6] [3] (os := []) (s' := St.mk [(0, tp (V.vs (LL ls) n)), (2, tp (u32 0)), (3, tp (V.sl 3 0 0)), (4, tp (i64 0)), (5, tp (i64 0)), (6, tp (u32 0))] [(3, Blk.mk [] true 0 (some (5, 1)))]) (by kernel_rfl) trivial ?_
  refine AWP.seq ?_
  refine AWP.regionT tcok hmix [] [0, 2, 3, 4, 5, 6, 7] [3, 7] (os := []) (s' := St.mk [(0, tp (V.vs (LL ls) n)), (2, tp (u32 0)), (3, tp (V.sl 3 0 0)), (4, tp (i64 0)), (5, tp (i64 0)), (6, tp (u32 0)), (7, tp (V.sl 7 0 0))] [(3, Blk.mk [] true 0 (some (5, 1))), (7, Blk.mk [] true 0 (some (5, 1)))]) (by kernel_rfl) trivial ?_
  refine AWP.seq ?_
  refine AWP.seq ?_
  refine AWP.regionT tcok hmix [] [2, 3, 4, 5, 6, 7, 13, 14, 15] [3, 7] (os := []) (s' := St.mk [(2, tp (u32 0)), (3, tp (V.sl 3 0 0)), (4, tp (i64 0)), (5, tp (i64 0)), (6, tp (u32 0)), (7, tp (V.sl 7 0 0)), (13, tp (V.vs (LL ls) n)), (14, tp (i64 (↑n : Int))), (15, tp (i64 0))] [(3, Blk.mk [] true 0 (some (5, 1))), (7, Blk.mk [] true 0 (some (5, 1)))]) (by kernel_rfl) trivial ?_
  refine AWP.block ?_
  refine AWP.loopI [2, 3, 4, 5, 6, 7, 13, 14, 15] [3, 7] (fun N s' => (∃ (i : Int), s' = St.mk [(2, tp (u32 0)), (3, tp (V.sl 3 0 0)), (4, tp (i64 0)), (5, tp (i64 0)), (6, tp (u32 0)), (7, tp (V.sl 7 0 0)), (13, tp (V.vs (LL ls) n)), (14, tp (i64 (n : Int))), (15, tp (i64 i))] [(3, Blk.mk [] true 0 (some (5, 1))), (7, Blk.mk [] true 0 (some (5, 1)))] ∧ (vst (ls.take i.toNat)).1 = 0 ∧ 0 ≤ i ∧ i ≤ n ∧ (N : Int) = n - i) ∨ (∃ (i : Int) (k : Nat) (m : List Int), s' = St.mk [(2, tp (u32 0)), (3, tp (V.sl 3 0 0)), (4, tp (i64 0)), (5, tp (i64 (k : Int))), (6, tp (u32 (cNo m))), (7, tp (B8 (cPo m))), (13, tp (V.vs (LL ls) n)), (14, tp (i64 (n : Int))), (15, tp (i64 i))] [(3, Blk.mk [] true 0 (some (5, 1)))] ∧ vst (ls.take i.toNat) = (k, m) ∧ 1 ≤ k ∧ 0 ≤ i ∧ i ≤ n ∧ (N : Int) = n - i)) n (s0 := St.mk [(2, tp (u32 0)), (3, tp (V.sl 3 0 0)), (4, tp (i64 0)), (5, tp (i64 0)), (6, tp (u32 0)), (7, tp (V.sl 7 0 0)), (13, tp (V.vs (LL ls) n)), (14, tp (i64 (n : Int))), (15, tp (i64 0))] [(3, Blk.mk [] true 0 (some (5, 1))), (7, Blk.mk [] true 0 (some (5, 1)))]) (by kernel_rfl) ?_ ?_
  · exact .inl ⟨0, rfl, rfl, by omega, by omega, by omega⟩
  rintro N s' (⟨i, rfl, hv, hi, hi2, hN⟩ | ⟨i, k, m, rfl, hv, hk, hi, hi2, hN⟩)
  · by_cases hin : i < n
    case neg =>
      rw [List.take_of_length_le (by omega)] at hv
      rw [if_neg (by omega), if_neg (by omega), if_neg (by omega)]
      refine AWP.seq ?_
      refine AWP.regionT tcok hmix [] [2, 3, 4, 5, 6, 7, 13, 14, 15, 16] [3, 7] (os := []) (s' := St.mk [(2, tp (u32 0)), (3, tp (V.sl 3 0 0)), (4, tp (i64 0)), (5, tp (i64 0)), (6, tp (u32 0)), (7, tp (V.sl 7 0 0)), (13, tp (V.vs (LL ls) n)), (14, tp (i64 (↑n : Int))), (15, tp (i64 i)), (16, tp (vb (decide (i < (↑n : Int)))))] [(3, Blk.mk [] true 0 (some (5, 1))), (7, Blk.mk [] true 0 (some (5, 1)))]) (by kernel_rfl) trivial ?_
      refine AWP.seq ?_
      refine AWP.cond (b := decide (i < (↑n : Int))) (by kernel_rfl) (fun hq15 => ?_) (fun hq15 => ?_)
      · simp only [decide_eq_true_eq] at hq15
        (exfalso; omega)
      simp only [decide_eq_false_iff_not] at hq15
      refine AWP.exit ?_
      refine AWP.seq ?_
      refine AWP.seq ?_
      refine AWP.regionT tcok hmix [] [2, 3, 4, 6, 7, 40] [3, 7] (os := []) (s' := St.mk [(2, tp (u32 0)), (3, tp (V.sl 3 0 0)), (4, tp (i64 0)), (6, tp (u32 0)), (7, tp (V.sl 7 0 0)), (40, tp (vb true))] [(3, Blk.mk [] true 0 (some (5, 1))), (7, Blk.mk [] true 0 (some (5, 1)))]) (by kernel_rfl) trivial ?_
      refine AWP.cond (b := true) (by kernel_rfl) (fun _ => ?_) (fun h => by cases h)
      refine AWP.seq ?_
      refine AWP.keep' [6, 7] [7] (sf := St.mk [(6, tp (u32 0)), (7, tp (V.sl 7 0 0))] [(7, Blk.mk [] true 0 (some (5, 1)))]) (by kernel_rfl) ?_
      refine AWP.regionT tcok hmix [] [2, 3, 4, 6, 7] [3, 7] (os := []) (s' := St.mk [(2, tp (u32 0)), (3, tp (V.sl 3 0 0)), (4, tp (i64 3)), (6, tp (u32 0)), (7, tp (V.sl 7 0 0))] [(3, Blk.mk [] true 0 (some (5, 1))), (7, Blk.mk [] true 0 (some (5, 1)))]) (by kernel_rfl) trivial ?_
      refine AWP.frz 3 (s' := St.mk [(2, tp (u32 0)), (3, tp (V.vs [] 0)), (4, tp (i64 3)), (6, tp (u32 0)), (7, tp (V.sl 7 0 0))] [(7, Blk.mk [] true 0 (some (5, 1)))]) (by kernel_rfl) ?_
      refine AWP.ret ?_
      refine ⟨Or.inr rfl, Eq.trans (b := some ([], V.tup [u32 0, V.vs [] 0, i64 3])) (by kernel_rfl) ?_⟩
      first | rfl | (exfalso; omega)
    have kx := LL_at ls i.toNat
    have hcm : ls.getD i.toNat [] ∈ ls := by
      rw [List.getD_eq_getElem?_getD, List.getElem?_eq_getElem (by omega)]
      exact List.getElem_mem _
    have hv' := vst_take (ls := ls) (i := i.toNat) (by omega)
    rw [show i.toNat + 1 = (i + 1).toNat by omega] at hv'
    generalize ls.getD i.toNat [] = c at kx hcm hv'
    have hcb := (hl c hcm).1
    have hcl := (hl c hcm).2
    have hnb := cNo_bd hcb
    refine AWP.seq ?_
    refine AWP.regionT tcok hmix [] [2, 3, 4, 5, 6, 7, 13, 14, 15, 16] [3, 7] (os := []) (s' := St.mk [(2, tp (u32 0)), (3, tp (V.sl 3 0 0)), (4, tp (i64 0)), (5, tp (i64 0)), (6, tp (u32 0)), (7, tp (V.sl 7 0 0)), (13, tp (V.vs (LL ls) n)), (14, tp (i64 (↑n : Int))), (15, tp (i64 i)), (16, tp (vb (decide (i < (↑n : Int)))))] [(3, Blk.mk [] true 0 (some (5, 1))), (7, Blk.mk [] true 0 (some (5, 1)))]) (by kernel_rfl) trivial ?_
    refine AWP.seq ?_
    refine AWP.cond (b := decide (i < (↑n : Int))) (by kernel_rfl) (fun hq17 => ?_) (fun hq17 => ?_)
    · simp only [decide_eq_true_eq] at hq17
      refine AWP.skip ?_
      refine AWP.seq ?_
      refine AWP.block ?_
      refine AWP.seq ?_
      refine AWP.regionT tcok hmix [(0, ⟨some (V.vp (B8 c :: List.drop (Int.toNat i + 1) (LL ls))), none⟩)] [2, 3, 4, 5, 6, 7, 9, 13, 14, 15] [3, 7] (os := [(0 : Int) ≤ i ∧ i < (↑n : Int), V.vp (List.drop (Int.toNat i * 1) (LL ls)) = V.vp (B8 c :: List.drop (Int.toNat i + 1) (LL ls))]) (s' := St.mk [(2, tp (u32 0)), (3, tp (V.sl 3 0 0)), (4, tp (i64 0)), (5, tp (i64 0)), (6, tp (u32 0)), (7, tp (V.sl 7 0 0)), (9, tp (B8 c)), (13, tp (V.vs (LL ls) n)), (14, tp (i64 (↑n : Int))), (15, tp (i64 i))] [(3, Blk.mk [] true 0 (some (5, 1))), (7, Blk.mk [] true 0 (some (5, 1)))]) (by kernel_rfl) ⟨(by omega), (congrArg V.vp (kx (by omega))), trivial⟩ ?_
      refine AWP.seq ?_
      refine AWP.regionT tcok hmix [(1, ⟨none, some ⟨V.tup [u32 (cNo c), V.sl 340005 0 (List.length (cPo c)), i64 (cE c)], [(340005, Blk.mk (u8s (cPo c)) true 0 (some (5, 1)))], []⟩⟩)] [2, 3, 4, 5, 6, 7, 10, 11, 12, 13, 14, 15] [3, 7, 560005] (os := [Con Try.prog 34 [] [B8 c] [(340005, Blk.mk (u8s (cPo c)) true 0 (some (5, 1)))] (V.tup [u32 (cNo c), V.sl 340005 0 (List.length (cPo c)), i64 (cE c)])]) (s' := St.mk [(2, tp (u32 0)), (3, tp (V.sl 3 0 0)), (4, tp (i64 0)), (5, tp (i64 0)), (6, tp (u32 0)), (7, tp (V.sl 7 0 0)), (10, tp (u32 (cNo c))), (11, tp (V.sl 560005 0 (List.length (cPo c)))), (12, tp (i64 (cE c))), (13, tp (V.vs (LL ls) n)), (14, tp (i64 (↑n : Int))), (15, tp (i64 i))] [(3, Blk.mk [] true 0 (some (5, 1))), (7, Blk.mk [] true 0 (some (5, 1))), (560005, Blk.mk (u8s (cPo c)) true 0 (some (5, 1)))]) (by kernel_rfl) ⟨(con_rparse (c) (List.length c) (by omega) (by assumption) (by assumption)), trivial⟩ ?_
      refine AWP.seq ?_
      refine AWP.seq ?_
      refine AWP.regionT tcok hmix [] [2, 3, 4, 5, 6, 7, 10, 11, 13, 14, 15, 26] [3, 7, 560005] (os := []) (s' := St.mk [(2, tp (u32 0)), (3, tp (V.sl 3 0 0)), (4, tp (i64 0)), (5, tp (i64 0)), (6, tp (u32 0)), (7, tp (V.sl 7 0 0)), (10, tp (u32 (cNo c))), (11, tp (V.sl 560005 0 (List.length (cPo c)))), (13, tp (V.vs (LL ls) n)), (14, tp (i64 (↑n : Int))), (15, tp (i64 i)), (26, tp (vb (cE c != 0)))] [(3, Blk.mk [] true 0 (some (5, 1))), (7, Blk.mk [] true 0 (some (5, 1))), (560005, Blk.mk (u8s (cPo c)) true 0 (some (5, 1)))]) (by kernel_rfl) trivial ?_
      refine AWP.cond (b := cE c != 0) (by kernel_rfl) (fun hq18 => ?_) (fun hq18 => ?_)
      · simp only [bne_iff_ne] at hq18
        refine AWP.exit ?_
        refine AWP.region tcok hmix [(0, ⟨some (i64 (i + 1)), none⟩)] (os := [i64 (IntKind.wrap IntKind.i64 (i + 1)) = i64 (i + 1)]) (sf := St.mk [(2, tp (u32 0)), (3, tp (V.sl 3 0 0)), (4, tp (i64 0)), (5, tp (i64 0)), (6, tp (u32 0)), (7, tp (V.sl 7 0 0)), (10, tp (u32 (cNo c))), (11, tp (V.sl 560005 0 (List.length (cPo c)))), (13, tp (V.vs (LL ls) n)), (14, tp (i64 (↑n : Int))), (15, tp (i64 (i + 1))), (26, tp (vb (cE c != 0))), (38, tp (i64 (i + 1)))] [(3, Blk.mk [] true 0 (some (5, 1))), (7, Blk.mk [] true 0 (some (5, 1))), (560005, Blk.mk (u8s (cPo c)) true 0 (some (5, 1)))]) (by kernel_rfl) ⟨(wr_i64 (by omega) (by omega)), trivial⟩ ?_
        refine ⟨St.mk [(2, tp (u32 0)), (3, tp (V.sl 3 0 0)), (4, tp (i64 0)), (5, tp (i64 0)), (6, tp (u32 0)), (7, tp (V.sl 7 0 0)), (13, tp (V.vs (LL ls) n)), (14, tp (i64 (↑n : Int))), (15, tp (i64 (i + 1)))] [(3, Blk.mk [] true 0 (some (5, 1))), (7, Blk.mk [] true 0 (some (5, 1)))], by kernel_rfl, ?_⟩
        first | (exact ⟨(n - (i + 1)).toNat, (by omega), Or.inl ⟨i + 1, rfl, (by rw [hv']; simp only [vnx]; rw [if_neg (by assumption)]; exact hv), (by omega), (by omega), (by omega)⟩⟩) | (exact ⟨(n - (i + 1)).toNat, (by omega), Or.inr ⟨i + 1, 1, c, rfl, (by rw [hv']; simp only [vnx]; rw [if_pos (by assumption), hv, if_pos (Or.inl rfl)]), (by omega), (by omega), (by omega), (by omega)⟩⟩)
      simp only [bne_eq_false_iff_eq] at hq18
      refine AWP.skip ?_
      refine AWP.seq ?_
      refine AWP.seq ?_
      refine AWP.regionT tcok hmix [] [2, 3, 4, 5, 6, 7, 10, 11, 13, 14, 15, 33] [3, 7, 560005] (os := []) (s' := St.mk [(2, tp (u32 0)), (3, tp (V.sl 3 0 0)), (4, tp (i64 0)), (5, tp (i64 0)), (6, tp (u32 0)), (7, tp (V.sl 7 0 0)), (10, tp (u32 (cNo c))), (11, tp (V.sl 560005 0 (List.length (cPo c)))), (13, tp (V.vs (LL ls) n)), (14, tp (i64 (↑n : Int))), (15, tp (i64 i)), (33, tp (vb true))] [(3, Blk.mk [] true 0 (some (5, 1))), (7, Blk.mk [] true 0 (some (5, 1))), (560005, Blk.mk (u8s (cPo c)) true 0 (some (5, 1)))]) (by kernel_rfl) trivial ?_
      refine AWP.cond (b := true) (by kernel_rfl) (fun _ => ?_) (fun h => by cases h)
      refine AWP.keep' [2, 3, 4, 5, 10, 11, 13, 14, 15] [3, 560005] (sf := St.mk [(2, tp (u32 0)), (3, tp (V.sl 3 0 0)), (4, tp (i64 0)), (5, tp (i64 0)), (10, tp (u32 (cNo c))), (11, tp (V.sl 560005 0 (List.length (cPo c)))), (13, tp (V.vs (LL ls) n)), (14, tp (i64 (↑n : Int))), (15, tp (i64 i))] [(3, Blk.mk [] true 0 (some (5, 1))), (560005, Blk.mk (u8s (cPo c)) true 0 (some (5, 1)))]) (by kernel_rfl) ?_
      refine AWP.regionT tcok hmix [] [2, 3, 4, 5, 6, 7, 13, 14, 15] [3, 560005] (os := []) (s' := St.mk [(2, tp (u32 0)), (3, tp (V.sl 3 0 0)), (4, tp (i64 0)), (5, tp (i64 0)), (6, tp (u32 (cNo c))), (7, tp (V.sl 560005 0 (List.length (cPo c)))), (13, tp (V.vs (LL ls) n)), (14, tp (i64 (↑n : Int))), (15, tp (i64 i))] [(3, Blk.mk [] true 0 (some (5, 1))), (560005, Blk.mk (u8s (cPo c)) true 0 (some (5, 1)))]) (by kernel_rfl) trivial ?_
      refine AWP.region tcok hmix [] (os := []) (sf := St.mk [(2, tp (u32 0)), (3, tp (V.sl 3 0 0)), (4, tp (i64 0)), (5, tp (i64 1)), (6, tp (u32 (cNo c))), (7, tp (V.sl 560005 0 (List.length (cPo c)))), (13, tp (V.vs (LL ls) n)), (14, tp (i64 (↑n : Int))), (15, tp (i64 i)), (36, tp (i64 0)), (37, tp (i64 1))] [(3, Blk.mk [] true 0 (some (5, 1))), (560005, Blk.mk (u8s (cPo c)) true 0 (some (5, 1)))]) (by kernel_rfl) trivial ?_
      refine AWP.keep' [2, 3, 4, 5, 6, 7, 13, 14, 15] [3, 560005] (sf := St.mk [(2, tp (u32 0)), (3, tp (V.sl 3 0 0)), (4, tp (i64 0)), (5, tp (i64 1)), (6, tp (u32 (cNo c))), (7, tp (V.sl 560005 0 (List.length (cPo c)))), (13, tp (V.vs (LL ls) n)), (14, tp (i64 (↑n : Int))), (15, tp (i64 i))] [(3, Blk.mk [] true 0 (some (5, 1))), (560005, Blk.mk (u8s (cPo c)) true 0 (some (5, 1)))]) (by kernel_rfl) ?_
      refine AWP.frz 560005 (s' := St.mk [(2, tp (u32 0)), (3, tp (V.sl 3 0 0)), (4, tp (i64 0)), (5, tp (i64 1)), (6, tp (u32 (cNo c))), (7, tp (B8 (cPo c))), (13, tp (V.vs (LL ls) n)), (14, tp (i64 (↑n : Int))), (15, tp (i64 i))] [(3, Blk.mk [] true 0 (some (5, 1)))]) (by kernel_rfl) ?_
      refine AWP.region tcok hmix [(0, ⟨some (i64 (i + 1)), none⟩)] (os := [i64 (IntKind.wrap IntKind.i64 (i + 1)) = i64 (i + 1)]) (sf := St.mk [(2, tp (u32 0)), (3, tp (V.sl 3 0 0)), (4, tp (i64 0)), (5, tp (i64 1)), (6, tp (u32 (cNo c))), (7, tp (B8 (cPo c))), (13, tp (V.vs (LL ls) n)), (14, tp (i64 (↑n : Int))), (15, tp (i64 (i + 1))), (38, tp (i64 (i + 1)))] [(3, Blk.mk [] true 0 (some (5, 1)))]) (by kernel_rfl) ⟨(wr_i64 (by omega) (by omega)), trivial⟩ ?_
      refine ⟨St.mk [(2, tp (u32 0)), (3, tp (V.sl 3 0 0)), (4, tp (i64 0)), (5, tp (i64 1)), (6, tp (u32 (cNo c))), (7, tp (B8 (cPo c))), (13, tp (V.vs (LL ls) n)), (14, tp (i64 (↑n : Int))), (15, tp (i64 (i + 1)))] [(3, Blk.mk [] true 0 (some (5, 1)))], by kernel_rfl, ?_⟩
      first | (exact ⟨(n - (i + 1)).toNat, (by omega), Or.inl ⟨i + 1, rfl, (by rw [hv']; simp only [vnx]; rw [if_neg (by assumption)]; exact hv), (by omega), (by omega), (by omega)⟩⟩) | (exact ⟨(n - (i + 1)).toNat, (by omega), Or.inr ⟨i + 1, 1, c, rfl, (by rw [hv']; simp only [vnx]; rw [if_pos (by assumption), hv, if_pos (Or.inl rfl)]), (by omega), (by omega), (by omega), (by omega)⟩⟩)
    simp only [decide_eq_false_iff_not] at hq17
    (exfalso; omega)
  · have hok := vst_ok (ls.take i.toNat) (fun l h => hl l (List.mem_of_mem_take h))
    rw [hv] at hok
    obtain ⟨ok1, ok2, ok3⟩ := hok
    rw [List.length_take] at ok1
    have ok1 : k ≤ n := by omega
    have ok2 : BL m := ok2
    have ok3 : m.length ≤ 1000000 := ok3
    have hm0 : cE m = 0 := by
      have := vst_some (ls := ls.take i.toNat)
      rw [hv] at this
      exact this (by simp; omega)
    have hmb := cNo_bd ok2
    by_cases hin : i < n
    case neg =>
      rw [List.take_of_length_le (by omega)] at hv
      rw [hv]
      refine AWP.seq ?_
      refine AWP.regionT tcok hmix [] [2, 3, 4, 5, 6, 7, 13, 14, 15, 16] [3] (os := []) (s' := St.mk [(2, tp (u32 0)), (3, tp (V.sl 3 0 0)), (4, tp (i64 0)), (5, tp (i64 (↑k : Int))), (6, tp (u32 (cNo m))), (7, tp (B8 (cPo m))), (13, tp (V.vs (LL ls) n)), (14, tp (i64 (↑n : Int))), (15, tp (i64 i)), (16, tp (vb (decide (i < (↑n : Int)))))] [(3, Blk.mk [] true 0 (some (5, 1)))]) (by kernel_rfl) trivial ?_
      refine AWP.seq ?_
      refine AWP.cond (b := decide (i < (↑n : Int))) (by kernel_rfl) (fun hq20 => ?_) (fun hq20 => ?_)
      · simp only [decide_eq_true_eq] at hq20
        (exfalso; omega)
      simp only [decide_eq_false_iff_not] at hq20
      refine AWP.exit ?_
      refine AWP.seq ?_
      refine AWP.seq ?_
      refine AWP.regionT tcok hmix [] [2, 3, 4, 6, 7, 40] [3] (os := []) (s' := St.mk [(2, tp (u32 0)), (3, tp (V.sl 3 0 0)), (4, tp (i64 0)), (6, tp (u32 (cNo m))), (7, tp (B8 (cPo m))), (40, tp (vb (decide ((↑k : Int) < 2))))] [(3, Blk.mk [] true 0 (some (5, 1)))]) (by kernel_rfl) trivial ?_
      refine AWP.cond (b := decide ((↑k : Int) < 2)) (by kernel_rfl) (fun hq21 => ?_) (fun hq21 => ?_)
      · simp only [decide_eq_true_eq] at hq21
        refine AWP.seq ?_
        refine AWP.keep' [6, 7] [] (sf := St.mk [(6, tp (u32 (cNo m))), (7, tp (B8 (cPo m)))] []) (by kernel_rfl) ?_
        refine AWP.regionT tcok hmix [] [2, 3, 4, 6, 7] [3] (os := []) (s' := St.mk [(2, tp (u32 0)), (3, tp (V.sl 3 0 0)), (4, tp (i64 3)), (6, tp (u32 (cNo m))), (7, tp (B8 (cPo m)))] [(3, Blk.mk [] true 0 (some (5, 1)))]) (by kernel_rfl) trivial ?_
        refine AWP.frz 3 (s' := St.mk [(2, tp (u32 0)), (3, tp (V.vs [] 0)), (4, tp (i64 3)), (6, tp (u32 (cNo m))), (7, tp (B8 (cPo m)))] []) (by kernel_rfl) ?_
        refine AWP.ret ?_
        refine ⟨Or.inr rfl, Eq.trans (b := some ([], V.tup [u32 0, V.vs [] 0, i64 3])) (by kernel_rfl) ?_⟩
        first | (rw [if_pos (by simp only; omega), if_pos (by simp only; omega), if_pos (by simp only; omega)]; done) | (have hk3 : ¬ 2 ≤ (k, m).1 := (by show ¬ 2 ≤ k; omega); simp only [if_neg hk3]; rfl) | (exfalso; omega)
      simp only [decide_eq_false_iff_not] at hq21
      refine AWP.skip ?_
      refine AWP.seq ?_
      refine AWP.keep' [6, 7] [] (sf := St.mk [(6, tp (u32 (cNo m))), (7, tp (B8 (cPo m)))] []) (by kernel_rfl) ?_
      refine AWP.regionT tcok hmix [] [2, 3, 4] [] (os := []) (s' := St.mk [(2, tp (u32 (cNo m))), (3, tp (B8 (cPo m))), (4, tp (i64 0))] []) (by kernel_rfl) trivial ?_
      refine AWP.ret ?_
      refine ⟨Or.inr rfl, Eq.trans (b := some ([], V.tup [u32 (cNo m), B8 (cPo m), i64 0])) (by kernel_rfl) ?_⟩
      first | (rw [if_pos (by simp only; omega), if_pos (by simp only; omega), if_pos (by simp only; omega)]; done) | (have hk3 : ¬ 2 ≤ (k, m).1 := (by show ¬ 2 ≤ k; omega); simp only [if_neg hk3]; rfl) | (exfalso; omega)
    have kx := LL_at ls i.toNat
    have hcm : ls.getD i.toNat [] ∈ ls := by
      rw [List.getD_eq_getElem?_getD, List.getElem?_eq_getElem (by omega)]
      exact List.getElem_mem _
    have hv' := vst_take (ls := ls) (i := i.toNat) (by omega)
    rw [show i.toNat + 1 = (i + 1).toNat by omega] at hv'
    generalize ls.getD i.toNat [] = c at kx hcm hv'
    have hcb := (hl c hcm).1
    have hcl := (hl c hcm).2
    have hnb := cNo_bd hcb
    refine AWP.seq ?_
    refine AWP.regionT tcok hmix [] [2, 3, 4, 5, 6, 7, 13, 14, 15, 16] [3] (os := []) (s' := St.mk [(2, tp (u32 0)), (3, tp (V.sl 3 0 0)), (4, tp (i64 0)), (5, tp (i64 (↑k : Int))), (6, tp (u32 (cNo m))), (7, tp (B8 (cPo m))), (13, tp (V.vs (LL ls) n)), (14, tp (i64 (↑n : Int))), (15, tp (i64 i)), (16, tp (vb (decide (i < (↑n : Int)))))] [(3, Blk.mk [] true 0 (some (5, 1)))]) (by kernel_rfl) trivial ?_
    refine AWP.seq ?_
    refine AWP.cond (b := decide (i < (↑n : Int))) (by kernel_rfl) (fun hq22 => ?_) (fun hq22 => ?_)
    · simp only [decide_eq_true_eq] at hq22
      refine AWP.skip ?_
      refine AWP.seq ?_
      refine AWP.block ?_
      refine AWP.seq ?_
      refine AWP.regionT tcok hmix [(0, ⟨some (V.vp (B8 c :: List.drop (Int.toNat i + 1) (LL ls))), none⟩)] [2, 3, 4, 5, 6, 7, 9, 13, 14, 15] [3] (os := [(0 : Int) ≤ i ∧ i < (↑n : Int), V.vp (List.drop (Int.toNat i * 1) (LL ls)) = V.vp (B8 c :: List.drop (Int.toNat i + 1) (LL ls))]) (s' := St.mk [(2, tp (u32 0)), (3, tp (V.sl 3 0 0)), (4, tp (i64 0)), (5, tp (i64 (↑k : Int))), (6, tp (u32 (cNo m))), (7, tp (B8 (cPo m))), (9, tp (B8 c)), (13, tp (V.vs (LL ls) n)), (14, tp (i64 (↑n : Int))), (15, tp (i64 i))] [(3, Blk.mk [] true 0 (some (5, 1)))]) (by kernel_rfl) ⟨(by omega), (congrArg V.vp (kx (by omega))), trivial⟩ ?_
      refine AWP.seq ?_
      refine AWP.regionT tcok hmix [(1, ⟨none, some ⟨V.tup [u32 (cNo c), V.sl 340005 0 (List.length (cPo c)), i64 (cE c)], [(340005, Blk.mk (u8s (cPo c)) true 0 (some (5, 1)))], []⟩⟩)] [2, 3, 4, 5, 6, 7, 10, 11, 12, 13, 14, 15] [3, 560005] (os := [Con Try.prog 34 [] [B8 c] [(340005, Blk.mk (u8s (cPo c)) true 0 (some (5, 1)))] (V.tup [u32 (cNo c), V.sl 340005 0 (List.length (cPo c)), i64 (cE c)])]) (s' := St.mk [(2, tp (u32 0)), (3, tp (V.sl 3 0 0)), (4, tp (i64 0)), (5, tp (i64 (↑k : Int))), (6, tp (u32 (cNo m))), (7, tp (B8 (cPo m))), (10, tp (u32 (cNo c))), (11, tp (V.sl 560005 0 (List.length (cPo c)))), (12, tp (i64 (cE c))), (13, tp (V.vs (LL ls) n)), (14, tp (i64 (↑n : Int))), (15, tp (i64 i))] [(3, Blk.mk [] true 0 (some (5, 1))), (560005, Blk.mk (u8s (cPo c)) true 0 (some (5, 1)))]) (by kernel_rfl) ⟨(con_rparse (c) (List.length c) (by omega) (by assumption) (by assumption)), trivial⟩ ?_
      refine AWP.seq ?_
      refine AWP.seq ?_
      refine AWP.regionT tcok hmix [] [2, 3, 4, 5, 6, 7, 10, 11, 13, 14, 15, 26] [3, 560005] (os := []) (s' := St.mk [(2, tp (u32 0)), (3, tp (V.sl 3 0 0)), (4, tp (i64 0)), (5, tp (i64 (↑k : Int))), (6, tp (u32 (cNo m))), (7, tp (B8 (cPo m))), (10, tp (u32 (cNo c))), (11, tp (V.sl 560005 0 (List.length (cPo c)))), (13, tp (V.vs (LL ls) n)), (14, tp (i64 (↑n : Int))), (15, tp (i64 i)), (26, tp (vb (cE c != 0)))] [(3, Blk.mk [] true 0 (some (5, 1))), (560005, Blk.mk (u8s (cPo c)) true 0 (some (5, 1)))]) (by kernel_rfl) trivial ?_
      refine AWP.cond (b := cE c != 0) (by kernel_rfl) (fun hq23 => ?_) (fun hq23 => ?_)
      · simp only [bne_iff_ne] at hq23
        refine AWP.exit ?_
        refine AWP.region tcok hmix [(0, ⟨some (i64 (i + 1)), none⟩)] (os := [i64 (IntKind.wrap IntKind.i64 (i + 1)) = i64 (i + 1)]) (sf := St.mk [(2, tp (u32 0)), (3, tp (V.sl 3 0 0)), (4, tp (i64 0)), (5, tp (i64 (↑k : Int))), (6, tp (u32 (cNo m))), (7, tp (B8 (cPo m))), (10, tp (u32 (cNo c))), (11, tp (V.sl 560005 0 (List.length (cPo c)))), (13, tp (V.vs (LL ls) n)), (14, tp (i64 (↑n : Int))), (15, tp (i64 (i + 1))), (26, tp (vb (cE c != 0))), (38, tp (i64 (i + 1)))] [(3, Blk.mk [] true 0 (some (5, 1))), (560005, Blk.mk (u8s (cPo c)) true 0 (some (5, 1)))]) (by kernel_rfl) ⟨(wr_i64 (by omega) (by omega)), trivial⟩ ?_
        refine ⟨St.mk [(2, tp (u32 0)), (3, tp (V.sl 3 0 0)), (4, tp (i64 0)), (5, tp (i64 (↑k : Int))), (6, tp (u32 (cNo m))), (7, tp (B8 (cPo m))), (13, tp (V.vs (LL ls) n)), (14, tp (i64 (↑n : Int))), (15, tp (i64 (i + 1)))] [(3, Blk.mk [] true 0 (some (5, 1)))], by kernel_rfl, ?_⟩
        first | (exact ⟨(n - (i + 1)).toNat, (by omega), Or.inr ⟨i + 1, k, m, rfl, (by rw [hv', hv]; simp only [vnx]; rw [if_neg (by assumption)]), (by omega), (by omega), (by omega), (by omega)⟩⟩) | (exact ⟨(n - (i + 1)).toNat, (by omega), Or.inr ⟨i + 1, k + 1, c, rfl, (by rw [hv', hv]; simp only [vnx]; rw [if_pos (by assumption), if_pos (by right; simp [newer, hm0]; refine ⟨by assumption, ?_⟩; omega)]), (by omega), (by omega), (by omega), (by omega)⟩⟩) | (exact ⟨(n - (i + 1)).toNat, (by omega), Or.inr ⟨i + 1, k + 1, m, rfl, (by rw [hv', hv]; simp only [vnx]; rw [if_pos (by assumption), if_neg (by simp [newer, hm0]; omega)]), (by omega), (by omega), (by omega), (by omega)⟩⟩)
      simp only [bne_eq_false_iff_eq] at hq23
      refine AWP.skip ?_
      refine AWP.seq ?_
      refine AWP.seq ?_
      refine AWP.regionT tcok hmix [] [2, 3, 4, 5, 6, 7, 10, 11, 13, 14, 15, 33] [3, 560005] (os := []) (s' := St.mk [(2, tp (u32 0)), (3, tp (V.sl 3 0 0)), (4, tp (i64 0)), (5, tp (i64 (↑k : Int))), (6, tp (u32 (cNo m))), (7, tp (B8 (cPo m))), (10, tp (u32 (cNo c))), (11, tp (V.sl 560005 0 (List.length (cPo c)))), (13, tp (V.vs (LL ls) n)), (14, tp (i64 (↑n : Int))), (15, tp (i64 i)), (33, tp (vb ((↑k : Int) == 0 || decide (cNo c > cNo m))))] [(3, Blk.mk [] true 0 (some (5, 1))), (560005, Blk.mk (u8s (cPo c)) true 0 (some (5, 1)))]) (by kernel_rfl) trivial ?_
      refine AWP.cond (b := (↑k : Int) == 0 || decide (cNo c > cNo m)) (by kernel_rfl) (fun hq24 => ?_) (fun hq24 => ?_)
      · simp only [decide_eq_true_eq, Bool.or_eq_true, beq_iff_eq] at hq24
        refine AWP.regionT tcok hmix [] [2, 3, 4, 5, 6, 7, 13, 14, 15] [3, 560005] (os := []) (s' := St.mk [(2, tp (u32 0)), (3, tp (V.sl 3 0 0)), (4, tp (i64 0)), (5, tp (i64 (↑k : Int))), (6, tp (u32 (cNo c))), (7, tp (V.sl 560005 0 (List.length (cPo c)))), (13, tp (V.vs (LL ls) n)), (14, tp (i64 (↑n : Int))), (15, tp (i64 i))] [(3, Blk.mk [] true 0 (some (5, 1))), (560005, Blk.mk (u8s (cPo c)) true 0 (some (5, 1)))]) (by kernel_rfl) trivial ?_
        refine AWP.region tcok hmix [(1, ⟨some (i64 ((↑k : Int) + 1)), none⟩)] (os := [i64 (IntKind.wrap IntKind.i64 ((↑k : Int) + 1)) = i64 ((↑k : Int) + 1)]) (sf := St.mk [(2, tp (u32 0)), (3, tp (V.sl 3 0 0)), (4, tp (i64 0)), (5, tp (i64 ((↑k : Int) + 1))), (6, tp (u32 (cNo c))), (7, tp (V.sl 560005 0 (List.length (cPo c)))), (13, tp (V.vs (LL ls) n)), (14, tp (i64 (↑n : Int))), (15, tp (i64 i)), (36, tp (i64 (↑k : Int))), (37, tp (i64 ((↑k : Int) + 1)))] [(3, Blk.mk [] true 0 (some (5, 1))), (560005, Blk.mk (u8s (cPo c)) true 0 (some (5, 1)))]) (by kernel_rfl) ⟨(wr_i64 (by omega) (by omega)), trivial⟩ ?_
        refine AWP.keep' [2, 3, 4, 5, 6, 7, 13, 14, 15] [3, 560005] (sf := St.mk [(2, tp (u32 0)), (3, tp (V.sl 3 0 0)), (4, tp (i64 0)), (5, tp (i64 ((↑k : Int) + 1))), (6, tp (u32 (cNo c))), (7, tp (V.sl 560005 0 (List.length (cPo c)))), (13, tp (V.vs (LL ls) n)), (14, tp (i64 (↑n : Int))), (15, tp (i64 i))] [(3, Blk.mk [] true 0 (some (5, 1))), (560005, Blk.mk (u8s (cPo c)) true 0 (some (5, 1)))]) (by kernel_rfl) ?_
        refine AWP.frz 560005 (s' := St.mk [(2, tp (u32 0)), (3, tp (V.sl 3 0 0)), (4, tp (i64 0)), (5, tp (i64 ((↑k : Int) + 1))), (6, tp (u32 (cNo c))), (7, tp (B8 (cPo c))), (13, tp (V.vs (LL ls) n)), (14, tp (i64 (↑n : Int))), (15, tp (i64 i))] [(3, Blk.mk [] true 0 (some (5, 1)))]) (by kernel_rfl) ?_
        refine AWP.region tcok hmix [(0, ⟨some (i64 (i + 1)), none⟩)] (os := [i64 (IntKind.wrap IntKind.i64 (i + 1)) = i64 (i + 1)]) (sf := St.mk [(2, tp (u32 0)), (3, tp (V.sl 3 0 0)), (4, tp (i64 0)), (5, tp (i64 ((↑k : Int) + 1))), (6, tp (u32 (cNo c))), (7, tp (B8 (cPo c))), (13, tp (V.vs (LL ls) n)), (14, tp (i64 (↑n : Int))), (15, tp (i64 (i + 1))), (38, tp (i64 (i + 1)))] [(3, Blk.mk [] true 0 (some (5, 1)))]) (by kernel_rfl) ⟨(wr_i64 (by omega) (by omega)), trivial⟩ ?_
        refine ⟨St.mk [(2, tp (u32 0)), (3, tp (V.sl 3 0 0)), (4, tp (i64 0)), (5, tp (i64 ((↑k : Int) + 1))), (6, tp (u32 (cNo c))), (7, tp (B8 (cPo c))), (13, tp (V.vs (LL ls) n)), (14, tp (i64 (↑n : Int))), (15, tp (i64 (i + 1)))] [(3, Blk.mk [] true 0 (some (5, 1)))], by kernel_rfl, ?_⟩
        first | (exact ⟨(n - (i + 1)).toNat, (by omega), Or.inr ⟨i + 1, k, m, rfl, (by rw [hv', hv]; simp only [vnx]; rw [if_neg (by assumption)]), (by omega), (by omega), (by omega), (by omega)⟩⟩) | (exact ⟨(n - (i + 1)).toNat, (by omega), Or.inr ⟨i + 1, k + 1, c, rfl, (by rw [hv', hv]; simp only [vnx]; rw [if_pos (by assumption), if_pos (by right; simp [newer, hm0]; refine ⟨by assumption, ?_⟩; omega)]), (by omega), (by omega), (by omega), (by omega)⟩⟩) | (exact ⟨(n - (i + 1)).toNat, (by omega), Or.inr ⟨i + 1, k + 1, m, rfl, (by rw [hv', hv]; simp only [vnx]; rw [if_pos (by assumption), if_neg (by simp [newer, hm0]; omega)]), (by omega), (by omega), (by omega), (by omega)⟩⟩)
      simp only [decide_eq_false_iff_not, Bool.or_eq_false_iff, beq_eq_false_iff_ne] at hq24
      refine AWP.skip ?_
      refine AWP.region tcok hmix [(1, ⟨some (i64 ((↑k : Int) + 1)), none⟩)] (os := [i64 (IntKind.wrap IntKind.i64 ((↑k : Int) + 1)) = i64 ((↑k : Int) + 1)]) (sf := St.mk [(2, tp (u32 0)), (3, tp (V.sl 3 0 0)), (4, tp (i64 0)), (5, tp (i64 ((↑k : Int) + 1))), (6, tp (u32 (cNo m))), (7, tp (B8 (cPo m))), (10, tp (u32 (cNo c))), (11, tp (V.sl 560005 0 (List.length (cPo c)))), (13, tp (V.vs (LL ls) n)), (14, tp (i64 (↑n : Int))), (15, tp (i64 i)), (33, tp (vb ((↑k : Int) == 0 || decide (cNo c > cNo m)))), (36, tp (i64 (↑k : Int))), (37, tp (i64 ((↑k : Int) + 1)))] [(3, Blk.mk [] true 0 (some (5, 1))), (560005, Blk.mk (u8s (cPo c)) true 0 (some (5, 1)))]) (by kernel_rfl) ⟨(wr_i64 (by omega) (by omega)), trivial⟩ ?_
      refine AWP.keep' [2, 3, 4, 5, 6, 7, 13, 14, 15] [3] (sf := St.mk [(2, tp (u32 0)), (3, tp (V.sl 3 0 0)), (4, tp (i64 0)), (5, tp (i64 ((↑k : Int) + 1))), (6, tp (u32 (cNo m))), (7, tp (B8 (cPo m))), (13, tp (V.vs (LL ls) n)), (14, tp (i64 (↑n : Int))), (15, tp (i64 i))] [(3, Blk.mk [] true 0 (some (5, 1)))]) (by kernel_rfl) ?_
      refine AWP.region tcok hmix [(0, ⟨some (i64 (i + 1)), none⟩)] (os := [i64 (IntKind.wrap IntKind.i64 (i + 1)) = i64 (i + 1)]) (sf := St.mk [(2, tp (u32 0)), (3, tp (V.sl 3 0 0)), (4, tp (i64 0)), (5, tp (i64 ((↑k : Int) + 1))), (6, tp (u32 (cNo m))), (7, tp (B8 (cPo m))), (13, tp (V.vs (LL ls) n)), (14, tp (i64 (↑n : Int))), (15, tp (i64 (i + 1))), (38, tp (i64 (i + 1)))] [(3, Blk.mk [] true 0 (some (5, 1)))]) (by kernel_rfl) ⟨(wr_i64 (by omega) (by omega)), trivial⟩ ?_
      refine ⟨St.mk [(2, tp (u32 0)), (3, tp (V.sl 3 0 0)), (4, tp (i64 0)), (5, tp (i64 ((↑k : Int) + 1))), (6, tp (u32 (cNo m))), (7, tp (B8 (cPo m))), (13, tp (V.vs (LL ls) n)), (14, tp (i64 (↑n : Int))), (15, tp (i64 (i + 1)))] [(3, Blk.mk [] true 0 (some (5, 1)))], by kernel_rfl, ?_⟩
      first | (exact ⟨(n - (i + 1)).toNat, (by omega), Or.inr ⟨i + 1, k, m, rfl, (by rw [hv', hv]; simp only [vnx]; rw [if_neg (by assumption)]), (by omega), (by omega), (by omega), (by omega)⟩⟩) | (exact ⟨(n - (i + 1)).toNat, (by omega), Or.inr ⟨i + 1, k + 1, c, rfl, (by rw [hv', hv]; simp only [vnx]; rw [if_pos (by assumption), if_pos (by right; simp [newer, hm0]; refine ⟨by assumption, ?_⟩; omega)]), (by omega), (by omega), (by omega), (by omega)⟩⟩) | (exact ⟨(n - (i + 1)).toNat, (by omega), Or.inr ⟨i + 1, k + 1, m, rfl, (by rw [hv', hv]; simp only [vnx]; rw [if_pos (by assumption), if_neg (by simp [newer, hm0]; omega)]), (by omega), (by omega), (by omega), (by omega)⟩⟩)
    simp only [decide_eq_false_iff_not] at hq22
    (exfalso; omega)
theorem con_vote (ls : List (List Int)) (n : Nat) (hn : ls.length = n) (hl : ∀ l ∈ ls, BL l ∧ l.length ≤ 1000000) (hlen : n ≤ 1000000) : Con Try.prog 37 [] [.vs (LL ls) n] [] (.tup [u32 (vno ls), B8 (vpo ls), i64 (if 2 ≤ (vst ls).1 then 0 else 3)]) := by
  unfold vno vpo
  by_cases h : 2 ≤ (vst ls).1
  · simp only [if_pos h]
    exact (con_vote_y ls n hn hl hlen h).frz3
  · simp only [if_neg h]
    exact (con_vote_n ls n hn hl hlen (by omega)).frz3
end Go.Proofs.Ytmeiemdnhjnpcaa
