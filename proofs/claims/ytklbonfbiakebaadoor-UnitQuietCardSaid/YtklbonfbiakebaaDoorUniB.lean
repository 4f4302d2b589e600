/- Chapter 13: UnitBounds, UnitQuiet. -/
import Derived.Test.YtklbonfbiakebaaDoorUniA
namespace Go.Proofs.YtklbonfbiakebaaDoor
open Go.Ab
set_option linter.unusedSimpArgs false
set_option linter.unusedVariables false
theorem law_quiet (wt tl n : Int) (hw : 0 ≤ wt ∧ wt < 256) (ht : 0 ≤ tl ∧ tl < 256) (hn : 0 ≤ n ∧ n < 256) :
    Con Tryd.prog 5 [] [.agg true [u8 wt, u8 tl], u8 n] [] (vb true) := by
  refine Con.of (C := ⟨Tryd.prog, tc, Tryd.f5.ntmps⟩) [] tcok Tryd.func5 rfl rfl (by kernel_rfl) (by kernel_rfl) ?_
  refine AWP.seq ?_
  refine AWP.regionT tcok hmix [] [1, 2, 4] [2] (os := []) (s' := St.mk [(1, tp (u8 n)), (2, tp (V.ptr 2 0)), (4, tp (vb false))] [(2, Blk.mk [u8 wt, u8 tl] true 2 none)]) (by kernel_rfl) trivial ?_
  refine AWP.seq ?_
  refine AWP.seq ?_
  refine AWP.regionT tcok hmix [(0, ⟨none, some ⟨vb true, [], []⟩⟩)] [1, 2, 4, 14] [2] (os := [Con Tryd.prog 14 [] [] [] (vb true)]) (s' := St.mk [(1, tp (u8 n)), (2, tp (V.ptr 2 0)), (4, tp (vb false)), (14, tp (vb false))] [(2, Blk.mk [u8 wt, u8 tl] true 2 none)]) (by kernel_rfl) ⟨(con_awake13 ), trivial⟩ ?_
  refine AWP.cond (b := false) (by kernel_rfl) (fun h => by cases h) (fun _ => ?_)
  refine AWP.skip ?_
  refine AWP.seq ?_
  refine AWP.regionT tcok hmix [(2, ⟨none, some ⟨V.tup [Un.v (uorder (Un.mk 0 0 0) true wt).fst, vb (uorder (Un.mk 0 0 0) true wt).snd], [], []⟩⟩)] [1, 2, 4, 5] [2, 5] (os := [Con Tryd.prog 15 [] [V.agg true [u8 0, u8 0, u8 0], vb true, V.agg true [u8 wt, u8 tl]] [] (V.tup [V.agg true [u8 1, u8 wt, u8 0], vb true])]) (s' := St.mk [(1, tp (u8 n)), (2, tp (V.ptr 2 0)), (4, tp (vb false)), (5, tp (V.ptr 5 0))] [(2, Blk.mk [u8 wt, u8 tl] true 2 none), (5, Blk.mk [u8 1, u8 wt, u8 0] true 3 none)]) (by kernel_rfl) ⟨(con_uorder (0) (0) (0) (wt) (tl) (true)), trivial⟩ ?_
  refine AWP.seq ?_
  refine AWP.seq ?_
  refine AWP.regionT tcok hmix [] [1, 2, 4, 5, 7] [2, 5] (os := []) (s' := St.mk [(1, tp (u8 n)), (2, tp (V.ptr 2 0)), (4, tp (vb false)), (5, tp (V.ptr 5 0)), (7, tp (i64 0))] [(2, Blk.mk [u8 wt, u8 tl] true 2 none), (5, Blk.mk [u8 1, u8 wt, u8 0] true 3 none)]) (by kernel_rfl) trivial ?_
  refine AWP.block ?_
  refine AWP.loopI [1, 2, 4, 5, 7] [2, 5] (fun N s' => (∃ i : Int, s' = St.mk [(1, T.plain (u8 n)), (2, T.plain (V.ptr 2 0)), (4, T.plain (vb false)), (5, T.plain (V.ptr 5 0)), (7, T.plain (i64 i))] [(2, Blk.mk [u8 wt, u8 tl] true 2 none), (5, Blk.mk [u8 1, u8 (wt - i), u8 0] true 3 none)] ∧ 0 ≤ i ∧ i ≤ wt ∧ (N : Int) = wt + 1 - i) ∨ (s' = St.mk [(1, T.plain (u8 n)), (2, T.plain (V.ptr 2 0)), (4, T.plain (vb false)), (5, T.plain (V.ptr 5 0)), (7, T.plain (i64 (wt + 1)))] [(2, Blk.mk [u8 wt, u8 tl] true 2 none), (5, Blk.mk [u8 3, u8 0, u8 0] true 3 none)] ∧ N = 0)) (wt + 1).toNat (s0 := St.mk [(1, T.plain (u8 n)), (2, T.plain (V.ptr 2 0)), (4, T.plain (vb false)), (5, T.plain (V.ptr 5 0)), (7, T.plain (i64 0))] [(2, Blk.mk [u8 wt, u8 tl] true 2 none), (5, Blk.mk [u8 1, u8 wt, u8 0] true 3 none)]) (by kernel_rfl) ?_ ?_
  · exact .inl ⟨0, (by rw [Int.sub_zero]), by omega, by omega, by omega⟩
  rintro N s' (⟨i, rfl, hi, hi2, hN⟩ | ⟨rfl, hN⟩)
  · by_cases hl : i = wt
    · subst hl
      rw [Int.sub_self]
      refine AWP.seq ?_
      refine AWP.seq ?_
      refine AWP.regionT tcok hmix [(3, ⟨some (i64 i), none⟩)] [1, 2, 4, 5, 7, 25] [2, 5] (os := [i64 (IntKind.wrap IntKind.i64 i) = i64 i]) (s' := St.mk [(1, tp (u8 n)), (2, tp (V.ptr 2 0)), (4, tp (vb false)), (5, tp (V.ptr 5 0)), (7, tp (i64 i)), (25, tp (vb (decide (i ≤ i))))] [(2, Blk.mk [u8 i, u8 tl] true 2 none), (5, Blk.mk [u8 1, u8 0, u8 0] true 3 none)]) (by kernel_rfl) ⟨(wr_i64 (by omega) (by omega)), trivial⟩ ?_
      refine AWP.cond (b := decide (i ≤ i)) (by kernel_rfl) (fun hq1 => ?_) (fun hq1 => ?_)
      · simp only [decide_eq_true_eq] at hq1
        refine AWP.skip ?_
        refine AWP.seq ?_
        refine AWP.block ?_
        refine AWP.seq ?_
        refine AWP.seq ?_
        refine AWP.regionT tcok hmix [] [1, 2, 4, 5, 7, 30] [2, 5] (os := []) (s' := St.mk [(1, tp (u8 n)), (2, tp (V.ptr 2 0)), (4, tp (vb false)), (5, tp (V.ptr 5 0)), (7, tp (i64 i)), (30, tp (vb false))] [(2, Blk.mk [u8 i, u8 tl] true 2 none), (5, Blk.mk [u8 1, u8 0, u8 0] true 3 none)]) (by kernel_rfl) trivial ?_
        refine AWP.cond (b := false) (by kernel_rfl) (fun h => by cases h) (fun _ => ?_)
        refine AWP.skip ?_
        refine AWP.region tcok hmix [(2, ⟨none, some ⟨V.tup [V.agg true [u8 3, u8 0, u8 0], u8 2], [], []⟩⟩)] (os := [Con Tryd.prog 16 [] [V.agg true [u8 1, u8 0, u8 0], vb false, vb true, V.agg true [u8 i, u8 tl]] [] (V.tup [V.agg true [u8 3, u8 0, u8 0], u8 2])]) (sf := St.mk [(1, tp (u8 n)), (2, tp (V.ptr 2 0)), (4, tp (vb false)), (5, tp (V.ptr 5 0)), (7, tp (i64 i)), (30, tp (vb false)), (31, tp (V.tup [V.agg true [u8 3, u8 0, u8 0], u8 2])), (32, tp (V.agg true [u8 1, u8 0, u8 0])), (33, tp (V.agg true [u8 i, u8 tl])), (34, tp (V.tup [V.agg true [u8 3, u8 0, u8 0], u8 2])), (35, tp (V.agg true [u8 3, u8 0, u8 0])), (36, tp (u8 2))] [(2, Blk.mk [u8 i, u8 tl] true 2 none), (5, Blk.mk [u8 3, u8 0, u8 0] true 3 none)]) (by kernel_rfl) ⟨(con_st1_last (0) (i) (tl) (true) (by omega) (by assumption)), trivial⟩ ?_
        refine AWP.keep' [1, 2, 4, 5, 7] [2, 5] (sf := St.mk [(1, tp (u8 n)), (2, tp (V.ptr 2 0)), (4, tp (vb false)), (5, tp (V.ptr 5 0)), (7, tp (i64 i))] [(2, Blk.mk [u8 i, u8 tl] true 2 none), (5, Blk.mk [u8 3, u8 0, u8 0] true 3 none)]) (by kernel_rfl) ?_
        refine AWP.region tcok hmix [(1, ⟨some (i64 (i + 1)), none⟩)] (os := [i64 (IntKind.wrap IntKind.i64 (i + 1)) = i64 (i + 1)]) (sf := St.mk [(1, tp (u8 n)), (2, tp (V.ptr 2 0)), (4, tp (vb false)), (5, tp (V.ptr 5 0)), (7, tp (i64 (i + 1))), (26, tp (i64 i)), (27, tp (i64 (i + 1)))] [(2, Blk.mk [u8 i, u8 tl] true 2 none), (5, Blk.mk [u8 3, u8 0, u8 0] true 3 none)]) (by kernel_rfl) ⟨(wr_i64 (by omega) (by omega)), trivial⟩ ?_
        refine ⟨St.mk [(1, tp (u8 n)), (2, tp (V.ptr 2 0)), (4, tp (vb false)), (5, tp (V.ptr 5 0)), (7, tp (i64 (i + 1)))] [(2, Blk.mk [u8 i, u8 tl] true 2 none), (5, Blk.mk [u8 3, u8 0, u8 0] true 3 none)], by kernel_rfl, ?_⟩
        (exact ⟨0, (by omega), Or.inr ⟨rfl, rfl⟩⟩)
      simp only [decide_eq_false_iff_not] at hq1
      (exfalso; omega)
    · refine AWP.seq ?_
      refine AWP.seq ?_
      refine AWP.regionT tcok hmix [(3, ⟨some (i64 wt), none⟩)] [1, 2, 4, 5, 7, 25] [2, 5] (os := [i64 (IntKind.wrap IntKind.i64 wt) = i64 wt]) (s' := St.mk [(1, tp (u8 n)), (2, tp (V.ptr 2 0)), (4, tp (vb false)), (5, tp (V.ptr 5 0)), (7, tp (i64 i)), (25, tp (vb (decide (i ≤ wt))))] [(2, Blk.mk [u8 wt, u8 tl] true 2 none), (5, Blk.mk [u8 1, u8 (wt - i), u8 0] true 3 none)]) (by kernel_rfl) ⟨(wr_i64 (by omega) (by omega)), trivial⟩ ?_
      refine AWP.cond (b := decide (i ≤ wt)) (by kernel_rfl) (fun hq3 => ?_) (fun hq3 => ?_)
      · simp only [decide_eq_true_eq] at hq3
        refine AWP.skip ?_
        refine AWP.seq ?_
        refine AWP.block ?_
        refine AWP.seq ?_
        refine AWP.seq ?_
        refine AWP.regionT tcok hmix [] [1, 2, 4, 5, 7, 30] [2, 5] (os := []) (s' := St.mk [(1, tp (u8 n)), (2, tp (V.ptr 2 0)), (4, tp (vb false)), (5, tp (V.ptr 5 0)), (7, tp (i64 i)), (30, tp (vb false))] [(2, Blk.mk [u8 wt, u8 tl] true 2 none), (5, Blk.mk [u8 1, u8 (wt - i), u8 0] true 3 none)]) (by kernel_rfl) trivial ?_
        refine AWP.cond (b := false) (by kernel_rfl) (fun h => by cases h) (fun _ => ?_)
        refine AWP.skip ?_
        refine AWP.region tcok hmix [(2, ⟨none, some ⟨V.tup [V.agg true [u8 1, u8 (wt - i - 1), u8 0], u8 0], [], []⟩⟩)] (os := [Con Tryd.prog 16 [] [V.agg true [u8 1, u8 (wt - i), u8 0], vb false, vb true, V.agg true [u8 wt, u8 tl]] [] (V.tup [V.agg true [u8 1, u8 (wt - i - 1), u8 0], u8 0])]) (sf := St.mk [(1, tp (u8 n)), (2, tp (V.ptr 2 0)), (4, tp (vb false)), (5, tp (V.ptr 5 0)), (7, tp (i64 i)), (30, tp (vb false)), (31, tp (V.tup [V.agg true [u8 1, u8 (wt - i - 1), u8 0], u8 0])), (32, tp (V.agg true [u8 1, u8 (wt - i), u8 0])), (33, tp (V.agg true [u8 wt, u8 tl])), (34, tp (V.tup [V.agg true [u8 1, u8 (wt - i - 1), u8 0], u8 0])), (35, tp (V.agg true [u8 1, u8 (wt - i - 1), u8 0])), (36, tp (u8 0))] [(2, Blk.mk [u8 wt, u8 tl] true 2 none), (5, Blk.mk [u8 1, u8 (wt - i - 1), u8 0] true 3 none)]) (by kernel_rfl) ⟨(con_st1_more (wt - i) (0) (wt) (tl) (true) (by omega) (by omega) (by assumption)), trivial⟩ ?_
        refine AWP.keep' [1, 2, 4, 5, 7] [2, 5] (sf := St.mk [(1, tp (u8 n)), (2, tp (V.ptr 2 0)), (4, tp (vb false)), (5, tp (V.ptr 5 0)), (7, tp (i64 i))] [(2, Blk.mk [u8 wt, u8 tl] true 2 none), (5, Blk.mk [u8 1, u8 (wt - i - 1), u8 0] true 3 none)]) (by kernel_rfl) ?_
        refine AWP.region tcok hmix [(1, ⟨some (i64 (i + 1)), none⟩)] (os := [i64 (IntKind.wrap IntKind.i64 (i + 1)) = i64 (i + 1)]) (sf := St.mk [(1, tp (u8 n)), (2, tp (V.ptr 2 0)), (4, tp (vb false)), (5, tp (V.ptr 5 0)), (7, tp (i64 (i + 1))), (26, tp (i64 i)), (27, tp (i64 (i + 1)))] [(2, Blk.mk [u8 wt, u8 tl] true 2 none), (5, Blk.mk [u8 1, u8 (wt - i - 1), u8 0] true 3 none)]) (by kernel_rfl) ⟨(wr_i64 (by omega) (by omega)), trivial⟩ ?_
        refine ⟨St.mk [(1, tp (u8 n)), (2, tp (V.ptr 2 0)), (4, tp (vb false)), (5, tp (V.ptr 5 0)), (7, tp (i64 (i + 1)))] [(2, Blk.mk [u8 wt, u8 tl] true 2 none), (5, Blk.mk [u8 1, u8 (wt - i - 1), u8 0] true 3 none)], by kernel_rfl, ?_⟩
        (exact ⟨(wt - i).toNat, (by omega), Or.inl ⟨i + 1, (by rw [show wt - (i + 1) = wt - i - 1 by omega]), (by omega), (by omega), (by omega)⟩⟩)
      simp only [decide_eq_false_iff_not] at hq3
      (exfalso; omega)
  refine AWP.seq ?_
  refine AWP.seq ?_
  refine AWP.regionT tcok hmix [(3, ⟨some (i64 wt), none⟩)] [1, 2, 4, 5, 7, 25] [2, 5] (os := [i64 (IntKind.wrap IntKind.i64 wt) = i64 wt]) (s' := St.mk [(1, tp (u8 n)), (2, tp (V.ptr 2 0)), (4, tp (vb false)), (5, tp (V.ptr 5 0)), (7, tp (i64 (wt + 1))), (25, tp (vb (decide (wt + 1 ≤ wt))))] [(2, Blk.mk [u8 wt, u8 tl] true 2 none), (5, Blk.mk [u8 3, u8 0, u8 0] true 3 none)]) (by kernel_rfl) ⟨(wr_i64 (by omega) (by omega)), trivial⟩ ?_
  refine AWP.cond (b := decide (wt + 1 ≤ wt)) (by kernel_rfl) (fun hq5 => ?_) (fun hq5 => ?_)
  · simp only [decide_eq_true_eq] at hq5
    (exfalso; omega)
  simp only [decide_eq_false_iff_not] at hq5
  refine AWP.exit ?_
  refine AWP.seq ?_
  refine AWP.regionT tcok hmix [] [1, 2, 4, 5, 8] [2, 5, 8] (os := []) (s' := St.mk [(1, tp (u8 n)), (2, tp (V.ptr 2 0)), (4, tp (vb false)), (5, tp (V.ptr 5 0)), (8, tp (V.ptr 8 0))] [(2, Blk.mk [u8 wt, u8 tl] true 2 none), (5, Blk.mk [u8 3, u8 0, u8 0] true 3 none), (8, Blk.mk [u8 2, u8 0, u8 0] true 3 none)]) (by kernel_rfl) trivial ?_
  refine AWP.seq ?_
  refine AWP.seq ?_
  refine AWP.regionT tcok hmix [] [1, 2, 4, 5, 8, 9] [2, 5, 8] (os := []) (s' := St.mk [(1, tp (u8 n)), (2, tp (V.ptr 2 0)), (4, tp (vb false)), (5, tp (V.ptr 5 0)), (8, tp (V.ptr 8 0)), (9, tp (i64 0))] [(2, Blk.mk [u8 wt, u8 tl] true 2 none), (5, Blk.mk [u8 3, u8 0, u8 0] true 3 none), (8, Blk.mk [u8 2, u8 0, u8 0] true 3 none)]) (by kernel_rfl) trivial ?_
  refine AWP.block ?_
  refine AWP.loopI [1, 2, 4, 5, 8, 9] [2, 5, 8] (fun N s' => (∃ i : Int, s' = St.mk [(1, T.plain (u8 n)), (2, T.plain (V.ptr 2 0)), (4, T.plain (vb false)), (5, T.plain (V.ptr 5 0)), (8, T.plain (V.ptr 8 0)), (9, T.plain (i64 i))] [(2, Blk.mk [u8 wt, u8 tl] true 2 none), (5, Blk.mk [u8 3, u8 0, u8 0] true 3 none), (8, Blk.mk [u8 2, u8 0, u8 i] true 3 none)] ∧ 0 ≤ i ∧ i ≤ tl ∧ (N : Int) = tl + 1 - i) ∨ (s' = St.mk [(1, T.plain (u8 n)), (2, T.plain (V.ptr 2 0)), (4, T.plain (vb false)), (5, T.plain (V.ptr 5 0)), (8, T.plain (V.ptr 8 0)), (9, T.plain (i64 (tl + 1)))] [(2, Blk.mk [u8 wt, u8 tl] true 2 none), (5, Blk.mk [u8 3, u8 0, u8 0] true 3 none), (8, Blk.mk [u8 3, u8 0, u8 0] true 3 none)] ∧ N = 0)) (tl + 1).toNat (s0 := St.mk [(1, T.plain (u8 n)), (2, T.plain (V.ptr 2 0)), (4, T.plain (vb false)), (5, T.plain (V.ptr 5 0)), (8, T.plain (V.ptr 8 0)), (9, T.plain (i64 0))] [(2, Blk.mk [u8 wt, u8 tl] true 2 none), (5, Blk.mk [u8 3, u8 0, u8 0] true 3 none), (8, Blk.mk [u8 2, u8 0, u8 0] true 3 none)]) (by kernel_rfl) ?_ ?_
  · exact .inl ⟨0, rfl, by omega, by omega, by omega⟩
  rintro N s' (⟨i, rfl, hi, hi2, hN⟩ | ⟨rfl, hN⟩)
  · have ht2 : i.tmod 2 = i % 2 := Int.tmod_eq_emod_of_nonneg hi
    rcases (by omega : i % 2 = 0 ∨ i % 2 = 1) with hp | hp
    · have h2 : i.tmod 2 = 0 := ht2.trans hp
      by_cases hl : i = tl
      · subst hl
        refine AWP.seq ?_
        refine AWP.seq ?_
        refine AWP.regionT tcok hmix [(3, ⟨some (i64 i), none⟩)] [1, 2, 4, 5, 8, 9, 42] [2, 5, 8] (os := [i64 (IntKind.wrap IntKind.i64 i) = i64 i]) (s' := St.mk [(1, tp (u8 n)), (2, tp (V.ptr 2 0)), (4, tp (vb false)), (5, tp (V.ptr 5 0)), (8, tp (V.ptr 8 0)), (9, tp (i64 i)), (42, tp (vb (decide (i ≤ i))))] [(2, Blk.mk [u8 wt, u8 i] true 2 none), (5, Blk.mk [u8 3, u8 0, u8 0] true 3 none), (8, Blk.mk [u8 2, u8 0, u8 i] true 3 none)]) (by kernel_rfl) ⟨(wr_i64 (by omega) (by omega)), trivial⟩ ?_
        refine AWP.cond (b := decide (i ≤ i)) (by kernel_rfl) (fun hq6 => ?_) (fun hq6 => ?_)
        · simp only [decide_eq_true_eq] at hq6
          refine AWP.skip ?_
          refine AWP.seq ?_
          refine AWP.block ?_
          refine AWP.seq ?_
          refine AWP.seq ?_
          refine AWP.regionT tcok hmix [] [1, 2, 4, 5, 8, 9, 47] [2, 5, 8] (os := []) (s' := St.mk [(1, tp (u8 n)), (2, tp (V.ptr 2 0)), (4, tp (vb false)), (5, tp (V.ptr 5 0)), (8, tp (V.ptr 8 0)), (9, tp (i64 i)), (47, tp (vb false))] [(2, Blk.mk [u8 wt, u8 i] true 2 none), (5, Blk.mk [u8 3, u8 0, u8 0] true 3 none), (8, Blk.mk [u8 2, u8 0, u8 i] true 3 none)]) (by kernel_rfl) trivial ?_
          refine AWP.cond (b := false) (by kernel_rfl) (fun h => by cases h) (fun _ => ?_)
          refine AWP.skip ?_
          refine AWP.region tcok hmix [(2, ⟨some (i64 0), none⟩), (5, ⟨some (i64 0), none⟩), (8, ⟨none, some ⟨V.tup [V.agg true [u8 3, u8 0, u8 0], u8 2], [], []⟩⟩)] (os := [(2 : Int) ≠ (0 : Int), i64 (Int.tmod i 2) = i64 0, (2 : Int) ≠ (0 : Int), i64 (Int.tmod i 2) = i64 0, Con Tryd.prog 16 [] [V.agg true [u8 2, u8 0, u8 i], vb true, vb false, V.agg true [u8 wt, u8 i]] [] (V.tup [V.agg true [u8 3, u8 0, u8 0], u8 2])]) (sf := St.mk [(1, tp (u8 n)), (2, tp (V.ptr 2 0)), (4, tp (vb false)), (5, tp (V.ptr 5 0)), (8, tp (V.ptr 8 0)), (9, tp (i64 i)), (47, tp (vb false)), (48, tp (V.tup [V.agg true [u8 3, u8 0, u8 0], u8 2])), (49, tp (V.agg true [u8 2, u8 0, u8 i])), (50, tp (i64 i)), (51, tp (i64 0)), (52, tp (vb true)), (53, tp (i64 i)), (54, tp (i64 0)), (55, tp (vb false)), (56, tp (V.agg true [u8 wt, u8 i])), (57, tp (V.tup [V.agg true [u8 3, u8 0, u8 0], u8 2])), (58, tp (V.agg true [u8 3, u8 0, u8 0])), (59, tp (u8 2))] [(2, Blk.mk [u8 wt, u8 i] true 2 none), (5, Blk.mk [u8 3, u8 0, u8 0] true 3 none), (8, Blk.mk [u8 3, u8 0, u8 0] true 3 none)]) (by kernel_rfl) ⟨(by omega), (in_eq h2), (by omega), (in_eq h2), (con_st2_lost0 (0) (i) (wt) (i) (by assumption) (by omega) (by assumption)), trivial⟩ ?_
          refine AWP.keep' [1, 2, 4, 5, 8, 9] [2, 5, 8] (sf := St.mk [(1, tp (u8 n)), (2, tp (V.ptr 2 0)), (4, tp (vb false)), (5, tp (V.ptr 5 0)), (8, tp (V.ptr 8 0)), (9, tp (i64 i))] [(2, Blk.mk [u8 wt, u8 i] true 2 none), (5, Blk.mk [u8 3, u8 0, u8 0] true 3 none), (8, Blk.mk [u8 3, u8 0, u8 0] true 3 none)]) (by kernel_rfl) ?_
          refine AWP.region tcok hmix [(1, ⟨some (i64 (i + 1)), none⟩)] (os := [i64 (IntKind.wrap IntKind.i64 (i + 1)) = i64 (i + 1)]) (sf := St.mk [(1, tp (u8 n)), (2, tp (V.ptr 2 0)), (4, tp (vb false)), (5, tp (V.ptr 5 0)), (8, tp (V.ptr 8 0)), (9, tp (i64 (i + 1))), (43, tp (i64 i)), (44, tp (i64 (i + 1)))] [(2, Blk.mk [u8 wt, u8 i] true 2 none), (5, Blk.mk [u8 3, u8 0, u8 0] true 3 none), (8, Blk.mk [u8 3, u8 0, u8 0] true 3 none)]) (by kernel_rfl) ⟨(wr_i64 (by omega) (by omega)), trivial⟩ ?_
          refine ⟨St.mk [(1, tp (u8 n)), (2, tp (V.ptr 2 0)), (4, tp (vb false)), (5, tp (V.ptr 5 0)), (8, tp (V.ptr 8 0)), (9, tp (i64 (i + 1)))] [(2, Blk.mk [u8 wt, u8 i] true 2 none), (5, Blk.mk [u8 3, u8 0, u8 0] true 3 none), (8, Blk.mk [u8 3, u8 0, u8 0] true 3 none)], by kernel_rfl, ?_⟩
          (exact ⟨0, (by omega), Or.inr ⟨rfl, rfl⟩⟩)
        simp only [decide_eq_false_iff_not] at hq6
        (exfalso; omega)
      · refine AWP.seq ?_
        refine AWP.seq ?_
        refine AWP.regionT tcok hmix [(3, ⟨some (i64 tl), none⟩)] [1, 2, 4, 5, 8, 9, 42] [2, 5, 8] (os := [i64 (IntKind.wrap IntKind.i64 tl) = i64 tl]) (s' := St.mk [(1, tp (u8 n)), (2, tp (V.ptr 2 0)), (4, tp (vb false)), (5, tp (V.ptr 5 0)), (8, tp (V.ptr 8 0)), (9, tp (i64 i)), (42, tp (vb (decide (i ≤ tl))))] [(2, Blk.mk [u8 wt, u8 tl] true 2 none), (5, Blk.mk [u8 3, u8 0, u8 0] true 3 none), (8, Blk.mk [u8 2, u8 0, u8 i] true 3 none)]) (by kernel_rfl) ⟨(wr_i64 (by omega) (by omega)), trivial⟩ ?_
        refine AWP.cond (b := decide (i ≤ tl)) (by kernel_rfl) (fun hq8 => ?_) (fun hq8 => ?_)
        · simp only [decide_eq_true_eq] at hq8
          refine AWP.skip ?_
          refine AWP.seq ?_
          refine AWP.block ?_
          refine AWP.seq ?_
          refine AWP.seq ?_
          refine AWP.regionT tcok hmix [] [1, 2, 4, 5, 8, 9, 47] [2, 5, 8] (os := []) (s' := St.mk [(1, tp (u8 n)), (2, tp (V.ptr 2 0)), (4, tp (vb false)), (5, tp (V.ptr 5 0)), (8, tp (V.ptr 8 0)), (9, tp (i64 i)), (47, tp (vb false))] [(2, Blk.mk [u8 wt, u8 tl] true 2 none), (5, Blk.mk [u8 3, u8 0, u8 0] true 3 none), (8, Blk.mk [u8 2, u8 0, u8 i] true 3 none)]) (by kernel_rfl) trivial ?_
          refine AWP.cond (b := false) (by kernel_rfl) (fun h => by cases h) (fun _ => ?_)
          refine AWP.skip ?_
          refine AWP.region tcok hmix [(2, ⟨some (i64 0), none⟩), (5, ⟨some (i64 0), none⟩), (8, ⟨none, some ⟨V.tup [V.agg true [u8 2, u8 0, u8 (i + 1)], u8 0], [], []⟩⟩)] (os := [(2 : Int) ≠ (0 : Int), i64 (Int.tmod i 2) = i64 0, (2 : Int) ≠ (0 : Int), i64 (Int.tmod i 2) = i64 0, Con Tryd.prog 16 [] [V.agg true [u8 2, u8 0, u8 i], vb true, vb false, V.agg true [u8 wt, u8 tl]] [] (V.tup [V.agg true [u8 2, u8 0, u8 (i + 1)], u8 0])]) (sf := St.mk [(1, tp (u8 n)), (2, tp (V.ptr 2 0)), (4, tp (vb false)), (5, tp (V.ptr 5 0)), (8, tp (V.ptr 8 0)), (9, tp (i64 i)), (47, tp (vb false)), (48, tp (V.tup [V.agg true [u8 2, u8 0, u8 (i + 1)], u8 0])), (49, tp (V.agg true [u8 2, u8 0, u8 i])), (50, tp (i64 i)), (51, tp (i64 0)), (52, tp (vb true)), (53, tp (i64 i)), (54, tp (i64 0)), (55, tp (vb false)), (56, tp (V.agg true [u8 wt, u8 tl])), (57, tp (V.tup [V.agg true [u8 2, u8 0, u8 (i + 1)], u8 0])), (58, tp (V.agg true [u8 2, u8 0, u8 (i + 1)])), (59, tp (u8 0))] [(2, Blk.mk [u8 wt, u8 tl] true 2 none), (5, Blk.mk [u8 3, u8 0, u8 0] true 3 none), (8, Blk.mk [u8 2, u8 0, u8 (i + 1)] true 3 none)]) (by kernel_rfl) ⟨(by omega), (in_eq h2), (by omega), (in_eq h2), (con_st2_bad0 (0) (i) (wt) (tl) (by omega) (by omega) (by assumption)), trivial⟩ ?_
          refine AWP.keep' [1, 2, 4, 5, 8, 9] [2, 5, 8] (sf := St.mk [(1, tp (u8 n)), (2, tp (V.ptr 2 0)), (4, tp (vb false)), (5, tp (V.ptr 5 0)), (8, tp (V.ptr 8 0)), (9, tp (i64 i))] [(2, Blk.mk [u8 wt, u8 tl] true 2 none), (5, Blk.mk [u8 3, u8 0, u8 0] true 3 none), (8, Blk.mk [u8 2, u8 0, u8 (i + 1)] true 3 none)]) (by kernel_rfl) ?_
          refine AWP.region tcok hmix [(1, ⟨some (i64 (i + 1)), none⟩)] (os := [i64 (IntKind.wrap IntKind.i64 (i + 1)) = i64 (i + 1)]) (sf := St.mk [(1, tp (u8 n)), (2, tp (V.ptr 2 0)), (4, tp (vb false)), (5, tp (V.ptr 5 0)), (8, tp (V.ptr 8 0)), (9, tp (i64 (i + 1))), (43, tp (i64 i)), (44, tp (i64 (i + 1)))] [(2, Blk.mk [u8 wt, u8 tl] true 2 none), (5, Blk.mk [u8 3, u8 0, u8 0] true 3 none), (8, Blk.mk [u8 2, u8 0, u8 (i + 1)] true 3 none)]) (by kernel_rfl) ⟨(wr_i64 (by omega) (by omega)), trivial⟩ ?_
          refine ⟨St.mk [(1, tp (u8 n)), (2, tp (V.ptr 2 0)), (4, tp (vb false)), (5, tp (V.ptr 5 0)), (8, tp (V.ptr 8 0)), (9, tp (i64 (i + 1)))] [(2, Blk.mk [u8 wt, u8 tl] true 2 none), (5, Blk.mk [u8 3, u8 0, u8 0] true 3 none), (8, Blk.mk [u8 2, u8 0, u8 (i + 1)] true 3 none)], by kernel_rfl, ?_⟩
          (exact ⟨(tl - i).toNat, (by omega), Or.inl ⟨i + 1, rfl, (by omega), (by omega), (by omega)⟩⟩)
        simp only [decide_eq_false_iff_not] at hq8
        (exfalso; omega)
    · have h2 : i.tmod 2 = 1 := ht2.trans hp
      by_cases hl : i = tl
      · subst hl
        refine AWP.seq ?_
        refine AWP.seq ?_
        refine AWP.regionT tcok hmix [(3, ⟨some (i64 i), none⟩)] [1, 2, 4, 5, 8, 9, 42] [2, 5, 8] (os := [i64 (IntKind.wrap IntKind.i64 i) = i64 i]) (s' := St.mk [(1, tp (u8 n)), (2, tp (V.ptr 2 0)), (4, tp (vb false)), (5, tp (V.ptr 5 0)), (8, tp (V.ptr 8 0)), (9, tp (i64 i)), (42, tp (vb (decide (i ≤ i))))] [(2, Blk.mk [u8 wt, u8 i] true 2 none), (5, Blk.mk [u8 3, u8 0, u8 0] true 3 none), (8, Blk.mk [u8 2, u8 0, u8 i] true 3 none)]) (by kernel_rfl) ⟨(wr_i64 (by omega) (by omega)), trivial⟩ ?_
        refine AWP.cond (b := decide (i ≤ i)) (by kernel_rfl) (fun hq10 => ?_) (fun hq10 => ?_)
        · simp only [decide_eq_true_eq] at hq10
          refine AWP.skip ?_
          refine AWP.seq ?_
          refine AWP.block ?_
          refine AWP.seq ?_
          refine AWP.seq ?_
          refine AWP.regionT tcok hmix [] [1, 2, 4, 5, 8, 9, 47] [2, 5, 8] (os := []) (s' := St.mk [(1, tp (u8 n)), (2, tp (V.ptr 2 0)), (4, tp (vb false)), (5, tp (V.ptr 5 0)), (8, tp (V.ptr 8 0)), (9, tp (i64 i)), (47, tp (vb false))] [(2, Blk.mk [u8 wt, u8 i] true 2 none), (5, Blk.mk [u8 3, u8 0, u8 0] true 3 none), (8, Blk.mk [u8 2, u8 0, u8 i] true 3 none)]) (by kernel_rfl) trivial ?_
          refine AWP.cond (b := false) (by kernel_rfl) (fun h => by cases h) (fun _ => ?_)
          refine AWP.skip ?_
          refine AWP.region tcok hmix [(2, ⟨some (i64 1), none⟩), (5, ⟨some (i64 1), none⟩), (8, ⟨none, some ⟨V.tup [V.agg true [u8 3, u8 0, u8 0], u8 2], [], []⟩⟩)] (os := [(2 : Int) ≠ (0 : Int), i64 (Int.tmod i 2) = i64 1, (2 : Int) ≠ (0 : Int), i64 (Int.tmod i 2) = i64 1, Con Tryd.prog 16 [] [V.agg true [u8 2, u8 0, u8 i], vb false, vb true, V.agg true [u8 wt, u8 i]] [] (V.tup [V.agg true [u8 3, u8 0, u8 0], u8 2])]) (sf := St.mk [(1, tp (u8 n)), (2, tp (V.ptr 2 0)), (4, tp (vb false)), (5, tp (V.ptr 5 0)), (8, tp (V.ptr 8 0)), (9, tp (i64 i)), (47, tp (vb false)), (48, tp (V.tup [V.agg true [u8 3, u8 0, u8 0], u8 2])), (49, tp (V.agg true [u8 2, u8 0, u8 i])), (50, tp (i64 i)), (51, tp (i64 1)), (52, tp (vb false)), (53, tp (i64 i)), (54, tp (i64 1)), (55, tp (vb true)), (56, tp (V.agg true [u8 wt, u8 i])), (57, tp (V.tup [V.agg true [u8 3, u8 0, u8 0], u8 2])), (58, tp (V.agg true [u8 3, u8 0, u8 0])), (59, tp (u8 2))] [(2, Blk.mk [u8 wt, u8 i] true 2 none), (5, Blk.mk [u8 3, u8 0, u8 0] true 3 none), (8, Blk.mk [u8 3, u8 0, u8 0] true 3 none)]) (by kernel_rfl) ⟨(by omega), (in_eq h2), (by omega), (in_eq h2), (con_st2_lost1 (0) (i) (wt) (i) (true) (by assumption) (by omega) (by assumption)), trivial⟩ ?_
          refine AWP.keep' [1, 2, 4, 5, 8, 9] [2, 5, 8] (sf := St.mk [(1, tp (u8 n)), (2, tp (V.ptr 2 0)), (4, tp (vb false)), (5, tp (V.ptr 5 0)), (8, tp (V.ptr 8 0)), (9, tp (i64 i))] [(2, Blk.mk [u8 wt, u8 i] true 2 none), (5, Blk.mk [u8 3, u8 0, u8 0] true 3 none), (8, Blk.mk [u8 3, u8 0, u8 0] true 3 none)]) (by kernel_rfl) ?_
          refine AWP.region tcok hmix [(1, ⟨some (i64 (i + 1)), none⟩)] (os := [i64 (IntKind.wrap IntKind.i64 (i + 1)) = i64 (i + 1)]) (sf := St.mk [(1, tp (u8 n)), (2, tp (V.ptr 2 0)), (4, tp (vb false)), (5, tp (V.ptr 5 0)), (8, tp (V.ptr 8 0)), (9, tp (i64 (i + 1))), (43, tp (i64 i)), (44, tp (i64 (i + 1)))] [(2, Blk.mk [u8 wt, u8 i] true 2 none), (5, Blk.mk [u8 3, u8 0, u8 0] true 3 none), (8, Blk.mk [u8 3, u8 0, u8 0] true 3 none)]) (by kernel_rfl) ⟨(wr_i64 (by omega) (by omega)), trivial⟩ ?_
          refine ⟨St.mk [(1, tp (u8 n)), (2, tp (V.ptr 2 0)), (4, tp (vb false)), (5, tp (V.ptr 5 0)), (8, tp (V.ptr 8 0)), (9, tp (i64 (i + 1)))] [(2, Blk.mk [u8 wt, u8 i] true 2 none), (5, Blk.mk [u8 3, u8 0, u8 0] true 3 none), (8, Blk.mk [u8 3, u8 0, u8 0] true 3 none)], by kernel_rfl, ?_⟩
          (exact ⟨0, (by omega), Or.inr ⟨rfl, rfl⟩⟩)
        simp only [decide_eq_false_iff_not] at hq10
        (exfalso; omega)
      · refine AWP.seq ?_
        refine AWP.seq ?_
        refine AWP.regionT tcok hmix [(3, ⟨some (i64 tl), none⟩)] [1, 2, 4, 5, 8, 9, 42] [2, 5, 8] (os := [i64 (IntKind.wrap IntKind.i64 tl) = i64 tl]) (s' := St.mk [(1, tp (u8 n)), (2, tp (V.ptr 2 0)), (4, tp (vb false)), (5, tp (V.ptr 5 0)), (8, tp (V.ptr 8 0)), (9, tp (i64 i)), (42, tp (vb (decide (i ≤ tl))))] [(2, Blk.mk [u8 wt, u8 tl] true 2 none), (5, Blk.mk [u8 3, u8 0, u8 0] true 3 none), (8, Blk.mk [u8 2, u8 0, u8 i] true 3 none)]) (by kernel_rfl) ⟨(wr_i64 (by omega) (by omega)), trivial⟩ ?_
        refine AWP.cond (b := decide (i ≤ tl)) (by kernel_rfl) (fun hq12 => ?_) (fun hq12 => ?_)
        · simp only [decide_eq_true_eq] at hq12
          refine AWP.skip ?_
          refine AWP.seq ?_
          refine AWP.block ?_
          refine AWP.seq ?_
          refine AWP.seq ?_
          refine AWP.regionT tcok hmix [] [1, 2, 4, 5, 8, 9, 47] [2, 5, 8] (os := []) (s' := St.mk [(1, tp (u8 n)), (2, tp (V.ptr 2 0)), (4, tp (vb false)), (5, tp (V.ptr 5 0)), (8, tp (V.ptr 8 0)), (9, tp (i64 i)), (47, tp (vb false))] [(2, Blk.mk [u8 wt, u8 tl] true 2 none), (5, Blk.mk [u8 3, u8 0, u8 0] true 3 none), (8, Blk.mk [u8 2, u8 0, u8 i] true 3 none)]) (by kernel_rfl) trivial ?_
          refine AWP.cond (b := false) (by kernel_rfl) (fun h => by cases h) (fun _ => ?_)
          refine AWP.skip ?_
          refine AWP.region tcok hmix [(2, ⟨some (i64 1), none⟩), (5, ⟨some (i64 1), none⟩), (8, ⟨none, some ⟨V.tup [V.agg true [u8 2, u8 0, u8 (i + 1)], u8 0], [], []⟩⟩)] (os := [(2 : Int) ≠ (0 : Int), i64 (Int.tmod i 2) = i64 1, (2 : Int) ≠ (0 : Int), i64 (Int.tmod i 2) = i64 1, Con Tryd.prog 16 [] [V.agg true [u8 2, u8 0, u8 i], vb false, vb true, V.agg true [u8 wt, u8 tl]] [] (V.tup [V.agg true [u8 2, u8 0, u8 (i + 1)], u8 0])]) (sf := St.mk [(1, tp (u8 n)), (2, tp (V.ptr 2 0)), (4, tp (vb false)), (5, tp (V.ptr 5 0)), (8, tp (V.ptr 8 0)), (9, tp (i64 i)), (47, tp (vb false)), (48, tp (V.tup [V.agg true [u8 2, u8 0, u8 (i + 1)], u8 0])), (49, tp (V.agg true [u8 2, u8 0, u8 i])), (50, tp (i64 i)), (51, tp (i64 1)), (52, tp (vb false)), (53, tp (i64 i)), (54, tp (i64 1)), (55, tp (vb true)), (56, tp (V.agg true [u8 wt, u8 tl])), (57, tp (V.tup [V.agg true [u8 2, u8 0, u8 (i + 1)], u8 0])), (58, tp (V.agg true [u8 2, u8 0, u8 (i + 1)])), (59, tp (u8 0))] [(2, Blk.mk [u8 wt, u8 tl] true 2 none), (5, Blk.mk [u8 3, u8 0, u8 0] true 3 none), (8, Blk.mk [u8 2, u8 0, u8 (i + 1)] true 3 none)]) (by kernel_rfl) ⟨(by omega), (in_eq h2), (by omega), (in_eq h2), (con_st2_bad1 (0) (i) (wt) (tl) (true) (by omega) (by omega) (by assumption)), trivial⟩ ?_
          refine AWP.keep' [1, 2, 4, 5, 8, 9] [2, 5, 8] (sf := St.mk [(1, tp (u8 n)), (2, tp (V.ptr 2 0)), (4, tp (vb false)), (5, tp (V.ptr 5 0)), (8, tp (V.ptr 8 0)), (9, tp (i64 i))] [(2, Blk.mk [u8 wt, u8 tl] true 2 none), (5, Blk.mk [u8 3, u8 0, u8 0] true 3 none), (8, Blk.mk [u8 2, u8 0, u8 (i + 1)] true 3 none)]) (by kernel_rfl) ?_
          refine AWP.region tcok hmix [(1, ⟨some (i64 (i + 1)), none⟩)] (os := [i64 (IntKind.wrap IntKind.i64 (i + 1)) = i64 (i + 1)]) (sf := St.mk [(1, tp (u8 n)), (2, tp (V.ptr 2 0)), (4, tp (vb false)), (5, tp (V.ptr 5 0)), (8, tp (V.ptr 8 0)), (9, tp (i64 (i + 1))), (43, tp (i64 i)), (44, tp (i64 (i + 1)))] [(2, Blk.mk [u8 wt, u8 tl] true 2 none), (5, Blk.mk [u8 3, u8 0, u8 0] true 3 none), (8, Blk.mk [u8 2, u8 0, u8 (i + 1)] true 3 none)]) (by kernel_rfl) ⟨(wr_i64 (by omega) (by omega)), trivial⟩ ?_
          refine ⟨St.mk [(1, tp (u8 n)), (2, tp (V.ptr 2 0)), (4, tp (vb false)), (5, tp (V.ptr 5 0)), (8, tp (V.ptr 8 0)), (9, tp (i64 (i + 1)))] [(2, Blk.mk [u8 wt, u8 tl] true 2 none), (5, Blk.mk [u8 3, u8 0, u8 0] true 3 none), (8, Blk.mk [u8 2, u8 0, u8 (i + 1)] true 3 none)], by kernel_rfl, ?_⟩
          (exact ⟨(tl - i).toNat, (by omega), Or.inl ⟨i + 1, rfl, (by omega), (by omega), (by omega)⟩⟩)
        simp only [decide_eq_false_iff_not] at hq12
        (exfalso; omega)
  refine AWP.seq ?_
  refine AWP.seq ?_
  refine AWP.regionT tcok hmix [(3, ⟨some (i64 tl), none⟩)] [1, 2, 4, 5, 8, 9, 42] [2, 5, 8] (os := [i64 (IntKind.wrap IntKind.i64 tl) = i64 tl]) (s' := St.mk [(1, tp (u8 n)), (2, tp (V.ptr 2 0)), (4, tp (vb false)), (5, tp (V.ptr 5 0)), (8, tp (V.ptr 8 0)), (9, tp (i64 (tl + 1))), (42, tp (vb (decide (tl + 1 ≤ tl))))] [(2, Blk.mk [u8 wt, u8 tl] true 2 none), (5, Blk.mk [u8 3, u8 0, u8 0] true 3 none), (8, Blk.mk [u8 3, u8 0, u8 0] true 3 none)]) (by kernel_rfl) ⟨(wr_i64 (by omega) (by omega)), trivial⟩ ?_
  refine AWP.cond (b := decide (tl + 1 ≤ tl)) (by kernel_rfl) (fun hq14 => ?_) (fun hq14 => ?_)
  · simp only [decide_eq_true_eq] at hq14
    (exfalso; omega)
  simp only [decide_eq_false_iff_not] at hq14
  refine AWP.exit ?_
  refine AWP.seq ?_
  refine AWP.regionT tcok hmix [] [1, 2, 4, 5, 8, 10] [2, 5, 8, 10] (os := []) (s' := St.mk [(1, tp (u8 n)), (2, tp (V.ptr 2 0)), (4, tp (vb false)), (5, tp (V.ptr 5 0)), (8, tp (V.ptr 8 0)), (10, tp (V.ptr 10 0))] [(2, Blk.mk [u8 wt, u8 tl] true 2 none), (5, Blk.mk [u8 3, u8 0, u8 0] true 3 none), (8, Blk.mk [u8 3, u8 0, u8 0] true 3 none), (10, Blk.mk [u8 0, u8 0, u8 0] true 3 none)]) (by kernel_rfl) trivial ?_
  refine AWP.seq ?_
  refine AWP.seq ?_
  refine AWP.regionT tcok hmix [(1, ⟨some (u8 (n % 20)), none⟩)] [1, 2, 4, 5, 8, 10, 62, 63] [2, 5, 8, 10] (os := [(20 : Int) ≠ (0 : Int), u8 (Int.tmod n 20) = u8 (n % 20)]) (s' := St.mk [(1, tp (u8 n)), (2, tp (V.ptr 2 0)), (4, tp (vb false)), (5, tp (V.ptr 5 0)), (8, tp (V.ptr 8 0)), (10, tp (V.ptr 10 0)), (62, tp (u8 (n % 20))), (63, tp (u8 0))] [(2, Blk.mk [u8 wt, u8 tl] true 2 none), (5, Blk.mk [u8 3, u8 0, u8 0] true 3 none), (8, Blk.mk [u8 3, u8 0, u8 0] true 3 none), (10, Blk.mk [u8 0, u8 0, u8 0] true 3 none)]) (by kernel_rfl) ⟨(by omega), (tm_ (by omega)), trivial⟩ ?_
  refine AWP.block ?_
  refine AWP.loopI [1, 2, 4, 5, 8, 10, 62, 63] [2, 5, 8, 10] (fun N s' => ∃ i : Int, s' = St.mk [(1, T.plain (u8 n)), (2, T.plain (V.ptr 2 0)), (4, T.plain (vb false)), (5, T.plain (V.ptr 5 0)), (8, T.plain (V.ptr 8 0)), (10, T.plain (V.ptr 10 0)), (62, T.plain (u8 (n % 20))), (63, T.plain (u8 i))] [(2, Blk.mk [u8 wt, u8 tl] true 2 none), (5, Blk.mk [u8 3, u8 0, u8 0] true 3 none), (8, Blk.mk [u8 3, u8 0, u8 0] true 3 none), (10, Blk.mk [u8 0, u8 0, u8 0] true 3 none)] ∧ 0 ≤ i ∧ i ≤ n % 20 ∧ (N : Int) = n % 20 - i) (n % 20).toNat (s0 := St.mk [(1, T.plain (u8 n)), (2, T.plain (V.ptr 2 0)), (4, T.plain (vb false)), (5, T.plain (V.ptr 5 0)), (8, T.plain (V.ptr 8 0)), (10, T.plain (V.ptr 10 0)), (62, T.plain (u8 (n % 20))), (63, T.plain (u8 0))] [(2, Blk.mk [u8 wt, u8 tl] true 2 none), (5, Blk.mk [u8 3, u8 0, u8 0] true 3 none), (8, Blk.mk [u8 3, u8 0, u8 0] true 3 none), (10, Blk.mk [u8 0, u8 0, u8 0] true 3 none)]) (by kernel_rfl) ?_ ?_
  · exact ⟨0, rfl, by omega, by omega, by omega⟩
  rintro N s' ⟨i, rfl, hi, hi2, hN⟩
  refine AWP.seq ?_
  refine AWP.regionT tcok hmix [] [1, 2, 4, 5, 8, 10, 62, 63, 64] [2, 5, 8, 10] (os := []) (s' := St.mk [(1, tp (u8 n)), (2, tp (V.ptr 2 0)), (4, tp (vb false)), (5, tp (V.ptr 5 0)), (8, tp (V.ptr 8 0)), (10, tp (V.ptr 10 0)), (62, tp (u8 (n % 20))), (63, tp (u8 i)), (64, tp (vb (decide (i < n % 20))))] [(2, Blk.mk [u8 wt, u8 tl] true 2 none), (5, Blk.mk [u8 3, u8 0, u8 0] true 3 none), (8, Blk.mk [u8 3, u8 0, u8 0] true 3 none), (10, Blk.mk [u8 0, u8 0, u8 0] true 3 none)]) (by kernel_rfl) trivial ?_
  refine AWP.seq ?_
  refine AWP.cond (b := decide (i < n % 20)) (by kernel_rfl) (fun hq15 => ?_) (fun hq15 => ?_)
  · simp only [decide_eq_true_eq] at hq15
    refine AWP.skip ?_
    refine AWP.seq ?_
    refine AWP.block ?_
    refine AWP.seq ?_
    refine AWP.regionT tcok hmix [(2, ⟨some (u8 (n % 2)), none⟩), (5, ⟨none, some ⟨V.tup [V.agg true [u8 0, u8 0, u8 0], u8 0], [], []⟩⟩)] [1, 2, 4, 5, 8, 10, 11, 12, 62, 63] [2, 5, 8, 10, 11] (os := [(2 : Int) ≠ (0 : Int), u8 (Int.tmod n 2) = u8 (n % 2), Con Tryd.prog 16 [] [V.agg true [u8 0, u8 0, u8 0], vb (n % 2 == 0), vb true, V.agg true [u8 wt, u8 tl]] [] (V.tup [V.agg true [u8 0, u8 0, u8 0], u8 0])]) (s' := St.mk [(1, tp (u8 n)), (2, tp (V.ptr 2 0)), (4, tp (vb false)), (5, tp (V.ptr 5 0)), (8, tp (V.ptr 8 0)), (10, tp (V.ptr 10 0)), (11, tp (V.ptr 11 0)), (12, tp (u8 0)), (62, tp (u8 (n % 20))), (63, tp (u8 i))] [(2, Blk.mk [u8 wt, u8 tl] true 2 none), (5, Blk.mk [u8 3, u8 0, u8 0] true 3 none), (8, Blk.mk [u8 3, u8 0, u8 0] true 3 none), (10, Blk.mk [u8 0, u8 0, u8 0] true 3 none), (11, Blk.mk [u8 0, u8 0, u8 0] true 3 none)]) (by kernel_rfl) ⟨(by omega), (tm_ (by omega)), (con_st0 (0) (0) (wt) (tl) (n % 2 == 0) (true) (by omega) (by assumption)), trivial⟩ ?_
    refine AWP.seq ?_
    refine AWP.regionT tcok hmix [] [1, 2, 4, 5, 8, 10, 62, 63, 80] [2, 5, 8, 10] (os := []) (s' := St.mk [(1, tp (u8 n)), (2, tp (V.ptr 2 0)), (4, tp (vb false)), (5, tp (V.ptr 5 0)), (8, tp (V.ptr 8 0)), (10, tp (V.ptr 10 0)), (62, tp (u8 (n % 20))), (63, tp (u8 i)), (80, tp (vb false))] [(2, Blk.mk [u8 wt, u8 tl] true 2 none), (5, Blk.mk [u8 3, u8 0, u8 0] true 3 none), (8, Blk.mk [u8 3, u8 0, u8 0] true 3 none), (10, Blk.mk [u8 0, u8 0, u8 0] true 3 none)]) (by kernel_rfl) trivial ?_
    refine AWP.cond (b := false) (by kernel_rfl) (fun h => by cases h) (fun _ => ?_)
    refine AWP.skip ?_
    refine AWP.region tcok hmix [(0, ⟨some (u8 (i + 1)), none⟩)] (os := [u8 (IntKind.wrap IntKind.u8 (i + 1)) = u8 (i + 1)]) (sf := St.mk [(1, tp (u8 n)), (2, tp (V.ptr 2 0)), (4, tp (vb false)), (5, tp (V.ptr 5 0)), (8, tp (V.ptr 8 0)), (10, tp (V.ptr 10 0)), (62, tp (u8 (n % 20))), (63, tp (u8 (i + 1))), (80, tp (vb false)), (81, tp (u8 (i + 1)))] [(2, Blk.mk [u8 wt, u8 tl] true 2 none), (5, Blk.mk [u8 3, u8 0, u8 0] true 3 none), (8, Blk.mk [u8 3, u8 0, u8 0] true 3 none), (10, Blk.mk [u8 0, u8 0, u8 0] true 3 none)]) (by kernel_rfl) ⟨(wr_u8 (by omega) (by omega)), trivial⟩ ?_
    refine ⟨St.mk [(1, tp (u8 n)), (2, tp (V.ptr 2 0)), (4, tp (vb false)), (5, tp (V.ptr 5 0)), (8, tp (V.ptr 8 0)), (10, tp (V.ptr 10 0)), (62, tp (u8 (n % 20))), (63, tp (u8 (i + 1)))] [(2, Blk.mk [u8 wt, u8 tl] true 2 none), (5, Blk.mk [u8 3, u8 0, u8 0] true 3 none), (8, Blk.mk [u8 3, u8 0, u8 0] true 3 none), (10, Blk.mk [u8 0, u8 0, u8 0] true 3 none)], by kernel_rfl, ?_⟩
    first | rfl | (exact ⟨(n % 20 - (i + 1)).toNat, (by omega), i + 1, rfl, (by omega), (by omega), (by omega)⟩) | (exfalso; omega)
  simp only [decide_eq_false_iff_not] at hq15
  refine AWP.exit ?_
  refine AWP.seq ?_
  refine AWP.regionT tcok hmix [] [4] [] (os := []) (s' := St.mk [(4, tp (vb true))] []) (by kernel_rfl) trivial ?_
  refine AWP.ret ?_
  refine ⟨Or.inr rfl, Eq.trans (b := some ([], vb true)) (by kernel_rfl) ?_⟩
  first | rfl | (exact ⟨(n % 20 - (i + 1)).toNat, (by omega), i + 1, rfl, (by omega), (by omega), (by omega)⟩) | (exfalso; omega)
theorem law_bounds (wt tl n : Int) (xs : List V) (k : Nat) (hw : 0 ≤ wt ∧ wt < 256) (ht : 0 ≤ tl ∧ tl < 256) (hn : 0 ≤ n ∧ n < 256) (kx : ∀ i : Nat, ∃ (x : Bool) (r : List V), i < k → xs.drop (i * 1) = vb x :: r) :
    Con Tryd.prog 4 [] [.agg true [u8 wt, u8 tl], .vs xs k, u8 n] [] (vb true) := by
  have hT1 : 0 ≤ Int.tmod n (wt + 1) := Int.tmod_nonneg _ hn.1
  have hT2 : Int.tmod n (wt + 1) < wt + 1 := Int.tmod_lt_of_pos _ (by omega)
  refine Con.of (C := ⟨Tryd.prog, tc, Tryd.f4.ntmps⟩) [] tcok Tryd.func4 rfl rfl (by kernel_rfl) (by kernel_rfl) ?_
  refine AWP.seq ?_
  refine AWP.regionT tcok hmix [] [1, 2, 3, 6] [3] (os := []) (s' := St.mk [(1, tp (V.vs xs k)), (2, tp (u8 n)), (3, tp (V.ptr 3 0)), (6, tp (vb false))] [(3, Blk.mk [u8 wt, u8 tl] true 2 none)]) (by kernel_rfl) trivial ?_
  refine AWP.seq ?_
  refine AWP.seq ?_
  refine AWP.regionT tcok hmix [(0, ⟨none, some ⟨vb true, [], []⟩⟩)] [1, 2, 3, 6, 14] [3] (os := [Con Tryd.prog 14 [] [] [] (vb true)]) (s' := St.mk [(1, tp (V.vs xs k)), (2, tp (u8 n)), (3, tp (V.ptr 3 0)), (6, tp (vb false)), (14, tp (vb false))] [(3, Blk.mk [u8 wt, u8 tl] true 2 none)]) (by kernel_rfl) ⟨(con_awake13 ), trivial⟩ ?_
  refine AWP.cond (b := false) (by kernel_rfl) (fun h => by cases h) (fun _ => ?_)
  refine AWP.skip ?_
  refine AWP.seq ?_
  refine AWP.regionT tcok hmix [(2, ⟨none, some ⟨V.tup [Un.v (uorder (Un.mk 3 0 0) true wt).fst, vb (uorder (Un.mk 3 0 0) true wt).snd], [], []⟩⟩)] [1, 2, 3, 6, 7] [3, 7] (os := [Con Tryd.prog 15 [] [V.agg true [u8 3, u8 0, u8 0], vb true, V.agg true [u8 wt, u8 tl]] [] (V.tup [V.agg true [u8 1, u8 wt, u8 0], vb true])]) (s' := St.mk [(1, tp (V.vs xs k)), (2, tp (u8 n)), (3, tp (V.ptr 3 0)), (6, tp (vb false)), (7, tp (V.ptr 7 0))] [(3, Blk.mk [u8 wt, u8 tl] true 2 none), (7, Blk.mk [u8 1, u8 wt, u8 0] true 3 none)]) (by kernel_rfl) ⟨(con_uorder (3) (0) (0) (wt) (tl) (true)), trivial⟩ ?_
  refine AWP.seq ?_
  refine AWP.regionT tcok hmix [] [1, 2, 3, 6, 7, 9] [3, 7] (os := []) (s' := St.mk [(1, tp (V.vs xs k)), (2, tp (u8 n)), (3, tp (V.ptr 3 0)), (6, tp (vb false)), (7, tp (V.ptr 7 0)), (9, tp (i64 0))] [(3, Blk.mk [u8 wt, u8 tl] true 2 none), (7, Blk.mk [u8 1, u8 wt, u8 0] true 3 none)]) (by kernel_rfl) trivial ?_
  refine AWP.seq ?_
  refine AWP.block ?_
  refine AWP.loopI [1, 2, 3, 6, 7, 9] [3, 7] (fun N s' => (∃ i : Int, s' = St.mk [(1, T.plain (V.vs xs k)), (2, T.plain (u8 n)), (3, T.plain (V.ptr 3 0)), (6, T.plain (vb false)), (7, T.plain (V.ptr 7 0)), (9, T.plain (i64 i))] [(3, Blk.mk [u8 wt, u8 tl] true 2 none), (7, Blk.mk [u8 1, u8 (wt - i), u8 0] true 3 none)] ∧ 0 ≤ i ∧ i ≤ wt ∧ (N : Int) = wt + 1 - i) ∨ (∃ i s : Int, s' = St.mk [(1, T.plain (V.vs xs k)), (2, T.plain (u8 n)), (3, T.plain (V.ptr 3 0)), (6, T.plain (vb false)), (7, T.plain (V.ptr 7 0)), (9, T.plain (i64 i))] [(3, Blk.mk [u8 wt, u8 tl] true 2 none), (7, Blk.mk [u8 s, u8 0, u8 0] true 3 none)] ∧ (s = 2 ∨ s = 3) ∧ N = 0)) (wt + 1).toNat (s0 := St.mk [(1, T.plain (V.vs xs k)), (2, T.plain (u8 n)), (3, T.plain (V.ptr 3 0)), (6, T.plain (vb false)), (7, T.plain (V.ptr 7 0)), (9, T.plain (i64 0))] [(3, Blk.mk [u8 wt, u8 tl] true 2 none), (7, Blk.mk [u8 1, u8 wt, u8 0] true 3 none)]) (by kernel_rfl) ?_ ?_
  · exact .inl ⟨0, (by rw [Int.sub_zero]), by omega, by omega, by omega⟩
  rintro N s' (⟨i, rfl, hi, hi2, hN⟩ | ⟨i, s, rfl, hs, hN⟩)
  · obtain ⟨x, r, kx1⟩ := kx i.toNat
    by_cases hik : i < k
    · cases x
      · by_cases hl : i = wt
        · subst hl
          rw [Int.sub_self]
          refine AWP.seq ?_
          refine AWP.seq ?_
          refine AWP.regionT tcok hmix [] [1, 2, 3, 6, 7, 9, 23] [3, 7] (os := []) (s' := St.mk [(1, tp (V.vs xs k)), (2, tp (u8 n)), (3, tp (V.ptr 3 0)), (6, tp (vb false)), (7, tp (V.ptr 7 0)), (9, tp (i64 i)), (23, tp (vb true))] [(3, Blk.mk [u8 i, u8 tl] true 2 none), (7, Blk.mk [u8 1, u8 0, u8 0] true 3 none)]) (by kernel_rfl) trivial ?_
          refine AWP.cond (b := true) (by kernel_rfl) (fun _ => ?_) (fun h => by cases h)
          refine AWP.skip ?_
          refine AWP.block ?_
          refine AWP.seq ?_
          refine AWP.seq ?_
          refine AWP.regionT tcok hmix [(3, ⟨some (i64 i), none⟩)] [1, 2, 3, 6, 7, 9, 28] [3, 7] (os := [i64 (IntKind.wrap IntKind.i64 i) = i64 i]) (s' := St.mk [(1, tp (V.vs xs k)), (2, tp (u8 n)), (3, tp (V.ptr 3 0)), (6, tp (vb false)), (7, tp (V.ptr 7 0)), (9, tp (i64 i)), (28, tp (vb (decide (i > i))))] [(3, Blk.mk [u8 i, u8 tl] true 2 none), (7, Blk.mk [u8 1, u8 0, u8 0] true 3 none)]) (by kernel_rfl) ⟨(wr_i64 (by omega) (by omega)), trivial⟩ ?_
          refine AWP.cond (b := decide (i > i)) (by kernel_rfl) (fun hq19 => ?_) (fun hq19 => ?_)
          · simp only [decide_eq_true_eq] at hq19
            (exfalso; omega)
          simp only [decide_eq_false_iff_not] at hq19
          refine AWP.skip ?_
          refine AWP.seq ?_
          refine AWP.regionT tcok hmix [(8, ⟨some (V.vp (vb false :: r)), none⟩), (12, ⟨none, some ⟨V.tup [V.agg true [u8 3, u8 0, u8 0], u8 2], [], []⟩⟩)] [1, 2, 3, 6, 7, 9] [3, 7] (os := [decide (i < (↑k : Int)) = true → ((0 : Int) ≤ i ∧ i < (↑k : Int)) ∧ V.vp (List.drop (Int.toNat i * (1 : Nat)) xs) = V.vp (vb false :: r) ∧ True, Con Tryd.prog 16 [] [V.agg true [u8 1, u8 0, u8 0], vb (decide (i < (↑k : Int)) && false), vb true, V.agg true [u8 i, u8 tl]] [] (V.tup [V.agg true [u8 3, u8 0, u8 0], u8 2])]) (s' := St.mk [(1, tp (V.vs xs k)), (2, tp (u8 n)), (3, tp (V.ptr 3 0)), (6, tp (vb false)), (7, tp (V.ptr 7 0)), (9, tp (i64 i))] [(3, Blk.mk [u8 i, u8 tl] true 2 none), (7, Blk.mk [u8 3, u8 0, u8 0] true 3 none)]) (by kernel_rfl) ⟨(by intro hc0; first | (cases hc0; done) | (try simp only [Bool.or_false, Bool.false_or, Bool.true_and, Bool.and_true, decide_eq_true_eq, decide_eq_false_iff_not, Bool.and_eq_true, Bool.or_eq_true, Bool.or_eq_false_iff, Bool.not_eq_true', Bool.and_eq_false_iff, beq_iff_eq, bne_iff_ne, bne_eq_false_iff_eq, beq_eq_false_iff_ne, Bool.not_eq_false'] at hc0; exact ⟨(by omega), (congrArg V.vp (kx1 (by omega))), trivial⟩)), (con_p1_last (decide (i < (↑k : Int)) && false) (0) (i) (tl) (true) (by (simp [len_u8s]; done)) (by omega) (by assumption)), trivial⟩ ?_
          refine AWP.region tcok hmix [(1, ⟨some (i64 (i + 1)), none⟩)] (os := [i64 (IntKind.wrap IntKind.i64 (i + 1)) = i64 (i + 1)]) (sf := St.mk [(1, tp (V.vs xs k)), (2, tp (u8 n)), (3, tp (V.ptr 3 0)), (6, tp (vb false)), (7, tp (V.ptr 7 0)), (9, tp (i64 (i + 1))), (45, tp (i64 i)), (46, tp (i64 (i + 1)))] [(3, Blk.mk [u8 i, u8 tl] true 2 none), (7, Blk.mk [u8 3, u8 0, u8 0] true 3 none)]) (by kernel_rfl) ⟨(wr_i64 (by omega) (by omega)), trivial⟩ ?_
          refine ⟨St.mk [(1, tp (V.vs xs k)), (2, tp (u8 n)), (3, tp (V.ptr 3 0)), (6, tp (vb false)), (7, tp (V.ptr 7 0)), (9, tp (i64 (i + 1)))] [(3, Blk.mk [u8 i, u8 tl] true 2 none), (7, Blk.mk [u8 3, u8 0, u8 0] true 3 none)], by kernel_rfl, ?_⟩
          (exact ⟨0, (by omega), Or.inr ⟨_, _, rfl, (by omega), rfl⟩⟩)
        · refine AWP.seq ?_
          refine AWP.seq ?_
          refine AWP.regionT tcok hmix [] [1, 2, 3, 6, 7, 9, 23] [3, 7] (os := []) (s' := St.mk [(1, tp (V.vs xs k)), (2, tp (u8 n)), (3, tp (V.ptr 3 0)), (6, tp (vb false)), (7, tp (V.ptr 7 0)), (9, tp (i64 i)), (23, tp (vb true))] [(3, Blk.mk [u8 wt, u8 tl] true 2 none), (7, Blk.mk [u8 1, u8 (wt - i), u8 0] true 3 none)]) (by kernel_rfl) trivial ?_
          refine AWP.cond (b := true) (by kernel_rfl) (fun _ => ?_) (fun h => by cases h)
          refine AWP.skip ?_
          refine AWP.block ?_
          refine AWP.seq ?_
          refine AWP.seq ?_
          refine AWP.regionT tcok hmix [(3, ⟨some (i64 wt), none⟩)] [1, 2, 3, 6, 7, 9, 28] [3, 7] (os := [i64 (IntKind.wrap IntKind.i64 wt) = i64 wt]) (s' := St.mk [(1, tp (V.vs xs k)), (2, tp (u8 n)), (3, tp (V.ptr 3 0)), (6, tp (vb false)), (7, tp (V.ptr 7 0)), (9, tp (i64 i)), (28, tp (vb (decide (i > wt))))] [(3, Blk.mk [u8 wt, u8 tl] true 2 none), (7, Blk.mk [u8 1, u8 (wt - i), u8 0] true 3 none)]) (by kernel_rfl) ⟨(wr_i64 (by omega) (by omega)), trivial⟩ ?_
          refine AWP.cond (b := decide (i > wt)) (by kernel_rfl) (fun hq21 => ?_) (fun hq21 => ?_)
          · simp only [decide_eq_true_eq] at hq21
            (exfalso; omega)
          simp only [decide_eq_false_iff_not] at hq21
          refine AWP.skip ?_
          refine AWP.seq ?_
          refine AWP.regionT tcok hmix [(8, ⟨some (V.vp (vb false :: r)), none⟩), (12, ⟨none, some ⟨V.tup [V.agg true [u8 1, u8 (wt - i - 1), u8 0], u8 0], [], []⟩⟩)] [1, 2, 3, 6, 7, 9] [3, 7] (os := [decide (i < (↑k : Int)) = true → ((0 : Int) ≤ i ∧ i < (↑k : Int)) ∧ V.vp (List.drop (Int.toNat i * (1 : Nat)) xs) = V.vp (vb false :: r) ∧ True, Con Tryd.prog 16 [] [V.agg true [u8 1, u8 (wt - i), u8 0], vb (decide (i < (↑k : Int)) && false), vb true, V.agg true [u8 wt, u8 tl]] [] (V.tup [V.agg true [u8 1, u8 (wt - i - 1), u8 0], u8 0])]) (s' := St.mk [(1, tp (V.vs xs k)), (2, tp (u8 n)), (3, tp (V.ptr 3 0)), (6, tp (vb false)), (7, tp (V.ptr 7 0)), (9, tp (i64 i))] [(3, Blk.mk [u8 wt, u8 tl] true 2 none), (7, Blk.mk [u8 1, u8 (wt - i - 1), u8 0] true 3 none)]) (by kernel_rfl) ⟨(by intro hc0; first | (cases hc0; done) | (try simp only [Bool.or_false, Bool.false_or, Bool.true_and, Bool.and_true, decide_eq_true_eq, decide_eq_false_iff_not, Bool.and_eq_true, Bool.or_eq_true, Bool.or_eq_false_iff, Bool.not_eq_true', Bool.and_eq_false_iff, beq_iff_eq, bne_iff_ne, bne_eq_false_iff_eq, beq_eq_false_iff_ne, Bool.not_eq_false'] at hc0; exact ⟨(by omega), (congrArg V.vp (kx1 (by omega))), trivial⟩)), (con_p1_more (decide (i < (↑k : Int)) && false) (wt - i) (0) (wt) (tl) (true) (by (simp [len_u8s]; done)) (by omega) (by omega) (by assumption)), trivial⟩ ?_
          refine AWP.region tcok hmix [(1, ⟨some (i64 (i + 1)), none⟩)] (os := [i64 (IntKind.wrap IntKind.i64 (i + 1)) = i64 (i + 1)]) (sf := St.mk [(1, tp (V.vs xs k)), (2, tp (u8 n)), (3, tp (V.ptr 3 0)), (6, tp (vb false)), (7, tp (V.ptr 7 0)), (9, tp (i64 (i + 1))), (45, tp (i64 i)), (46, tp (i64 (i + 1)))] [(3, Blk.mk [u8 wt, u8 tl] true 2 none), (7, Blk.mk [u8 1, u8 (wt - i - 1), u8 0] true 3 none)]) (by kernel_rfl) ⟨(wr_i64 (by omega) (by omega)), trivial⟩ ?_
          refine ⟨St.mk [(1, tp (V.vs xs k)), (2, tp (u8 n)), (3, tp (V.ptr 3 0)), (6, tp (vb false)), (7, tp (V.ptr 7 0)), (9, tp (i64 (i + 1)))] [(3, Blk.mk [u8 wt, u8 tl] true 2 none), (7, Blk.mk [u8 1, u8 (wt - i - 1), u8 0] true 3 none)], by kernel_rfl, ?_⟩
          (exact ⟨(wt - i).toNat, (by omega), Or.inl ⟨i + 1, (by rw [show wt - (i + 1) = wt - i - 1 by omega]), (by omega), (by omega), (by omega)⟩⟩)
      · refine AWP.seq ?_
        refine AWP.seq ?_
        refine AWP.regionT tcok hmix [] [1, 2, 3, 6, 7, 9, 23] [3, 7] (os := []) (s' := St.mk [(1, tp (V.vs xs k)), (2, tp (u8 n)), (3, tp (V.ptr 3 0)), (6, tp (vb false)), (7, tp (V.ptr 7 0)), (9, tp (i64 i)), (23, tp (vb true))] [(3, Blk.mk [u8 wt, u8 tl] true 2 none), (7, Blk.mk [u8 1, u8 (wt - i), u8 0] true 3 none)]) (by kernel_rfl) trivial ?_
        refine AWP.cond (b := true) (by kernel_rfl) (fun _ => ?_) (fun h => by cases h)
        refine AWP.skip ?_
        refine AWP.block ?_
        refine AWP.seq ?_
        refine AWP.seq ?_
        refine AWP.regionT tcok hmix [(3, ⟨some (i64 wt), none⟩)] [1, 2, 3, 6, 7, 9, 28] [3, 7] (os := [i64 (IntKind.wrap IntKind.i64 wt) = i64 wt]) (s' := St.mk [(1, tp (V.vs xs k)), (2, tp (u8 n)), (3, tp (V.ptr 3 0)), (6, tp (vb false)), (7, tp (V.ptr 7 0)), (9, tp (i64 i)), (28, tp (vb (decide (i > wt))))] [(3, Blk.mk [u8 wt, u8 tl] true 2 none), (7, Blk.mk [u8 1, u8 (wt - i), u8 0] true 3 none)]) (by kernel_rfl) ⟨(wr_i64 (by omega) (by omega)), trivial⟩ ?_
        refine AWP.cond (b := decide (i > wt)) (by kernel_rfl) (fun hq23 => ?_) (fun hq23 => ?_)
        · simp only [decide_eq_true_eq] at hq23
          (exfalso; omega)
        simp only [decide_eq_false_iff_not] at hq23
        refine AWP.skip ?_
        refine AWP.seq ?_
        refine AWP.regionT tcok hmix [(8, ⟨some (V.vp (vb true :: r)), none⟩), (12, ⟨none, some ⟨V.tup [V.agg true [u8 2, u8 0, u8 0], u8 1], [], []⟩⟩)] [1, 2, 3, 6, 7, 9] [3, 7] (os := [decide (i < (↑k : Int)) = true → ((0 : Int) ≤ i ∧ i < (↑k : Int)) ∧ V.vp (List.drop (Int.toNat i * (1 : Nat)) xs) = V.vp (vb true :: r) ∧ True, Con Tryd.prog 16 [] [V.agg true [u8 1, u8 (wt - i), u8 0], vb (decide (i < (↑k : Int)) && true), vb true, V.agg true [u8 wt, u8 tl]] [] (V.tup [V.agg true [u8 2, u8 0, u8 0], u8 1])]) (s' := St.mk [(1, tp (V.vs xs k)), (2, tp (u8 n)), (3, tp (V.ptr 3 0)), (6, tp (vb false)), (7, tp (V.ptr 7 0)), (9, tp (i64 i))] [(3, Blk.mk [u8 wt, u8 tl] true 2 none), (7, Blk.mk [u8 2, u8 0, u8 0] true 3 none)]) (by kernel_rfl) ⟨(by intro hc0; first | (cases hc0; done) | (try simp only [Bool.or_false, Bool.false_or, Bool.true_and, Bool.and_true, decide_eq_true_eq, decide_eq_false_iff_not, Bool.and_eq_true, Bool.or_eq_true, Bool.or_eq_false_iff, Bool.not_eq_true', Bool.and_eq_false_iff, beq_iff_eq, bne_iff_ne, bne_eq_false_iff_eq, beq_eq_false_iff_ne, Bool.not_eq_false'] at hc0; exact ⟨(by omega), (congrArg V.vp (kx1 (by omega))), trivial⟩)), (con_p1_ack (decide (i < (↑k : Int)) && true) (wt - i) (0) (wt) (tl) (true) (by (simp [len_u8s]; omega)) (by omega) (by assumption)), trivial⟩ ?_
        refine AWP.region tcok hmix [(1, ⟨some (i64 (i + 1)), none⟩)] (os := [i64 (IntKind.wrap IntKind.i64 (i + 1)) = i64 (i + 1)]) (sf := St.mk [(1, tp (V.vs xs k)), (2, tp (u8 n)), (3, tp (V.ptr 3 0)), (6, tp (vb false)), (7, tp (V.ptr 7 0)), (9, tp (i64 (i + 1))), (45, tp (i64 i)), (46, tp (i64 (i + 1)))] [(3, Blk.mk [u8 wt, u8 tl] true 2 none), (7, Blk.mk [u8 2, u8 0, u8 0] true 3 none)]) (by kernel_rfl) ⟨(wr_i64 (by omega) (by omega)), trivial⟩ ?_
        refine ⟨St.mk [(1, tp (V.vs xs k)), (2, tp (u8 n)), (3, tp (V.ptr 3 0)), (6, tp (vb false)), (7, tp (V.ptr 7 0)), (9, tp (i64 (i + 1)))] [(3, Blk.mk [u8 wt, u8 tl] true 2 none), (7, Blk.mk [u8 2, u8 0, u8 0] true 3 none)], by kernel_rfl, ?_⟩
        (exact ⟨0, (by omega), Or.inr ⟨_, _, rfl, (by omega), rfl⟩⟩)
    · by_cases hl : i = wt
      · subst hl
        rw [Int.sub_self]
        refine AWP.seq ?_
        refine AWP.seq ?_
        refine AWP.regionT tcok hmix [] [1, 2, 3, 6, 7, 9, 23] [3, 7] (os := []) (s' := St.mk [(1, tp (V.vs xs k)), (2, tp (u8 n)), (3, tp (V.ptr 3 0)), (6, tp (vb false)), (7, tp (V.ptr 7 0)), (9, tp (i64 i)), (23, tp (vb true))] [(3, Blk.mk [u8 i, u8 tl] true 2 none), (7, Blk.mk [u8 1, u8 0, u8 0] true 3 none)]) (by kernel_rfl) trivial ?_
        refine AWP.cond (b := true) (by kernel_rfl) (fun _ => ?_) (fun h => by cases h)
        refine AWP.skip ?_
        refine AWP.block ?_
        refine AWP.seq ?_
        refine AWP.seq ?_
        refine AWP.regionT tcok hmix [(3, ⟨some (i64 i), none⟩)] [1, 2, 3, 6, 7, 9, 28] [3, 7] (os := [i64 (IntKind.wrap IntKind.i64 i) = i64 i]) (s' := St.mk [(1, tp (V.vs xs k)), (2, tp (u8 n)), (3, tp (V.ptr 3 0)), (6, tp (vb false)), (7, tp (V.ptr 7 0)), (9, tp (i64 i)), (28, tp (vb (decide (i > i))))] [(3, Blk.mk [u8 i, u8 tl] true 2 none), (7, Blk.mk [u8 1, u8 0, u8 0] true 3 none)]) (by kernel_rfl) ⟨(wr_i64 (by omega) (by omega)), trivial⟩ ?_
        refine AWP.cond (b := decide (i > i)) (by kernel_rfl) (fun hq25 => ?_) (fun hq25 => ?_)
        · simp only [decide_eq_true_eq] at hq25
          (exfalso; omega)
        simp only [decide_eq_false_iff_not] at hq25
        refine AWP.skip ?_
        refine AWP.seq ?_
        refine AWP.regionT tcok hmix [(8, ⟨some (V.vp (vb x :: r)), none⟩), (12, ⟨none, some ⟨V.tup [V.agg true [u8 3, u8 0, u8 0], u8 2], [], []⟩⟩)] [1, 2, 3, 6, 7, 9] [3, 7] (os := [decide (i < (↑k : Int)) = true → ((0 : Int) ≤ i ∧ i < (↑k : Int)) ∧ V.vp (List.drop (Int.toNat i * (1 : Nat)) xs) = V.vp (vb x :: r) ∧ True, Con Tryd.prog 16 [] [V.agg true [u8 1, u8 0, u8 0], vb (decide (i < (↑k : Int)) && x), vb true, V.agg true [u8 i, u8 tl]] [] (V.tup [V.agg true [u8 3, u8 0, u8 0], u8 2])]) (s' := St.mk [(1, tp (V.vs xs k)), (2, tp (u8 n)), (3, tp (V.ptr 3 0)), (6, tp (vb false)), (7, tp (V.ptr 7 0)), (9, tp (i64 i))] [(3, Blk.mk [u8 i, u8 tl] true 2 none), (7, Blk.mk [u8 3, u8 0, u8 0] true 3 none)]) (by kernel_rfl) ⟨(by intro hc0; first | (cases hc0; done) | (try simp only [Bool.or_false, Bool.false_or, Bool.true_and, Bool.and_true, decide_eq_true_eq, decide_eq_false_iff_not, Bool.and_eq_true, Bool.or_eq_true, Bool.or_eq_false_iff, Bool.not_eq_true', Bool.and_eq_false_iff, beq_iff_eq, bne_iff_ne, bne_eq_false_iff_eq, beq_eq_false_iff_ne, Bool.not_eq_false'] at hc0; exact ⟨(by first | omega | (simp [len_u8s]; omega) | (simp [len_u8s]; done)), (congrArg V.vp (kx1 (by omega))), trivial⟩)), (con_p1_last (decide (i < (↑k : Int)) && x) (0) (i) (tl) (true) (by (simp [len_u8s]; omega)) (by omega) (by assumption)), trivial⟩ ?_
        refine AWP.region tcok hmix [(1, ⟨some (i64 (i + 1)), none⟩)] (os := [i64 (IntKind.wrap IntKind.i64 (i + 1)) = i64 (i + 1)]) (sf := St.mk [(1, tp (V.vs xs k)), (2, tp (u8 n)), (3, tp (V.ptr 3 0)), (6, tp (vb false)), (7, tp (V.ptr 7 0)), (9, tp (i64 (i + 1))), (45, tp (i64 i)), (46, tp (i64 (i + 1)))] [(3, Blk.mk [u8 i, u8 tl] true 2 none), (7, Blk.mk [u8 3, u8 0, u8 0] true 3 none)]) (by kernel_rfl) ⟨(wr_i64 (by omega) (by omega)), trivial⟩ ?_
        refine ⟨St.mk [(1, tp (V.vs xs k)), (2, tp (u8 n)), (3, tp (V.ptr 3 0)), (6, tp (vb false)), (7, tp (V.ptr 7 0)), (9, tp (i64 (i + 1)))] [(3, Blk.mk [u8 i, u8 tl] true 2 none), (7, Blk.mk [u8 3, u8 0, u8 0] true 3 none)], by kernel_rfl, ?_⟩
        (exact ⟨0, (by omega), Or.inr ⟨_, _, rfl, (by omega), rfl⟩⟩)
      · refine AWP.seq ?_
        refine AWP.seq ?_
        refine AWP.regionT tcok hmix [] [1, 2, 3, 6, 7, 9, 23] [3, 7] (os := []) (s' := St.mk [(1, tp (V.vs xs k)), (2, tp (u8 n)), (3, tp (V.ptr 3 0)), (6, tp (vb false)), (7, tp (V.ptr 7 0)), (9, tp (i64 i)), (23, tp (vb true))] [(3, Blk.mk [u8 wt, u8 tl] true 2 none), (7, Blk.mk [u8 1, u8 (wt - i), u8 0] true 3 none)]) (by kernel_rfl) trivial ?_
        refine AWP.cond (b := true) (by kernel_rfl) (fun _ => ?_) (fun h => by cases h)
        refine AWP.skip ?_
        refine AWP.block ?_
        refine AWP.seq ?_
        refine AWP.seq ?_
        refine AWP.regionT tcok hmix [(3, ⟨some (i64 wt), none⟩)] [1, 2, 3, 6, 7, 9, 28] [3, 7] (os := [i64 (IntKind.wrap IntKind.i64 wt) = i64 wt]) (s' := St.mk [(1, tp (V.vs xs k)), (2, tp (u8 n)), (3, tp (V.ptr 3 0)), (6, tp (vb false)), (7, tp (V.ptr 7 0)), (9, tp (i64 i)), (28, tp (vb (decide (i > wt))))] [(3, Blk.mk [u8 wt, u8 tl] true 2 none), (7, Blk.mk [u8 1, u8 (wt - i), u8 0] true 3 none)]) (by kernel_rfl) ⟨(wr_i64 (by omega) (by omega)), trivial⟩ ?_
        refine AWP.cond (b := decide (i > wt)) (by kernel_rfl) (fun hq27 => ?_) (fun hq27 => ?_)
        · simp only [decide_eq_true_eq] at hq27
          (exfalso; omega)
        simp only [decide_eq_false_iff_not] at hq27
        refine AWP.skip ?_
        refine AWP.seq ?_
        refine AWP.regionT tcok hmix [(8, ⟨some (V.vp (vb x :: r)), none⟩), (12, ⟨none, some ⟨V.tup [V.agg true [u8 1, u8 (wt - i - 1), u8 0], u8 0], [], []⟩⟩)] [1, 2, 3, 6, 7, 9] [3, 7] (os := [decide (i < (↑k : Int)) = true → ((0 : Int) ≤ i ∧ i < (↑k : Int)) ∧ V.vp (List.drop (Int.toNat i * (1 : Nat)) xs) = V.vp (vb x :: r) ∧ True, Con Tryd.prog 16 [] [V.agg true [u8 1, u8 (wt - i), u8 0], vb (decide (i < (↑k : Int)) && x), vb true, V.agg true [u8 wt, u8 tl]] [] (V.tup [V.agg true [u8 1, u8 (wt - i - 1), u8 0], u8 0])]) (s' := St.mk [(1, tp (V.vs xs k)), (2, tp (u8 n)), (3, tp (V.ptr 3 0)), (6, tp (vb false)), (7, tp (V.ptr 7 0)), (9, tp (i64 i))] [(3, Blk.mk [u8 wt, u8 tl] true 2 none), (7, Blk.mk [u8 1, u8 (wt - i - 1), u8 0] true 3 none)]) (by kernel_rfl) ⟨(by intro hc0; first | (cases hc0; done) | (try simp only [Bool.or_false, Bool.false_or, Bool.true_and, Bool.and_true, decide_eq_true_eq, decide_eq_false_iff_not, Bool.and_eq_true, Bool.or_eq_true, Bool.or_eq_false_iff, Bool.not_eq_true', Bool.and_eq_false_iff, beq_iff_eq, bne_iff_ne, bne_eq_false_iff_eq, beq_eq_false_iff_ne, Bool.not_eq_false'] at hc0; exact ⟨(by first | omega | (simp [len_u8s]; omega) | (simp [len_u8s]; done)), (congrArg V.vp (kx1 (by omega))), trivial⟩)), (con_p1_more (decide (i < (↑k : Int)) && x) (wt - i) (0) (wt) (tl) (true) (by (simp [len_u8s]; omega)) (by omega) (by omega) (by assumption)), trivial⟩ ?_
        refine AWP.region tcok hmix [(1, ⟨some (i64 (i + 1)), none⟩)] (os := [i64 (IntKind.wrap IntKind.i64 (i + 1)) = i64 (i + 1)]) (sf := St.mk [(1, tp (V.vs xs k)), (2, tp (u8 n)), (3, tp (V.ptr 3 0)), (6, tp (vb false)), (7, tp (V.ptr 7 0)), (9, tp (i64 (i + 1))), (45, tp (i64 i)), (46, tp (i64 (i + 1)))] [(3, Blk.mk [u8 wt, u8 tl] true 2 none), (7, Blk.mk [u8 1, u8 (wt - i - 1), u8 0] true 3 none)]) (by kernel_rfl) ⟨(wr_i64 (by omega) (by omega)), trivial⟩ ?_
        refine ⟨St.mk [(1, tp (V.vs xs k)), (2, tp (u8 n)), (3, tp (V.ptr 3 0)), (6, tp (vb false)), (7, tp (V.ptr 7 0)), (9, tp (i64 (i + 1)))] [(3, Blk.mk [u8 wt, u8 tl] true 2 none), (7, Blk.mk [u8 1, u8 (wt - i - 1), u8 0] true 3 none)], by kernel_rfl, ?_⟩
        (exact ⟨(wt - i).toNat, (by omega), Or.inl ⟨i + 1, (by rw [show wt - (i + 1) = wt - i - 1 by omega]), (by omega), (by omega), (by omega)⟩⟩)
  rcases hs with rfl | rfl
  · refine AWP.seq ?_
    refine AWP.seq ?_
    refine AWP.regionT tcok hmix [] [1, 2, 3, 6, 7, 9, 23] [3, 7] (os := []) (s' := St.mk [(1, tp (V.vs xs k)), (2, tp (u8 n)), (3, tp (V.ptr 3 0)), (6, tp (vb false)), (7, tp (V.ptr 7 0)), (9, tp (i64 i)), (23, tp (vb false))] [(3, Blk.mk [u8 wt, u8 tl] true 2 none), (7, Blk.mk [u8 2, u8 0, u8 0] true 3 none)]) (by kernel_rfl) trivial ?_
    refine AWP.cond (b := false) (by kernel_rfl) (fun h => by cases h) (fun _ => ?_)
    refine AWP.exit ?_
    refine AWP.seq ?_
    refine AWP.regionT tcok hmix [(2, ⟨none, some ⟨V.tup [Un.v (uorder (Un.mk 0 0 0) true wt).fst, vb (uorder (Un.mk 0 0 0) true wt).snd], [], []⟩⟩)] [2, 3, 6, 7, 10] [3, 7, 10] (os := [Con Tryd.prog 15 [] [V.agg true [u8 0, u8 0, u8 0], vb true, V.agg true [u8 wt, u8 tl]] [] (V.tup [V.agg true [u8 1, u8 wt, u8 0], vb true])]) (s' := St.mk [(2, tp (u8 n)), (3, tp (V.ptr 3 0)), (6, tp (vb false)), (7, tp (V.ptr 7 0)), (10, tp (V.ptr 10 0))] [(3, Blk.mk [u8 wt, u8 tl] true 2 none), (7, Blk.mk [u8 2, u8 0, u8 0] true 3 none), (10, Blk.mk [u8 1, u8 wt, u8 0] true 3 none)]) (by kernel_rfl) ⟨(con_uorder (0) (0) (0) (wt) (tl) (true)), trivial⟩ ?_
    refine AWP.seq ?_
    refine AWP.regionT tcok hmix [(1, ⟨some (i64 n), none⟩), (4, ⟨some (i64 wt), none⟩), (5, ⟨some (i64 (wt + 1)), none⟩), (6, ⟨some (i64 (Int.tmod n (wt + 1))), none⟩)] [3, 6, 7, 10, 12] [3, 7, 10] (os := [i64 (IntKind.wrap IntKind.i64 n) = i64 n, i64 (IntKind.wrap IntKind.i64 wt) = i64 wt, i64 (IntKind.wrap IntKind.i64 (wt + 1)) = i64 (wt + 1), wt + (1 : Int) ≠ (0 : Int), i64 (Int.tmod n (wt + 1)) = i64 (Int.tmod n (wt + 1))]) (s' := St.mk [(3, tp (V.ptr 3 0)), (6, tp (vb false)), (7, tp (V.ptr 7 0)), (10, tp (V.ptr 10 0)), (12, tp (i64 (Int.tmod n (wt + 1))))] [(3, Blk.mk [u8 wt, u8 tl] true 2 none), (7, Blk.mk [u8 2, u8 0, u8 0] true 3 none), (10, Blk.mk [u8 1, u8 wt, u8 0] true 3 none)]) (by kernel_rfl) ⟨(wr_i64 (by omega) (by omega)), (wr_i64 (by omega) (by omega)), (wr_i64 (by omega) (by omega)), (by omega), rfl, trivial⟩ ?_
    refine AWP.seq ?_
    refine AWP.seq ?_
    refine AWP.regionT tcok hmix [] [3, 6, 7, 10, 60, 61] [3, 7, 10] (os := []) (s' := St.mk [(3, tp (V.ptr 3 0)), (6, tp (vb false)), (7, tp (V.ptr 7 0)), (10, tp (V.ptr 10 0)), (60, tp (i64 (Int.tmod n (wt + 1)))), (61, tp (i64 0))] [(3, Blk.mk [u8 wt, u8 tl] true 2 none), (7, Blk.mk [u8 2, u8 0, u8 0] true 3 none), (10, Blk.mk [u8 1, u8 wt, u8 0] true 3 none)]) (by kernel_rfl) trivial ?_
    refine AWP.block ?_
    generalize Int.tmod n (wt + 1) = q at *
    refine AWP.loopI [3, 6, 7, 10, 60, 61] [3, 7, 10] (fun N s' => ∃ j : Int, s' = St.mk [(3, T.plain (V.ptr 3 0)), (6, T.plain (vb false)), (7, T.plain (V.ptr 7 0)), (10, T.plain (V.ptr 10 0)), (60, T.plain (i64 q)), (61, T.plain (i64 j))] [(3, Blk.mk [u8 wt, u8 tl] true 2 none), (7, Blk.mk [u8 2, u8 0, u8 0] true 3 none), (10, Blk.mk [u8 1, u8 (wt - j), u8 0] true 3 none)] ∧ 0 ≤ j ∧ j ≤ q ∧ (N : Int) = q - j) q.toNat (s0 := St.mk [(3, T.plain (V.ptr 3 0)), (6, T.plain (vb false)), (7, T.plain (V.ptr 7 0)), (10, T.plain (V.ptr 10 0)), (60, T.plain (i64 q)), (61, T.plain (i64 0))] [(3, Blk.mk [u8 wt, u8 tl] true 2 none), (7, Blk.mk [u8 2, u8 0, u8 0] true 3 none), (10, Blk.mk [u8 1, u8 wt, u8 0] true 3 none)]) (by kernel_rfl) ?_ ?_
    · exact ⟨0, (by rw [Int.sub_zero]), by omega, by omega, by omega⟩
    rintro N s' ⟨j, rfl, hj, hj2, hN⟩
    by_cases hjq : j < q
    · refine AWP.seq ?_
      refine AWP.regionT tcok hmix [] [3, 6, 7, 10, 60, 61, 62] [3, 7, 10] (os := []) (s' := St.mk [(3, tp (V.ptr 3 0)), (6, tp (vb false)), (7, tp (V.ptr 7 0)), (10, tp (V.ptr 10 0)), (60, tp (i64 q)), (61, tp (i64 j)), (62, tp (vb (decide (j < q))))] [(3, Blk.mk [u8 wt, u8 tl] true 2 none), (7, Blk.mk [u8 2, u8 0, u8 0] true 3 none), (10, Blk.mk [u8 1, u8 (wt - j), u8 0] true 3 none)]) (by kernel_rfl) trivial ?_
      refine AWP.seq ?_
      refine AWP.cond (b := decide (j < q)) (by kernel_rfl) (fun hq29 => ?_) (fun hq29 => ?_)
      · simp only [decide_eq_true_eq] at hq29
        refine AWP.skip ?_
        refine AWP.seq ?_
        refine AWP.block ?_
        refine AWP.region tcok hmix [(2, ⟨none, some ⟨V.tup [V.agg true [u8 1, u8 (wt - j - 1), u8 0], u8 0], [], []⟩⟩)] (os := [Con Tryd.prog 16 [] [V.agg true [u8 1, u8 (wt - j), u8 0], vb false, vb false, V.agg true [u8 wt, u8 tl]] [] (V.tup [V.agg true [u8 1, u8 (wt - j - 1), u8 0], u8 0])]) (sf := St.mk [(3, tp (V.ptr 3 0)), (6, tp (vb false)), (7, tp (V.ptr 7 0)), (10, tp (V.ptr 10 0)), (60, tp (i64 q)), (61, tp (i64 j)), (62, tp (vb (decide (j < q)))), (63, tp (V.tup [V.agg true [u8 1, u8 (wt - j - 1), u8 0], u8 0])), (64, tp (V.agg true [u8 1, u8 (wt - j), u8 0])), (65, tp (V.agg true [u8 wt, u8 tl])), (66, tp (V.tup [V.agg true [u8 1, u8 (wt - j - 1), u8 0], u8 0])), (67, tp (V.agg true [u8 1, u8 (wt - j - 1), u8 0])), (68, tp (u8 0))] [(3, Blk.mk [u8 wt, u8 tl] true 2 none), (7, Blk.mk [u8 2, u8 0, u8 0] true 3 none), (10, Blk.mk [u8 1, u8 (wt - j - 1), u8 0] true 3 none)]) (by kernel_rfl) ⟨(con_p1_more (false) (wt - j) (0) (wt) (tl) (false) (by assumption) (by omega) (by omega) (by assumption)), trivial⟩ ?_
        refine AWP.keep' [3, 6, 7, 10, 60, 61] [3, 7, 10] (sf := St.mk [(3, tp (V.ptr 3 0)), (6, tp (vb false)), (7, tp (V.ptr 7 0)), (10, tp (V.ptr 10 0)), (60, tp (i64 q)), (61, tp (i64 j))] [(3, Blk.mk [u8 wt, u8 tl] true 2 none), (7, Blk.mk [u8 2, u8 0, u8 0] true 3 none), (10, Blk.mk [u8 1, u8 (wt - j - 1), u8 0] true 3 none)]) (by kernel_rfl) ?_
        refine AWP.region tcok hmix [(0, ⟨some (i64 (j + 1)), none⟩)] (os := [i64 (IntKind.wrap IntKind.i64 (j + 1)) = i64 (j + 1)]) (sf := St.mk [(3, tp (V.ptr 3 0)), (6, tp (vb false)), (7, tp (V.ptr 7 0)), (10, tp (V.ptr 10 0)), (60, tp (i64 q)), (61, tp (i64 (j + 1))), (69, tp (i64 (j + 1)))] [(3, Blk.mk [u8 wt, u8 tl] true 2 none), (7, Blk.mk [u8 2, u8 0, u8 0] true 3 none), (10, Blk.mk [u8 1, u8 (wt - j - 1), u8 0] true 3 none)]) (by kernel_rfl) ⟨(wr_i64 (by omega) (by omega)), trivial⟩ ?_
        refine ⟨St.mk [(3, tp (V.ptr 3 0)), (6, tp (vb false)), (7, tp (V.ptr 7 0)), (10, tp (V.ptr 10 0)), (60, tp (i64 q)), (61, tp (i64 (j + 1)))] [(3, Blk.mk [u8 wt, u8 tl] true 2 none), (7, Blk.mk [u8 2, u8 0, u8 0] true 3 none), (10, Blk.mk [u8 1, u8 (wt - j - 1), u8 0] true 3 none)], by kernel_rfl, ?_⟩
        (exact ⟨(q - (j + 1)).toNat, (by omega), j + 1, (by rw [show wt - (j + 1) = wt - j - 1 by omega]), (by omega), (by omega), (by omega)⟩)
      simp only [decide_eq_false_iff_not] at hq29
      (exfalso; omega)
    · refine AWP.seq ?_
      refine AWP.regionT tcok hmix [] [3, 6, 7, 10, 60, 61, 62] [3, 7, 10] (os := []) (s' := St.mk [(3, tp (V.ptr 3 0)), (6, tp (vb false)), (7, tp (V.ptr 7 0)), (10, tp (V.ptr 10 0)), (60, tp (i64 q)), (61, tp (i64 j)), (62, tp (vb (decide (j < q))))] [(3, Blk.mk [u8 wt, u8 tl] true 2 none), (7, Blk.mk [u8 2, u8 0, u8 0] true 3 none), (10, Blk.mk [u8 1, u8 (wt - j), u8 0] true 3 none)]) (by kernel_rfl) trivial ?_
      refine AWP.seq ?_
      refine AWP.cond (b := decide (j < q)) (by kernel_rfl) (fun hq30 => ?_) (fun hq30 => ?_)
      · simp only [decide_eq_true_eq] at hq30
        (exfalso; omega)
      simp only [decide_eq_false_iff_not] at hq30
      refine AWP.exit ?_
      refine AWP.seq ?_
      refine AWP.regionT tcok hmix [(2, ⟨none, some ⟨V.tup [V.agg true [u8 2, u8 0, u8 0], u8 1], [], []⟩⟩)] [3, 6, 7, 10] [3, 7, 10] (os := [Con Tryd.prog 16 [] [V.agg true [u8 1, u8 (wt - j), u8 0], vb true, vb false, V.agg true [u8 wt, u8 tl]] [] (V.tup [V.agg true [u8 2, u8 0, u8 0], u8 1])]) (s' := St.mk [(3, tp (V.ptr 3 0)), (6, tp (vb false)), (7, tp (V.ptr 7 0)), (10, tp (V.ptr 10 0))] [(3, Blk.mk [u8 wt, u8 tl] true 2 none), (7, Blk.mk [u8 2, u8 0, u8 0] true 3 none), (10, Blk.mk [u8 2, u8 0, u8 0] true 3 none)]) (by kernel_rfl) ⟨(con_p1_ack (true) (wt - j) (0) (wt) (tl) (false) (by (simp [len_u8s]; done)) (by omega) (by assumption)), trivial⟩ ?_
      refine AWP.seq ?_
      refine AWP.seq ?_
      refine AWP.regionT tcok hmix [] [3, 6, 7, 10, 76] [3, 7, 10] (os := []) (s' := St.mk [(3, tp (V.ptr 3 0)), (6, tp (vb false)), (7, tp (V.ptr 7 0)), (10, tp (V.ptr 10 0)), (76, tp (i64 0))] [(3, Blk.mk [u8 wt, u8 tl] true 2 none), (7, Blk.mk [u8 2, u8 0, u8 0] true 3 none), (10, Blk.mk [u8 2, u8 0, u8 0] true 3 none)]) (by kernel_rfl) trivial ?_
      refine AWP.block ?_
      refine AWP.loopI [3, 6, 7, 10, 76] [3, 7, 10] (fun N s' => ∃ j : Int, s' = St.mk [(3, T.plain (V.ptr 3 0)), (6, T.plain (vb false)), (7, T.plain (V.ptr 7 0)), (10, T.plain (V.ptr 10 0)), (76, T.plain (i64 j))] [(3, Blk.mk [u8 wt, u8 tl] true 2 none), (7, Blk.mk [u8 2, u8 0, u8 0] true 3 none), (10, Blk.mk [u8 2, u8 0, u8 0] true 3 none)] ∧ 0 ≤ j ∧ j ≤ 20 ∧ (N : Int) = 20 - j) 20 (s0 := St.mk [(3, T.plain (V.ptr 3 0)), (6, T.plain (vb false)), (7, T.plain (V.ptr 7 0)), (10, T.plain (V.ptr 10 0)), (76, T.plain (i64 0))] [(3, Blk.mk [u8 wt, u8 tl] true 2 none), (7, Blk.mk [u8 2, u8 0, u8 0] true 3 none), (10, Blk.mk [u8 2, u8 0, u8 0] true 3 none)]) (by kernel_rfl) ?_ ?_
      · exact ⟨0, rfl, by omega, by omega, by omega⟩
      rintro N s' ⟨j, rfl, hj, hj2, hN⟩
      refine AWP.seq ?_
      refine AWP.regionT tcok hmix [] [3, 6, 7, 10, 76, 77] [3, 7, 10] (os := []) (s' := St.mk [(3, tp (V.ptr 3 0)), (6, tp (vb false)), (7, tp (V.ptr 7 0)), (10, tp (V.ptr 10 0)), (76, tp (i64 j)), (77, tp (vb (decide (j < 20))))] [(3, Blk.mk [u8 wt, u8 tl] true 2 none), (7, Blk.mk [u8 2, u8 0, u8 0] true 3 none), (10, Blk.mk [u8 2, u8 0, u8 0] true 3 none)]) (by kernel_rfl) trivial ?_
      refine AWP.seq ?_
      refine AWP.cond (b := decide (j < 20)) (by kernel_rfl) (fun hq31 => ?_) (fun hq31 => ?_)
      · simp only [decide_eq_true_eq] at hq31
        refine AWP.skip ?_
        refine AWP.seq ?_
        refine AWP.block ?_
        refine AWP.seq ?_
        refine AWP.seq ?_
        refine AWP.regionT tcok hmix [(1, ⟨none, some ⟨vb (decide (2 = 2)), [], []⟩⟩)] [3, 6, 7, 10, 76, 85] [3, 7, 10] (os := [Con Tryd.prog 17 [] [V.agg true [u8 2, u8 0, u8 0]] [] (vb true)]) (s' := St.mk [(3, tp (V.ptr 3 0)), (6, tp (vb false)), (7, tp (V.ptr 7 0)), (10, tp (V.ptr 10 0)), (76, tp (i64 j)), (85, tp (vb false))] [(3, Blk.mk [u8 wt, u8 tl] true 2 none), (7, Blk.mk [u8 2, u8 0, u8 0] true 3 none), (10, Blk.mk [u8 2, u8 0, u8 0] true 3 none)]) (by kernel_rfl) ⟨(con_works (2) (0) (0)), trivial⟩ ?_
        refine AWP.cond (b := false) (by kernel_rfl) (fun h => by cases h) (fun _ => ?_)
        refine AWP.skip ?_
        refine AWP.region tcok hmix [(2, ⟨none, some ⟨V.tup [V.agg true [u8 2, u8 0, u8 0], u8 0], [], []⟩⟩)] (os := [Con Tryd.prog 16 [] [V.agg true [u8 2, u8 0, u8 0], vb true, vb true, V.agg true [u8 wt, u8 tl]] [] (V.tup [V.agg true [u8 2, u8 0, u8 0], u8 0])]) (sf := St.mk [(3, tp (V.ptr 3 0)), (6, tp (vb false)), (7, tp (V.ptr 7 0)), (10, tp (V.ptr 10 0)), (76, tp (i64 j)), (85, tp (vb false)), (86, tp (V.tup [V.agg true [u8 2, u8 0, u8 0], u8 0])), (87, tp (V.agg true [u8 2, u8 0, u8 0])), (88, tp (V.agg true [u8 wt, u8 tl])), (89, tp (V.tup [V.agg true [u8 2, u8 0, u8 0], u8 0])), (90, tp (V.agg true [u8 2, u8 0, u8 0])), (91, tp (u8 0))] [(3, Blk.mk [u8 wt, u8 tl] true 2 none), (7, Blk.mk [u8 2, u8 0, u8 0] true 3 none), (10, Blk.mk [u8 2, u8 0, u8 0] true 3 none)]) (by kernel_rfl) ⟨(con_st2_well (0) (0) (wt) (tl) (by omega) (by assumption)), trivial⟩ ?_
        refine AWP.keep' [3, 6, 7, 10, 76] [3, 7, 10] (sf := St.mk [(3, tp (V.ptr 3 0)), (6, tp (vb false)), (7, tp (V.ptr 7 0)), (10, tp (V.ptr 10 0)), (76, tp (i64 j))] [(3, Blk.mk [u8 wt, u8 tl] true 2 none), (7, Blk.mk [u8 2, u8 0, u8 0] true 3 none), (10, Blk.mk [u8 2, u8 0, u8 0] true 3 none)]) (by kernel_rfl) ?_
        refine AWP.region tcok hmix [(0, ⟨some (i64 (j + 1)), none⟩)] (os := [i64 (IntKind.wrap IntKind.i64 (j + 1)) = i64 (j + 1)]) (sf := St.mk [(3, tp (V.ptr 3 0)), (6, tp (vb false)), (7, tp (V.ptr 7 0)), (10, tp (V.ptr 10 0)), (76, tp (i64 (j + 1))), (92, tp (i64 (j + 1)))] [(3, Blk.mk [u8 wt, u8 tl] true 2 none), (7, Blk.mk [u8 2, u8 0, u8 0] true 3 none), (10, Blk.mk [u8 2, u8 0, u8 0] true 3 none)]) (by kernel_rfl) ⟨(wr_i64 (by omega) (by omega)), trivial⟩ ?_
        refine ⟨St.mk [(3, tp (V.ptr 3 0)), (6, tp (vb false)), (7, tp (V.ptr 7 0)), (10, tp (V.ptr 10 0)), (76, tp (i64 (j + 1)))] [(3, Blk.mk [u8 wt, u8 tl] true 2 none), (7, Blk.mk [u8 2, u8 0, u8 0] true 3 none), (10, Blk.mk [u8 2, u8 0, u8 0] true 3 none)], by kernel_rfl, ?_⟩
        first | rfl | (exact ⟨(20 - (j + 1)).toNat, (by omega), j + 1, rfl, (by omega), (by omega), (by omega)⟩) | (exfalso; omega)
      simp only [decide_eq_false_iff_not] at hq31
      refine AWP.exit ?_
      refine AWP.seq ?_
      refine AWP.regionT tcok hmix [] [6] [] (os := []) (s' := St.mk [(6, tp (vb true))] []) (by kernel_rfl) trivial ?_
      refine AWP.ret ?_
      refine ⟨Or.inr rfl, Eq.trans (b := some ([], vb true)) (by kernel_rfl) ?_⟩
      first | rfl | (exact ⟨(20 - (j + 1)).toNat, (by omega), j + 1, rfl, (by omega), (by omega), (by omega)⟩) | (exfalso; omega)
  · refine AWP.seq ?_
    refine AWP.seq ?_
    refine AWP.regionT tcok hmix [] [1, 2, 3, 6, 7, 9, 23] [3, 7] (os := []) (s' := St.mk [(1, tp (V.vs xs k)), (2, tp (u8 n)), (3, tp (V.ptr 3 0)), (6, tp (vb false)), (7, tp (V.ptr 7 0)), (9, tp (i64 i)), (23, tp (vb false))] [(3, Blk.mk [u8 wt, u8 tl] true 2 none), (7, Blk.mk [u8 3, u8 0, u8 0] true 3 none)]) (by kernel_rfl) trivial ?_
    refine AWP.cond (b := false) (by kernel_rfl) (fun h => by cases h) (fun _ => ?_)
    refine AWP.exit ?_
    refine AWP.seq ?_
    refine AWP.regionT tcok hmix [(2, ⟨none, some ⟨V.tup [Un.v (uorder (Un.mk 0 0 0) true wt).fst, vb (uorder (Un.mk 0 0 0) true wt).snd], [], []⟩⟩)] [2, 3, 6, 7, 10] [3, 7, 10] (os := [Con Tryd.prog 15 [] [V.agg true [u8 0, u8 0, u8 0], vb true, V.agg true [u8 wt, u8 tl]] [] (V.tup [V.agg true [u8 1, u8 wt, u8 0], vb true])]) (s' := St.mk [(2, tp (u8 n)), (3, tp (V.ptr 3 0)), (6, tp (vb false)), (7, tp (V.ptr 7 0)), (10, tp (V.ptr 10 0))] [(3, Blk.mk [u8 wt, u8 tl] true 2 none), (7, Blk.mk [u8 3, u8 0, u8 0] true 3 none), (10, Blk.mk [u8 1, u8 wt, u8 0] true 3 none)]) (by kernel_rfl) ⟨(con_uorder (0) (0) (0) (wt) (tl) (true)), trivial⟩ ?_
    refine AWP.seq ?_
    refine AWP.regionT tcok hmix [(1, ⟨some (i64 n), none⟩), (4, ⟨some (i64 wt), none⟩), (5, ⟨some (i64 (wt + 1)), none⟩), (6, ⟨some (i64 (Int.tmod n (wt + 1))), none⟩)] [3, 6, 7, 10, 12] [3, 7, 10] (os := [i64 (IntKind.wrap IntKind.i64 n) = i64 n, i64 (IntKind.wrap IntKind.i64 wt) = i64 wt, i64 (IntKind.wrap IntKind.i64 (wt + 1)) = i64 (wt + 1), wt + (1 : Int) ≠ (0 : Int), i64 (Int.tmod n (wt + 1)) = i64 (Int.tmod n (wt + 1))]) (s' := St.mk [(3, tp (V.ptr 3 0)), (6, tp (vb false)), (7, tp (V.ptr 7 0)), (10, tp (V.ptr 10 0)), (12, tp (i64 (Int.tmod n (wt + 1))))] [(3, Blk.mk [u8 wt, u8 tl] true 2 none), (7, Blk.mk [u8 3, u8 0, u8 0] true 3 none), (10, Blk.mk [u8 1, u8 wt, u8 0] true 3 none)]) (by kernel_rfl) ⟨(wr_i64 (by omega) (by omega)), (wr_i64 (by omega) (by omega)), (wr_i64 (by omega) (by omega)), (by omega), rfl, trivial⟩ ?_
    refine AWP.seq ?_
    refine AWP.seq ?_
    refine AWP.regionT tcok hmix [] [3, 6, 7, 10, 60, 61] [3, 7, 10] (os := []) (s' := St.mk [(3, tp (V.ptr 3 0)), (6, tp (vb false)), (7, tp (V.ptr 7 0)), (10, tp (V.ptr 10 0)), (60, tp (i64 (Int.tmod n (wt + 1)))), (61, tp (i64 0))] [(3, Blk.mk [u8 wt, u8 tl] true 2 none), (7, Blk.mk [u8 3, u8 0, u8 0] true 3 none), (10, Blk.mk [u8 1, u8 wt, u8 0] true 3 none)]) (by kernel_rfl) trivial ?_
    refine AWP.block ?_
    generalize Int.tmod n (wt + 1) = q at *
    refine AWP.loopI [3, 6, 7, 10, 60, 61] [3, 7, 10] (fun N s' => ∃ j : Int, s' = St.mk [(3, T.plain (V.ptr 3 0)), (6, T.plain (vb false)), (7, T.plain (V.ptr 7 0)), (10, T.plain (V.ptr 10 0)), (60, T.plain (i64 q)), (61, T.plain (i64 j))] [(3, Blk.mk [u8 wt, u8 tl] true 2 none), (7, Blk.mk [u8 3, u8 0, u8 0] true 3 none), (10, Blk.mk [u8 1, u8 (wt - j), u8 0] true 3 none)] ∧ 0 ≤ j ∧ j ≤ q ∧ (N : Int) = q - j) q.toNat (s0 := St.mk [(3, T.plain (V.ptr 3 0)), (6, T.plain (vb false)), (7, T.plain (V.ptr 7 0)), (10, T.plain (V.ptr 10 0)), (60, T.plain (i64 q)), (61, T.plain (i64 0))] [(3, Blk.mk [u8 wt, u8 tl] true 2 none), (7, Blk.mk [u8 3, u8 0, u8 0] true 3 none), (10, Blk.mk [u8 1, u8 wt, u8 0] true 3 none)]) (by kernel_rfl) ?_ ?_
    · exact ⟨0, (by rw [Int.sub_zero]), by omega, by omega, by omega⟩
    rintro N s' ⟨j, rfl, hj, hj2, hN⟩
    by_cases hjq : j < q
    · refine AWP.seq ?_
      refine AWP.regionT tcok hmix [] [3, 6, 7, 10, 60, 61, 62] [3, 7, 10] (os := []) (s' := St.mk [(3, tp (V.ptr 3 0)), (6, tp (vb false)), (7, tp (V.ptr 7 0)), (10, tp (V.ptr 10 0)), (60, tp (i64 q)), (61, tp (i64 j)), (62, tp (vb (decide (j < q))))] [(3, Blk.mk [u8 wt, u8 tl] true 2 none), (7, Blk.mk [u8 3, u8 0, u8 0] true 3 none), (10, Blk.mk [u8 1, u8 (wt - j), u8 0] true 3 none)]) (by kernel_rfl) trivial ?_
      refine AWP.seq ?_
      refine AWP.cond (b := decide (j < q)) (by kernel_rfl) (fun hq34 => ?_) (fun hq34 => ?_)
      · simp only [decide_eq_true_eq] at hq34
        refine AWP.skip ?_
        refine AWP.seq ?_
        refine AWP.block ?_
        refine AWP.region tcok hmix [(2, ⟨none, some ⟨V.tup [V.agg true [u8 1, u8 (wt - j - 1), u8 0], u8 0], [], []⟩⟩)] (os := [Con Tryd.prog 16 [] [V.agg true [u8 1, u8 (wt - j), u8 0], vb false, vb false, V.agg true [u8 wt, u8 tl]] [] (V.tup [V.agg true [u8 1, u8 (wt - j - 1), u8 0], u8 0])]) (sf := St.mk [(3, tp (V.ptr 3 0)), (6, tp (vb false)), (7, tp (V.ptr 7 0)), (10, tp (V.ptr 10 0)), (60, tp (i64 q)), (61, tp (i64 j)), (62, tp (vb (decide (j < q)))), (63, tp (V.tup [V.agg true [u8 1, u8 (wt - j - 1), u8 0], u8 0])), (64, tp (V.agg true [u8 1, u8 (wt - j), u8 0])), (65, tp (V.agg true [u8 wt, u8 tl])), (66, tp (V.tup [V.agg true [u8 1, u8 (wt - j - 1), u8 0], u8 0])), (67, tp (V.agg true [u8 1, u8 (wt - j - 1), u8 0])), (68, tp (u8 0))] [(3, Blk.mk [u8 wt, u8 tl] true 2 none), (7, Blk.mk [u8 3, u8 0, u8 0] true 3 none), (10, Blk.mk [u8 1, u8 (wt - j - 1), u8 0] true 3 none)]) (by kernel_rfl) ⟨(con_p1_more (false) (wt - j) (0) (wt) (tl) (false) (by assumption) (by omega) (by omega) (by assumption)), trivial⟩ ?_
        refine AWP.keep' [3, 6, 7, 10, 60, 61] [3, 7, 10] (sf := St.mk [(3, tp (V.ptr 3 0)), (6, tp (vb false)), (7, tp (V.ptr 7 0)), (10, tp (V.ptr 10 0)), (60, tp (i64 q)), (61, tp (i64 j))] [(3, Blk.mk [u8 wt, u8 tl] true 2 none), (7, Blk.mk [u8 3, u8 0, u8 0] true 3 none), (10, Blk.mk [u8 1, u8 (wt - j - 1), u8 0] true 3 none)]) (by kernel_rfl) ?_
        refine AWP.region tcok hmix [(0, ⟨some (i64 (j + 1)), none⟩)] (os := [i64 (IntKind.wrap IntKind.i64 (j + 1)) = i64 (j + 1)]) (sf := St.mk [(3, tp (V.ptr 3 0)), (6, tp (vb false)), (7, tp (V.ptr 7 0)), (10, tp (V.ptr 10 0)), (60, tp (i64 q)), (61, tp (i64 (j + 1))), (69, tp (i64 (j + 1)))] [(3, Blk.mk [u8 wt, u8 tl] true 2 none), (7, Blk.mk [u8 3, u8 0, u8 0] true 3 none), (10, Blk.mk [u8 1, u8 (wt - j - 1), u8 0] true 3 none)]) (by kernel_rfl) ⟨(wr_i64 (by omega) (by omega)), trivial⟩ ?_
        refine ⟨St.mk [(3, tp (V.ptr 3 0)), (6, tp (vb false)), (7, tp (V.ptr 7 0)), (10, tp (V.ptr 10 0)), (60, tp (i64 q)), (61, tp (i64 (j + 1)))] [(3, Blk.mk [u8 wt, u8 tl] true 2 none), (7, Blk.mk [u8 3, u8 0, u8 0] true 3 none), (10, Blk.mk [u8 1, u8 (wt - j - 1), u8 0] true 3 none)], by kernel_rfl, ?_⟩
        (exact ⟨(q - (j + 1)).toNat, (by omega), j + 1, (by rw [show wt - (j + 1) = wt - j - 1 by omega]), (by omega), (by omega), (by omega)⟩)
      simp only [decide_eq_false_iff_not] at hq34
      (exfalso; omega)
    · refine AWP.seq ?_
      refine AWP.regionT tcok hmix [] [3, 6, 7, 10, 60, 61, 62] [3, 7, 10] (os := []) (s' := St.mk [(3, tp (V.ptr 3 0)), (6, tp (vb false)), (7, tp (V.ptr 7 0)), (10, tp (V.ptr 10 0)), (60, tp (i64 q)), (61, tp (i64 j)), (62, tp (vb (decide (j < q))))] [(3, Blk.mk [u8 wt, u8 tl] true 2 none), (7, Blk.mk [u8 3, u8 0, u8 0] true 3 none), (10, Blk.mk [u8 1, u8 (wt - j), u8 0] true 3 none)]) (by kernel_rfl) trivial ?_
      refine AWP.seq ?_
      refine AWP.cond (b := decide (j < q)) (by kernel_rfl) (fun hq35 => ?_) (fun hq35 => ?_)
      · simp only [decide_eq_true_eq] at hq35
        (exfalso; omega)
      simp only [decide_eq_false_iff_not] at hq35
      refine AWP.exit ?_
      refine AWP.seq ?_
      refine AWP.regionT tcok hmix [(2, ⟨none, some ⟨V.tup [V.agg true [u8 2, u8 0, u8 0], u8 1], [], []⟩⟩)] [3, 6, 7, 10] [3, 7, 10] (os := [Con Tryd.prog 16 [] [V.agg true [u8 1, u8 (wt - j), u8 0], vb true, vb false, V.agg true [u8 wt, u8 tl]] [] (V.tup [V.agg true [u8 2, u8 0, u8 0], u8 1])]) (s' := St.mk [(3, tp (V.ptr 3 0)), (6, tp (vb false)), (7, tp (V.ptr 7 0)), (10, tp (V.ptr 10 0))] [(3, Blk.mk [u8 wt, u8 tl] true 2 none), (7, Blk.mk [u8 3, u8 0, u8 0] true 3 none), (10, Blk.mk [u8 2, u8 0, u8 0] true 3 none)]) (by kernel_rfl) ⟨(con_p1_ack (true) (wt - j) (0) (wt) (tl) (false) (by (simp [len_u8s]; done)) (by omega) (by assumption)), trivial⟩ ?_
      refine AWP.seq ?_
      refine AWP.seq ?_
      refine AWP.regionT tcok hmix [] [3, 6, 7, 10, 76] [3, 7, 10] (os := []) (s' := St.mk [(3, tp (V.ptr 3 0)), (6, tp (vb false)), (7, tp (V.ptr 7 0)), (10, tp (V.ptr 10 0)), (76, tp (i64 0))] [(3, Blk.mk [u8 wt, u8 tl] true 2 none), (7, Blk.mk [u8 3, u8 0, u8 0] true 3 none), (10, Blk.mk [u8 2, u8 0, u8 0] true 3 none)]) (by kernel_rfl) trivial ?_
      refine AWP.block ?_
      refine AWP.loopI [3, 6, 7, 10, 76] [3, 7, 10] (fun N s' => ∃ j : Int, s' = St.mk [(3, T.plain (V.ptr 3 0)), (6, T.plain (vb false)), (7, T.plain (V.ptr 7 0)), (10, T.plain (V.ptr 10 0)), (76, T.plain (i64 j))] [(3, Blk.mk [u8 wt, u8 tl] true 2 none), (7, Blk.mk [u8 3, u8 0, u8 0] true 3 none), (10, Blk.mk [u8 2, u8 0, u8 0] true 3 none)] ∧ 0 ≤ j ∧ j ≤ 20 ∧ (N : Int) = 20 - j) 20 (s0 := St.mk [(3, T.plain (V.ptr 3 0)), (6, T.plain (vb false)), (7, T.plain (V.ptr 7 0)), (10, T.plain (V.ptr 10 0)), (76, T.plain (i64 0))] [(3, Blk.mk [u8 wt, u8 tl] true 2 none), (7, Blk.mk [u8 3, u8 0, u8 0] true 3 none), (10, Blk.mk [u8 2, u8 0, u8 0] true 3 none)]) (by kernel_rfl) ?_ ?_
      · exact ⟨0, rfl, by omega, by omega, by omega⟩
      rintro N s' ⟨j, rfl, hj, hj2, hN⟩
      refine AWP.seq ?_
      refine AWP.regionT tcok hmix [] [3, 6, 7, 10, 76, 77] [3, 7, 10] (os := []) (s' := St.mk [(3, tp (V.ptr 3 0)), (6, tp (vb false)), (7, tp (V.ptr 7 0)), (10, tp (V.ptr 10 0)), (76, tp (i64 j)), (77, tp (vb (decide (j < 20))))] [(3, Blk.mk [u8 wt, u8 tl] true 2 none), (7, Blk.mk [u8 3, u8 0, u8 0] true 3 none), (10, Blk.mk [u8 2, u8 0, u8 0] true 3 none)]) (by kernel_rfl) trivial ?_
      refine AWP.seq ?_
      refine AWP.cond (b := decide (j < 20)) (by kernel_rfl) (fun hq36 => ?_) (fun hq36 => ?_)
      · simp only [decide_eq_true_eq] at hq36
        refine AWP.skip ?_
        refine AWP.seq ?_
        refine AWP.block ?_
        refine AWP.seq ?_
        refine AWP.seq ?_
        refine AWP.regionT tcok hmix [(1, ⟨none, some ⟨vb (decide (2 = 2)), [], []⟩⟩)] [3, 6, 7, 10, 76, 85] [3, 7, 10] (os := [Con Tryd.prog 17 [] [V.agg true [u8 2, u8 0, u8 0]] [] (vb true)]) (s' := St.mk [(3, tp (V.ptr 3 0)), (6, tp (vb false)), (7, tp (V.ptr 7 0)), (10, tp (V.ptr 10 0)), (76, tp (i64 j)), (85, tp (vb false))] [(3, Blk.mk [u8 wt, u8 tl] true 2 none), (7, Blk.mk [u8 3, u8 0, u8 0] true 3 none), (10, Blk.mk [u8 2, u8 0, u8 0] true 3 none)]) (by kernel_rfl) ⟨(con_works (2) (0) (0)), trivial⟩ ?_
        refine AWP.cond (b := false) (by kernel_rfl) (fun h => by cases h) (fun _ => ?_)
        refine AWP.skip ?_
        refine AWP.region tcok hmix [(2, ⟨none, some ⟨V.tup [V.agg true [u8 2, u8 0, u8 0], u8 0], [], []⟩⟩)] (os := [Con Tryd.prog 16 [] [V.agg true [u8 2, u8 0, u8 0], vb true, vb true, V.agg true [u8 wt, u8 tl]] [] (V.tup [V.agg true [u8 2, u8 0, u8 0], u8 0])]) (sf := St.mk [(3, tp (V.ptr 3 0)), (6, tp (vb false)), (7, tp (V.ptr 7 0)), (10, tp (V.ptr 10 0)), (76, tp (i64 j)), (85, tp (vb false)), (86, tp (V.tup [V.agg true [u8 2, u8 0, u8 0], u8 0])), (87, tp (V.agg true [u8 2, u8 0, u8 0])), (88, tp (V.agg true [u8 wt, u8 tl])), (89, tp (V.tup [V.agg true [u8 2, u8 0, u8 0], u8 0])), (90, tp (V.agg true [u8 2, u8 0, u8 0])), (91, tp (u8 0))] [(3, Blk.mk [u8 wt, u8 tl] true 2 none), (7, Blk.mk [u8 3, u8 0, u8 0] true 3 none), (10, Blk.mk [u8 2, u8 0, u8 0] true 3 none)]) (by kernel_rfl) ⟨(con_st2_well (0) (0) (wt) (tl) (by omega) (by assumption)), trivial⟩ ?_
        refine AWP.keep' [3, 6, 7, 10, 76] [3, 7, 10] (sf := St.mk [(3, tp (V.ptr 3 0)), (6, tp (vb false)), (7, tp (V.ptr 7 0)), (10, tp (V.ptr 10 0)), (76, tp (i64 j))] [(3, Blk.mk [u8 wt, u8 tl] true 2 none), (7, Blk.mk [u8 3, u8 0, u8 0] true 3 none), (10, Blk.mk [u8 2, u8 0, u8 0] true 3 none)]) (by kernel_rfl) ?_
        refine AWP.region tcok hmix [(0, ⟨some (i64 (j + 1)), none⟩)] (os := [i64 (IntKind.wrap IntKind.i64 (j + 1)) = i64 (j + 1)]) (sf := St.mk [(3, tp (V.ptr 3 0)), (6, tp (vb false)), (7, tp (V.ptr 7 0)), (10, tp (V.ptr 10 0)), (76, tp (i64 (j + 1))), (92, tp (i64 (j + 1)))] [(3, Blk.mk [u8 wt, u8 tl] true 2 none), (7, Blk.mk [u8 3, u8 0, u8 0] true 3 none), (10, Blk.mk [u8 2, u8 0, u8 0] true 3 none)]) (by kernel_rfl) ⟨(wr_i64 (by omega) (by omega)), trivial⟩ ?_
        refine ⟨St.mk [(3, tp (V.ptr 3 0)), (6, tp (vb false)), (7, tp (V.ptr 7 0)), (10, tp (V.ptr 10 0)), (76, tp (i64 (j + 1)))] [(3, Blk.mk [u8 wt, u8 tl] true 2 none), (7, Blk.mk [u8 3, u8 0, u8 0] true 3 none), (10, Blk.mk [u8 2, u8 0, u8 0] true 3 none)], by kernel_rfl, ?_⟩
        first | rfl | (exact ⟨(20 - (j + 1)).toNat, (by omega), j + 1, rfl, (by omega), (by omega), (by omega)⟩) | (exfalso; omega)
      simp only [decide_eq_false_iff_not] at hq36
      refine AWP.exit ?_
      refine AWP.seq ?_
      refine AWP.regionT tcok hmix [] [6] [] (os := []) (s' := St.mk [(6, tp (vb true))] []) (by kernel_rfl) trivial ?_
      refine AWP.ret ?_
      refine ⟨Or.inr rfl, Eq.trans (b := some ([], vb true)) (by kernel_rfl) ?_⟩
      first | rfl | (exact ⟨(20 - (j + 1)).toNat, (by omega), j + 1, rfl, (by omega), (by omega), (by omega)⟩) | (exfalso; omega)
theorem rule_of {x : V} (h : TyV tc 9 34 x) : ∃ wt tl : Int, x = .agg true [u8 wt, u8 tl] ∧ (0 ≤ wt ∧ wt < 256) ∧ (0 ≤ tl ∧ tl < 256) := by
  obtain ⟨xs, rfl, _, _, rfl, ⟨m, rfl, a1, a2⟩, _, _, rfl, ⟨s, rfl, b1, b2⟩, rfl⟩ := h
  exact ⟨m, s, rfl, ⟨a1, Int.lt_add_one_of_le a2⟩, ⟨b1, Int.lt_add_one_of_le b2⟩⟩
theorem u8_of {x : V} (h : TyV tc 9 5 x) : ∃ n : Int, x = u8 n ∧ 0 ≤ n ∧ n < 256 := by
  obtain ⟨n, e, a1, a2⟩ := h
  cases e
  exact ⟨n, rfl, a1, Int.lt_add_one_of_le a2⟩
theorem bools_of {n : Nat} {xs : List V} (h : Go.Ab.Rows (Ty tc 8 4) n xs) (i : Nat) : ∃ (x : Bool) (r : List V), i < n → xs.drop (i * 1) = vb x :: r := by
  by_cases hi : i < n
  · obtain ⟨r, rest, ⟨x, rfl⟩, h2⟩ := rows_drop (k := 1) (fun r hr => by obtain ⟨x, rfl⟩ := hr; rfl) h i hi
    exact ⟨x, rest, fun _ => h2⟩
  · exact ⟨true, [], fun h => absurd h hi⟩
theorem law_UnitQuiet (x y : V) (hx : TyV tc 9 34 x) (hy : TyV tc 9 5 y) : Con Tryd.prog 5 [] [x, y] [] (vb true) := by
  obtain ⟨wt, tl, rfl, h1, h2⟩ := rule_of hx
  obtain ⟨n, rfl, h3⟩ := u8_of hy
  exact law_quiet wt tl n h1 h2 h3
theorem law_UnitBounds (x y z : V) (hx : TyV tc 9 34 x) (hy : TyV tc 9 35 y) (hz : TyV tc 9 5 z) : Con Tryd.prog 4 [] [x, y, z] [] (vb true) := by
  obtain ⟨wt, tl, rfl, h1, h2⟩ := rule_of hx
  obtain ⟨n, rfl, h3⟩ := u8_of hz
  obtain ⟨cs, k, e1, hk, hr⟩ := hy
  cases e1
  exact law_bounds wt tl n cs k h1 h2 h3 (bools_of hr)
end Go.Proofs.YtklbonfbiakebaaDoor
