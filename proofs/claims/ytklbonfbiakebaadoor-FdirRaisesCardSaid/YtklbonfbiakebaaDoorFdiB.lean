/- Package fdir: what Raise returns. -/
import Derived.Test.YtklbonfbiakebaaDoorFdiA
namespace Go.Proofs.YtklbonfbiakebaaDoor
open Go.Ab
set_option linter.unusedSimpArgs false
set_option linter.unusedVariables false
set_option maxHeartbeats 8000000
theorem con_raise (inh : Int) (l c : F5) (lv un ev M : Int) (hi : 0 ≤ inh ∧ inh < 256) (hc : c.ok) (hl : 0 ≤ lv ∧ lv < 5) (hr : aright lv un = true) (hM : lev inh l c (5 - lv).toNat lv (-1) = M) :
    Con Tryd.prog 13 [] [ladV l c, .agg true [u8 lv, i64 un, u8 ev], u8 inh] [] (.tup [ladV l (c.inc M), .agg true [u8 (if 0 ≤ M then M else 0), i64 (if 0 ≤ M then un else 0), u8 (if 0 ≤ M then ev else 0)], vb (decide (0 ≤ M))]) := by
  obtain ⟨hc1, hc2, hc3, hc4, hc5, hc6, hc7, hc8, hc9, hc0⟩ := hc
  refine Con.of (C := ⟨Tryd.prog, tc, Tryd.f13.ntmps⟩) [] tcok Tryd.func13 rfl rfl (by kernel_rfl) (by kernel_rfl) ?_
  refine AWP.seq ?_
  refine AWP.regionT tcok hmix [] [2, 3, 4, 6, 7, 8] [3, 4, 6, 7] (os := []) (s' := St.mk [(2, tp (u8 inh)), (3, tp (V.ptr 3 0)), (4, tp (V.ptr 4 0)), (6, tp (V.ptr 6 0)), (7, tp (V.ptr 7 0)), (8, tp (vb false))] [(3, Blk.mk [u8 l.a0, u8 l.a1, u8 l.a2, u8 l.a3, u8 l.a4, u8 c.a0, u8 c.a1, u8 c.a2, u8 c.a3, u8 c.a4] true 10 none), (4, Blk.mk [u8 lv, i64 un, u8 ev] true 3 none), (6, Blk.mk [u8 0, u8 0, u8 0, u8 0, u8 0, u8 0, u8 0, u8 0, u8 0, u8 0] true 10 none), (7, Blk.mk [u8 0, i64 0, u8 0] true 3 none)]) (by kernel_rfl) trivial ?_
  refine AWP.seq ?_
  refine AWP.seq ?_
  refine AWP.regionT tcok hmix [(1, ⟨none, some ⟨vb (aright lv un), [], []⟩⟩)] [2, 3, 4, 6, 7, 8, 13] [3, 4, 6, 7] (os := [Con Tryd.prog 38 [] [V.agg true [u8 lv, i64 un, u8 ev]] [] (vb (aright lv un))]) (s' := St.mk [(2, tp (u8 inh)), (3, tp (V.ptr 3 0)), (4, tp (V.ptr 4 0)), (6, tp (V.ptr 6 0)), (7, tp (V.ptr 7 0)), (8, tp (vb false)), (13, tp (vb !aright lv un))] [(3, Blk.mk [u8 l.a0, u8 l.a1, u8 l.a2, u8 l.a3, u8 l.a4, u8 c.a0, u8 c.a1, u8 c.a2, u8 c.a3, u8 c.a4] true 10 none), (4, Blk.mk [u8 lv, i64 un, u8 ev] true 3 none), (6, Blk.mk [u8 0, u8 0, u8 0, u8 0, u8 0, u8 0, u8 0, u8 0, u8 0, u8 0] true 10 none), (7, Blk.mk [u8 0, i64 0, u8 0] true 3 none)]) (by kernel_rfl) ⟨(con_aright (lv) (un) (ev)), trivial⟩ ?_
  refine AWP.cond (b := !aright lv un) (by kernel_rfl) (fun hq0 => ?_) (fun hq0 => ?_)
  · simp only [Bool.not_eq_true'] at hq0
    refine AWP.seq ?_
    refine AWP.regionT tcok hmix [] [2, 3, 4, 6, 7, 8] [3, 4, 6, 7] (os := []) (s' := St.mk [(2, tp (u8 inh)), (3, tp (V.ptr 3 0)), (4, tp (V.ptr 4 0)), (6, tp (V.ptr 6 0)), (7, tp (V.ptr 7 0)), (8, tp (vb false))] [(3, Blk.mk [u8 l.a0, u8 l.a1, u8 l.a2, u8 l.a3, u8 l.a4, u8 c.a0, u8 c.a1, u8 c.a2, u8 c.a3, u8 c.a4] true 10 none), (4, Blk.mk [u8 lv, i64 un, u8 ev] true 3 none), (6, Blk.mk [u8 l.a0, u8 l.a1, u8 l.a2, u8 l.a3, u8 l.a4, u8 c.a0, u8 c.a1, u8 c.a2, u8 c.a3, u8 c.a4] true 10 none), (7, Blk.mk [u8 0, i64 0, u8 0] true 3 none)]) (by kernel_rfl) trivial ?_
    refine AWP.ret ?_
    refine ⟨Or.inr rfl, Eq.trans (b := some ([], V.tup [V.agg true [u8 l.a0, u8 l.a1, u8 l.a2, u8 l.a3, u8 l.a4, u8 c.a0, u8 c.a1, u8 c.a2, u8 c.a3, u8 c.a4], V.agg true [u8 0, i64 0, u8 0], vb false])) (by kernel_rfl) ?_⟩
    (exfalso; simp_all; done)
  simp only [Bool.not_eq_false'] at hq0
  refine AWP.skip ?_
  refine AWP.seq ?_
  refine AWP.regionT tcok hmix [] [2, 3, 4, 6, 7, 8, 9] [3, 4, 6, 7] (os := []) (s' := St.mk [(2, tp (u8 inh)), (3, tp (V.ptr 3 0)), (4, tp (V.ptr 4 0)), (6, tp (V.ptr 6 0)), (7, tp (V.ptr 7 0)), (8, tp (vb false)), (9, tp (i64 (-1)))] [(3, Blk.mk [u8 l.a0, u8 l.a1, u8 l.a2, u8 l.a3, u8 l.a4, u8 c.a0, u8 c.a1, u8 c.a2, u8 c.a3, u8 c.a4] true 10 none), (4, Blk.mk [u8 lv, i64 un, u8 ev] true 3 none), (6, Blk.mk [u8 0, u8 0, u8 0, u8 0, u8 0, u8 0, u8 0, u8 0, u8 0, u8 0] true 10 none), (7, Blk.mk [u8 0, i64 0, u8 0] true 3 none)]) (by kernel_rfl) trivial ?_
  refine AWP.seq ?_
  refine AWP.seq ?_
  refine AWP.regionT tcok hmix [] [2, 3, 4, 6, 7, 8, 9, 10] [3, 4, 6, 7] (os := []) (s' := St.mk [(2, tp (u8 inh)), (3, tp (V.ptr 3 0)), (4, tp (V.ptr 4 0)), (6, tp (V.ptr 6 0)), (7, tp (V.ptr 7 0)), (8, tp (vb false)), (9, tp (i64 (-1))), (10, tp (u8 lv))] [(3, Blk.mk [u8 l.a0, u8 l.a1, u8 l.a2, u8 l.a3, u8 l.a4, u8 c.a0, u8 c.a1, u8 c.a2, u8 c.a3, u8 c.a4] true 10 none), (4, Blk.mk [u8 lv, i64 un, u8 ev] true 3 none), (6, Blk.mk [u8 0, u8 0, u8 0, u8 0, u8 0, u8 0, u8 0, u8 0, u8 0, u8 0] true 10 none), (7, Blk.mk [u8 0, i64 0, u8 0] true 3 none)]) (by kernel_rfl) trivial ?_
  refine AWP.block ?_
  refine AWP.loopI [2, 3, 4, 6, 7, 8, 9, 10] [3, 4, 6, 7] (fun N s' => ∃ n k : Int, s' = St.mk [(2, T.plain (u8 inh)), (3, T.plain (V.ptr 3 0)), (4, T.plain (V.ptr 4 0)), (6, T.plain (V.ptr 6 0)), (7, T.plain (V.ptr 7 0)), (8, T.plain (vb false)), (9, T.plain (i64 k)), (10, T.plain (u8 n))] [(3, Blk.mk [u8 l.a0, u8 l.a1, u8 l.a2, u8 l.a3, u8 l.a4, u8 c.a0, u8 c.a1, u8 c.a2, u8 c.a3, u8 c.a4] true 10 none), (4, Blk.mk [u8 lv, i64 un, u8 ev] true 3 none), (6, Blk.mk [u8 0, u8 0, u8 0, u8 0, u8 0, u8 0, u8 0, u8 0, u8 0, u8 0] true 10 none), (7, Blk.mk [u8 0, i64 0, u8 0] true 3 none)] ∧ (0 ≤ n ∧ n ≤ 5) ∧ (k = -1 ∨ 0 ≤ k ∧ k < 5) ∧ lev inh l c (5 - n).toNat n k = M ∧ (N : Int) = 5 - n) (5 - lv).toNat (s0 := St.mk [(2, T.plain (u8 inh)), (3, T.plain (V.ptr 3 0)), (4, T.plain (V.ptr 4 0)), (6, T.plain (V.ptr 6 0)), (7, T.plain (V.ptr 7 0)), (8, T.plain (vb false)), (9, T.plain (i64 (-1))), (10, T.plain (u8 lv))] [(3, Blk.mk [u8 l.a0, u8 l.a1, u8 l.a2, u8 l.a3, u8 l.a4, u8 c.a0, u8 c.a1, u8 c.a2, u8 c.a3, u8 c.a4] true 10 none), (4, Blk.mk [u8 lv, i64 un, u8 ev] true 3 none), (6, Blk.mk [u8 0, u8 0, u8 0, u8 0, u8 0, u8 0, u8 0, u8 0, u8 0, u8 0] true 10 none), (7, Blk.mk [u8 0, i64 0, u8 0] true 3 none)]) (by kernel_rfl) ?_ ?_
  · exact ⟨lv, -1, rfl, by omega, by omega, hM, by omega⟩
  rintro N s' ⟨n, k, rfl, hn, hk, hM2, hN⟩
  rcases (by omega : n = 0 ∨ n = 1 ∨ n = 2 ∨ n = 3 ∨ n = 4 ∨ n = 5) with rfl | rfl | rfl | rfl | rfl | rfl
  · have hM3 : (if al inh 0 = true then (if c.a0 < l.a0 then 0 else lev inh l c 4 1 0) else lev inh l c 4 1 k) = M := hM2
    clear hM2
    refine AWP.seq ?_
    refine AWP.seq ?_
    refine AWP.regionT tcok hmix [] [2, 3, 4, 6, 7, 8, 9, 10, 19] [3, 4, 6, 7] (os := []) (s' := St.mk [(2, tp (u8 inh)), (3, tp (V.ptr 3 0)), (4, tp (V.ptr 4 0)), (6, tp (V.ptr 6 0)), (7, tp (V.ptr 7 0)), (8, tp (vb false)), (9, tp (i64 k)), (10, tp (u8 0)), (19, tp (vb true))] [(3, Blk.mk [u8 l.a0, u8 l.a1, u8 l.a2, u8 l.a3, u8 l.a4, u8 c.a0, u8 c.a1, u8 c.a2, u8 c.a3, u8 c.a4] true 10 none), (4, Blk.mk [u8 lv, i64 un, u8 ev] true 3 none), (6, Blk.mk [u8 0, u8 0, u8 0, u8 0, u8 0, u8 0, u8 0, u8 0, u8 0, u8 0] true 10 none), (7, Blk.mk [u8 0, i64 0, u8 0] true 3 none)]) (by kernel_rfl) trivial ?_
    refine AWP.cond (b := true) (by kernel_rfl) (fun _ => ?_) (fun h => by cases h)
    refine AWP.skip ?_
    refine AWP.seq ?_
    refine AWP.block ?_
    refine AWP.seq ?_
    refine AWP.seq ?_
    refine AWP.regionT tcok hmix [(2, ⟨none, some ⟨vb (al inh 0), [], []⟩⟩)] [2, 3, 4, 6, 7, 8, 9, 10, 25] [3, 4, 6, 7] (os := [Con Tryd.prog 40 [] [u8 inh, u8 0] [] (vb (al inh 0))]) (s' := St.mk [(2, tp (u8 inh)), (3, tp (V.ptr 3 0)), (4, tp (V.ptr 4 0)), (6, tp (V.ptr 6 0)), (7, tp (V.ptr 7 0)), (8, tp (vb false)), (9, tp (i64 k)), (10, tp (u8 0)), (25, tp (vb !al inh 0))] [(3, Blk.mk [u8 l.a0, u8 l.a1, u8 l.a2, u8 l.a3, u8 l.a4, u8 c.a0, u8 c.a1, u8 c.a2, u8 c.a3, u8 c.a4] true 10 none), (4, Blk.mk [u8 lv, i64 un, u8 ev] true 3 none), (6, Blk.mk [u8 0, u8 0, u8 0, u8 0, u8 0, u8 0, u8 0, u8 0, u8 0, u8 0] true 10 none), (7, Blk.mk [u8 0, i64 0, u8 0] true 3 none)]) (by kernel_rfl) ⟨(con_allowed (inh) (0) (by assumption) (by omega)), trivial⟩ ?_
    refine AWP.cond (b := !al inh 0) (by kernel_rfl) (fun hq2 => ?_) (fun hq2 => ?_)
    · simp only [Bool.not_eq_true'] at hq2
      refine AWP.exit ?_
      refine AWP.region tcok hmix [] (os := []) (sf := St.mk [(2, tp (u8 inh)), (3, tp (V.ptr 3 0)), (4, tp (V.ptr 4 0)), (6, tp (V.ptr 6 0)), (7, tp (V.ptr 7 0)), (8, tp (vb false)), (9, tp (i64 k)), (10, tp (u8 1)), (20, tp (u8 0)), (21, tp (u8 1)), (25, tp (vb !al inh 0))] [(3, Blk.mk [u8 l.a0, u8 l.a1, u8 l.a2, u8 l.a3, u8 l.a4, u8 c.a0, u8 c.a1, u8 c.a2, u8 c.a3, u8 c.a4] true 10 none), (4, Blk.mk [u8 lv, i64 un, u8 ev] true 3 none), (6, Blk.mk [u8 0, u8 0, u8 0, u8 0, u8 0, u8 0, u8 0, u8 0, u8 0, u8 0] true 10 none), (7, Blk.mk [u8 0, i64 0, u8 0] true 3 none)]) (by kernel_rfl) trivial ?_
      refine ⟨St.mk [(2, tp (u8 inh)), (3, tp (V.ptr 3 0)), (4, tp (V.ptr 4 0)), (6, tp (V.ptr 6 0)), (7, tp (V.ptr 7 0)), (8, tp (vb false)), (9, tp (i64 k)), (10, tp (u8 1))] [(3, Blk.mk [u8 l.a0, u8 l.a1, u8 l.a2, u8 l.a3, u8 l.a4, u8 c.a0, u8 c.a1, u8 c.a2, u8 c.a3, u8 c.a4] true 10 none), (4, Blk.mk [u8 lv, i64 un, u8 ev] true 3 none), (6, Blk.mk [u8 0, u8 0, u8 0, u8 0, u8 0, u8 0, u8 0, u8 0, u8 0, u8 0] true 10 none), (7, Blk.mk [u8 0, i64 0, u8 0] true 3 none)], by kernel_rfl, ?_⟩
      first | (obtain rfl : M = 0 := (by simp_all); first | rfl | (simp [F5.inc, up8, *]; done) | (simp [F5.inc, up8, *]; omega)) | (exact ⟨4, (by omega), 1, k, rfl, (by omega), hk, (by simp_all), (by omega)⟩) | (exact ⟨4, (by omega), 1, 0, rfl, (by omega), (by omega), (by simp_all), (by omega)⟩)
    simp only [Bool.not_eq_false'] at hq2
    refine AWP.skip ?_
    refine AWP.seq ?_
    refine AWP.regionT tcok hmix [] [2, 3, 4, 6, 7, 8, 9, 10] [3, 4, 6, 7] (os := []) (s' := St.mk [(2, tp (u8 inh)), (3, tp (V.ptr 3 0)), (4, tp (V.ptr 4 0)), (6, tp (V.ptr 6 0)), (7, tp (V.ptr 7 0)), (8, tp (vb false)), (9, tp (i64 0)), (10, tp (u8 0))] [(3, Blk.mk [u8 l.a0, u8 l.a1, u8 l.a2, u8 l.a3, u8 l.a4, u8 c.a0, u8 c.a1, u8 c.a2, u8 c.a3, u8 c.a4] true 10 none), (4, Blk.mk [u8 lv, i64 un, u8 ev] true 3 none), (6, Blk.mk [u8 0, u8 0, u8 0, u8 0, u8 0, u8 0, u8 0, u8 0, u8 0, u8 0] true 10 none), (7, Blk.mk [u8 0, i64 0, u8 0] true 3 none)]) (by kernel_rfl) trivial ?_
    refine AWP.seq ?_
    refine AWP.regionT tcok hmix [] [2, 3, 4, 6, 7, 8, 9, 10, 36] [3, 4, 6, 7] (os := []) (s' := St.mk [(2, tp (u8 inh)), (3, tp (V.ptr 3 0)), (4, tp (V.ptr 4 0)), (6, tp (V.ptr 6 0)), (7, tp (V.ptr 7 0)), (8, tp (vb false)), (9, tp (i64 0)), (10, tp (u8 0)), (36, tp (vb (decide (c.a0 < l.a0))))] [(3, Blk.mk [u8 l.a0, u8 l.a1, u8 l.a2, u8 l.a3, u8 l.a4, u8 c.a0, u8 c.a1, u8 c.a2, u8 c.a3, u8 c.a4] true 10 none), (4, Blk.mk [u8 lv, i64 un, u8 ev] true 3 none), (6, Blk.mk [u8 0, u8 0, u8 0, u8 0, u8 0, u8 0, u8 0, u8 0, u8 0, u8 0] true 10 none), (7, Blk.mk [u8 0, i64 0, u8 0] true 3 none)]) (by kernel_rfl) trivial ?_
    refine AWP.cond (b := decide (c.a0 < l.a0)) (by kernel_rfl) (fun hq3 => ?_) (fun hq3 => ?_)
    · simp only [decide_eq_true_eq] at hq3
      refine AWP.exit ?_
      refine AWP.seq ?_
      refine AWP.seq ?_
      refine AWP.regionT tcok hmix [] [3, 4, 6, 7, 8, 9, 38] [3, 4, 6, 7] (os := []) (s' := St.mk [(3, tp (V.ptr 3 0)), (4, tp (V.ptr 4 0)), (6, tp (V.ptr 6 0)), (7, tp (V.ptr 7 0)), (8, tp (vb false)), (9, tp (i64 0)), (38, tp (vb false))] [(3, Blk.mk [u8 l.a0, u8 l.a1, u8 l.a2, u8 l.a3, u8 l.a4, u8 c.a0, u8 c.a1, u8 c.a2, u8 c.a3, u8 c.a4] true 10 none), (4, Blk.mk [u8 lv, i64 un, u8 ev] true 3 none), (6, Blk.mk [u8 0, u8 0, u8 0, u8 0, u8 0, u8 0, u8 0, u8 0, u8 0, u8 0] true 10 none), (7, Blk.mk [u8 0, i64 0, u8 0] true 3 none)]) (by kernel_rfl) trivial ?_
      refine AWP.cond (b := false) (by kernel_rfl) (fun h => by cases h) (fun _ => ?_)
      refine AWP.skip ?_
      refine AWP.seq ?_
      refine AWP.seq ?_
      refine AWP.regionT tcok hmix [] [3, 4, 6, 7, 8, 9, 45] [3, 4, 6, 7] (os := []) (s' := St.mk [(3, tp (V.ptr 3 0)), (4, tp (V.ptr 4 0)), (6, tp (V.ptr 6 0)), (7, tp (V.ptr 7 0)), (8, tp (vb false)), (9, tp (i64 0)), (45, tp (vb (decide (c.a0 < 255))))] [(3, Blk.mk [u8 l.a0, u8 l.a1, u8 l.a2, u8 l.a3, u8 l.a4, u8 c.a0, u8 c.a1, u8 c.a2, u8 c.a3, u8 c.a4] true 10 none), (4, Blk.mk [u8 lv, i64 un, u8 ev] true 3 none), (6, Blk.mk [u8 0, u8 0, u8 0, u8 0, u8 0, u8 0, u8 0, u8 0, u8 0, u8 0] true 10 none), (7, Blk.mk [u8 0, i64 0, u8 0] true 3 none)]) (by kernel_rfl) trivial ?_
      refine AWP.cond (b := decide (c.a0 < 255)) (by kernel_rfl) (fun hq5 => ?_) (fun hq5 => ?_)
      · simp only [decide_eq_true_eq] at hq5
        refine AWP.regionT tcok hmix [(4, ⟨some (u8 (c.a0 + 1)), none⟩)] [3, 4, 6, 7, 8, 9] [3, 4, 6, 7] (os := [u8 (IntKind.wrap IntKind.u8 (c.a0 + 1)) = u8 (c.a0 + 1)]) (s' := St.mk [(3, tp (V.ptr 3 0)), (4, tp (V.ptr 4 0)), (6, tp (V.ptr 6 0)), (7, tp (V.ptr 7 0)), (8, tp (vb false)), (9, tp (i64 0))] [(3, Blk.mk [u8 l.a0, u8 l.a1, u8 l.a2, u8 l.a3, u8 l.a4, u8 (c.a0 + 1), u8 c.a1, u8 c.a2, u8 c.a3, u8 c.a4] true 10 none), (4, Blk.mk [u8 lv, i64 un, u8 ev] true 3 none), (6, Blk.mk [u8 0, u8 0, u8 0, u8 0, u8 0, u8 0, u8 0, u8 0, u8 0, u8 0] true 10 none), (7, Blk.mk [u8 0, i64 0, u8 0] true 3 none)]) (by kernel_rfl) ⟨(wr_u8 (by omega) (by omega)), trivial⟩ ?_
        refine AWP.seq ?_
        refine AWP.regionT tcok hmix [] [3, 4, 6, 7, 8] [3, 4, 6, 7] (os := []) (s' := St.mk [(3, tp (V.ptr 3 0)), (4, tp (V.ptr 4 0)), (6, tp (V.ptr 6 0)), (7, tp (V.ptr 7 0)), (8, tp (vb false))] [(3, Blk.mk [u8 l.a0, u8 l.a1, u8 l.a2, u8 l.a3, u8 l.a4, u8 (c.a0 + 1), u8 c.a1, u8 c.a2, u8 c.a3, u8 c.a4] true 10 none), (4, Blk.mk [u8 0, i64 un, u8 ev] true 3 none), (6, Blk.mk [u8 0, u8 0, u8 0, u8 0, u8 0, u8 0, u8 0, u8 0, u8 0, u8 0] true 10 none), (7, Blk.mk [u8 0, i64 0, u8 0] true 3 none)]) (by kernel_rfl) trivial ?_
        refine AWP.seq ?_
        refine AWP.regionT tcok hmix [] [6, 7, 8] [6, 7] (os := []) (s' := St.mk [(6, tp (V.ptr 6 0)), (7, tp (V.ptr 7 0)), (8, tp (vb true))] [(6, Blk.mk [u8 l.a0, u8 l.a1, u8 l.a2, u8 l.a3, u8 l.a4, u8 (c.a0 + 1), u8 c.a1, u8 c.a2, u8 c.a3, u8 c.a4] true 10 none), (7, Blk.mk [u8 0, i64 un, u8 ev] true 3 none)]) (by kernel_rfl) trivial ?_
        refine AWP.ret ?_
        refine ⟨Or.inr rfl, Eq.trans (b := some ([], V.tup [V.agg true [u8 l.a0, u8 l.a1, u8 l.a2, u8 l.a3, u8 l.a4, u8 (c.a0 + 1), u8 c.a1, u8 c.a2, u8 c.a3, u8 c.a4], V.agg true [u8 0, i64 un, u8 ev], vb true])) (by kernel_rfl) ?_⟩
        first | (obtain rfl : M = 0 := (by simp_all); first | rfl | (simp [F5.inc, up8, *]; done) | (simp [F5.inc, up8, *]; omega)) | (exact ⟨4, (by omega), 1, k, rfl, (by omega), hk, (by simp_all), (by omega)⟩) | (exact ⟨4, (by omega), 1, 0, rfl, (by omega), (by omega), (by simp_all), (by omega)⟩)
      simp only [decide_eq_false_iff_not] at hq5
      refine AWP.skip ?_
      refine AWP.seq ?_
      refine AWP.regionT tcok hmix [] [3, 4, 6, 7, 8] [3, 4, 6, 7] (os := []) (s' := St.mk [(3, tp (V.ptr 3 0)), (4, tp (V.ptr 4 0)), (6, tp (V.ptr 6 0)), (7, tp (V.ptr 7 0)), (8, tp (vb false))] [(3, Blk.mk [u8 l.a0, u8 l.a1, u8 l.a2, u8 l.a3, u8 l.a4, u8 c.a0, u8 c.a1, u8 c.a2, u8 c.a3, u8 c.a4] true 10 none), (4, Blk.mk [u8 0, i64 un, u8 ev] true 3 none), (6, Blk.mk [u8 0, u8 0, u8 0, u8 0, u8 0, u8 0, u8 0, u8 0, u8 0, u8 0] true 10 none), (7, Blk.mk [u8 0, i64 0, u8 0] true 3 none)]) (by kernel_rfl) trivial ?_
      refine AWP.seq ?_
      refine AWP.regionT tcok hmix [] [6, 7, 8] [6, 7] (os := []) (s' := St.mk [(6, tp (V.ptr 6 0)), (7, tp (V.ptr 7 0)), (8, tp (vb true))] [(6, Blk.mk [u8 l.a0, u8 l.a1, u8 l.a2, u8 l.a3, u8 l.a4, u8 c.a0, u8 c.a1, u8 c.a2, u8 c.a3, u8 c.a4] true 10 none), (7, Blk.mk [u8 0, i64 un, u8 ev] true 3 none)]) (by kernel_rfl) trivial ?_
      refine AWP.ret ?_
      refine ⟨Or.inr rfl, Eq.trans (b := some ([], V.tup [V.agg true [u8 l.a0, u8 l.a1, u8 l.a2, u8 l.a3, u8 l.a4, u8 c.a0, u8 c.a1, u8 c.a2, u8 c.a3, u8 c.a4], V.agg true [u8 0, i64 un, u8 ev], vb true])) (by kernel_rfl) ?_⟩
      first | (obtain rfl : M = 0 := (by simp_all); first | rfl | (simp [F5.inc, up8, *]; done) | (simp [F5.inc, up8, *]; omega)) | (exact ⟨4, (by omega), 1, k, rfl, (by omega), hk, (by simp_all), (by omega)⟩) | (exact ⟨4, (by omega), 1, 0, rfl, (by omega), (by omega), (by simp_all), (by omega)⟩)
    simp only [decide_eq_false_iff_not] at hq3
    refine AWP.skip ?_
    refine AWP.region tcok hmix [] (os := []) (sf := St.mk [(2, tp (u8 inh)), (3, tp (V.ptr 3 0)), (4, tp (V.ptr 4 0)), (6, tp (V.ptr 6 0)), (7, tp (V.ptr 7 0)), (8, tp (vb false)), (9, tp (i64 0)), (10, tp (u8 1)), (20, tp (u8 0)), (21, tp (u8 1)), (36, tp (vb (decide (c.a0 < l.a0))))] [(3, Blk.mk [u8 l.a0, u8 l.a1, u8 l.a2, u8 l.a3, u8 l.a4, u8 c.a0, u8 c.a1, u8 c.a2, u8 c.a3, u8 c.a4] true 10 none), (4, Blk.mk [u8 lv, i64 un, u8 ev] true 3 none), (6, Blk.mk [u8 0, u8 0, u8 0, u8 0, u8 0, u8 0, u8 0, u8 0, u8 0, u8 0] true 10 none), (7, Blk.mk [u8 0, i64 0, u8 0] true 3 none)]) (by kernel_rfl) trivial ?_
    refine ⟨St.mk [(2, tp (u8 inh)), (3, tp (V.ptr 3 0)), (4, tp (V.ptr 4 0)), (6, tp (V.ptr 6 0)), (7, tp (V.ptr 7 0)), (8, tp (vb false)), (9, tp (i64 0)), (10, tp (u8 1))] [(3, Blk.mk [u8 l.a0, u8 l.a1, u8 l.a2, u8 l.a3, u8 l.a4, u8 c.a0, u8 c.a1, u8 c.a2, u8 c.a3, u8 c.a4] true 10 none), (4, Blk.mk [u8 lv, i64 un, u8 ev] true 3 none), (6, Blk.mk [u8 0, u8 0, u8 0, u8 0, u8 0, u8 0, u8 0, u8 0, u8 0, u8 0] true 10 none), (7, Blk.mk [u8 0, i64 0, u8 0] true 3 none)], by kernel_rfl, ?_⟩
    first | (obtain rfl : M = 0 := (by simp_all); first | rfl | (simp [F5.inc, up8, *]; done) | (simp [F5.inc, up8, *]; omega)) | (exact ⟨4, (by omega), 1, k, rfl, (by omega), hk, (by simp_all), (by omega)⟩) | (exact ⟨4, (by omega), 1, 0, rfl, (by omega), (by omega), (by simp_all), (by omega)⟩)
  · have hM3 : (if al inh 1 = true then (if c.a1 < l.a1 then 1 else lev inh l c 3 2 1) else lev inh l c 3 2 k) = M := hM2
    clear hM2
    refine AWP.seq ?_
    refine AWP.seq ?_
    refine AWP.regionT tcok hmix [] [2, 3, 4, 6, 7, 8, 9, 10, 19] [3, 4, 6, 7] (os := []) (s' := St.mk [(2, tp (u8 inh)), (3, tp (V.ptr 3 0)), (4, tp (V.ptr 4 0)), (6, tp (V.ptr 6 0)), (7, tp (V.ptr 7 0)), (8, tp (vb false)), (9, tp (i64 k)), (10, tp (u8 1)), (19, tp (vb true))] [(3, Blk.mk [u8 l.a0, u8 l.a1, u8 l.a2, u8 l.a3, u8 l.a4, u8 c.a0, u8 c.a1, u8 c.a2, u8 c.a3, u8 c.a4] true 10 none), (4, Blk.mk [u8 lv, i64 un, u8 ev] true 3 none), (6, Blk.mk [u8 0, u8 0, u8 0, u8 0, u8 0, u8 0, u8 0, u8 0, u8 0, u8 0] true 10 none), (7, Blk.mk [u8 0, i64 0, u8 0] true 3 none)]) (by kernel_rfl) trivial ?_
    refine AWP.cond (b := true) (by kernel_rfl) (fun _ => ?_) (fun h => by cases h)
    refine AWP.skip ?_
    refine AWP.seq ?_
    refine AWP.block ?_
    refine AWP.seq ?_
    refine AWP.seq ?_
    refine AWP.regionT tcok hmix [(2, ⟨none, some ⟨vb (al inh 1), [], []⟩⟩)] [2, 3, 4, 6, 7, 8, 9, 10, 25] [3, 4, 6, 7] (os := [Con Tryd.prog 40 [] [u8 inh, u8 1] [] (vb (al inh 1))]) (s' := St.mk [(2, tp (u8 inh)), (3, tp (V.ptr 3 0)), (4, tp (V.ptr 4 0)), (6, tp (V.ptr 6 0)), (7, tp (V.ptr 7 0)), (8, tp (vb false)), (9, tp (i64 k)), (10, tp (u8 1)), (25, tp (vb !al inh 1))] [(3, Blk.mk [u8 l.a0, u8 l.a1, u8 l.a2, u8 l.a3, u8 l.a4, u8 c.a0, u8 c.a1, u8 c.a2, u8 c.a3, u8 c.a4] true 10 none), (4, Blk.mk [u8 lv, i64 un, u8 ev] true 3 none), (6, Blk.mk [u8 0, u8 0, u8 0, u8 0, u8 0, u8 0, u8 0, u8 0, u8 0, u8 0] true 10 none), (7, Blk.mk [u8 0, i64 0, u8 0] true 3 none)]) (by kernel_rfl) ⟨(con_allowed (inh) (1) (by assumption) (by omega)), trivial⟩ ?_
    refine AWP.cond (b := !al inh 1) (by kernel_rfl) (fun hq7 => ?_) (fun hq7 => ?_)
    · simp only [Bool.not_eq_true'] at hq7
      refine AWP.exit ?_
      refine AWP.region tcok hmix [] (os := []) (sf := St.mk [(2, tp (u8 inh)), (3, tp (V.ptr 3 0)), (4, tp (V.ptr 4 0)), (6, tp (V.ptr 6 0)), (7, tp (V.ptr 7 0)), (8, tp (vb false)), (9, tp (i64 k)), (10, tp (u8 2)), (20, tp (u8 1)), (21, tp (u8 2)), (25, tp (vb !al inh 1))] [(3, Blk.mk [u8 l.a0, u8 l.a1, u8 l.a2, u8 l.a3, u8 l.a4, u8 c.a0, u8 c.a1, u8 c.a2, u8 c.a3, u8 c.a4] true 10 none), (4, Blk.mk [u8 lv, i64 un, u8 ev] true 3 none), (6, Blk.mk [u8 0, u8 0, u8 0, u8 0, u8 0, u8 0, u8 0, u8 0, u8 0, u8 0] true 10 none), (7, Blk.mk [u8 0, i64 0, u8 0] true 3 none)]) (by kernel_rfl) trivial ?_
      refine ⟨St.mk [(2, tp (u8 inh)), (3, tp (V.ptr 3 0)), (4, tp (V.ptr 4 0)), (6, tp (V.ptr 6 0)), (7, tp (V.ptr 7 0)), (8, tp (vb false)), (9, tp (i64 k)), (10, tp (u8 2))] [(3, Blk.mk [u8 l.a0, u8 l.a1, u8 l.a2, u8 l.a3, u8 l.a4, u8 c.a0, u8 c.a1, u8 c.a2, u8 c.a3, u8 c.a4] true 10 none), (4, Blk.mk [u8 lv, i64 un, u8 ev] true 3 none), (6, Blk.mk [u8 0, u8 0, u8 0, u8 0, u8 0, u8 0, u8 0, u8 0, u8 0, u8 0] true 10 none), (7, Blk.mk [u8 0, i64 0, u8 0] true 3 none)], by kernel_rfl, ?_⟩
      first | (obtain rfl : M = 1 := (by simp_all); first | rfl | (simp [F5.inc, up8, *]; done) | (simp [F5.inc, up8, *]; omega)) | (exact ⟨3, (by omega), 2, k, rfl, (by omega), hk, (by simp_all), (by omega)⟩) | (exact ⟨3, (by omega), 2, 1, rfl, (by omega), (by omega), (by simp_all), (by omega)⟩)
    simp only [Bool.not_eq_false'] at hq7
    refine AWP.skip ?_
    refine AWP.seq ?_
    refine AWP.regionT tcok hmix [] [2, 3, 4, 6, 7, 8, 9, 10] [3, 4, 6, 7] (os := []) (s' := St.mk [(2, tp (u8 inh)), (3, tp (V.ptr 3 0)), (4, tp (V.ptr 4 0)), (6, tp (V.ptr 6 0)), (7, tp (V.ptr 7 0)), (8, tp (vb false)), (9, tp (i64 1)), (10, tp (u8 1))] [(3, Blk.mk [u8 l.a0, u8 l.a1, u8 l.a2, u8 l.a3, u8 l.a4, u8 c.a0, u8 c.a1, u8 c.a2, u8 c.a3, u8 c.a4] true 10 none), (4, Blk.mk [u8 lv, i64 un, u8 ev] true 3 none), (6, Blk.mk [u8 0, u8 0, u8 0, u8 0, u8 0, u8 0, u8 0, u8 0, u8 0, u8 0] true 10 none), (7, Blk.mk [u8 0, i64 0, u8 0] true 3 none)]) (by kernel_rfl) trivial ?_
    refine AWP.seq ?_
    refine AWP.regionT tcok hmix [] [2, 3, 4, 6, 7, 8, 9, 10, 36] [3, 4, 6, 7] (os := []) (s' := St.mk [(2, tp (u8 inh)), (3, tp (V.ptr 3 0)), (4, tp (V.ptr 4 0)), (6, tp (V.ptr 6 0)), (7, tp (V.ptr 7 0)), (8, tp (vb false)), (9, tp (i64 1)), (10, tp (u8 1)), (36, tp (vb (decide (c.a1 < l.a1))))] [(3, Blk.mk [u8 l.a0, u8 l.a1, u8 l.a2, u8 l.a3, u8 l.a4, u8 c.a0, u8 c.a1, u8 c.a2, u8 c.a3, u8 c.a4] true 10 none), (4, Blk.mk [u8 lv, i64 un, u8 ev] true 3 none), (6, Blk.mk [u8 0, u8 0, u8 0, u8 0, u8 0, u8 0, u8 0, u8 0, u8 0, u8 0] true 10 none), (7, Blk.mk [u8 0, i64 0, u8 0] true 3 none)]) (by kernel_rfl) trivial ?_
    refine AWP.cond (b := decide (c.a1 < l.a1)) (by kernel_rfl) (fun hq8 => ?_) (fun hq8 => ?_)
    · simp only [decide_eq_true_eq] at hq8
      refine AWP.exit ?_
      refine AWP.seq ?_
      refine AWP.seq ?_
      refine AWP.regionT tcok hmix [] [3, 4, 6, 7, 8, 9, 38] [3, 4, 6, 7] (os := []) (s' := St.mk [(3, tp (V.ptr 3 0)), (4, tp (V.ptr 4 0)), (6, tp (V.ptr 6 0)), (7, tp (V.ptr 7 0)), (8, tp (vb false)), (9, tp (i64 1)), (38, tp (vb false))] [(3, Blk.mk [u8 l.a0, u8 l.a1, u8 l.a2, u8 l.a3, u8 l.a4, u8 c.a0, u8 c.a1, u8 c.a2, u8 c.a3, u8 c.a4] true 10 none), (4, Blk.mk [u8 lv, i64 un, u8 ev] true 3 none), (6, Blk.mk [u8 0, u8 0, u8 0, u8 0, u8 0, u8 0, u8 0, u8 0, u8 0, u8 0] true 10 none), (7, Blk.mk [u8 0, i64 0, u8 0] true 3 none)]) (by kernel_rfl) trivial ?_
      refine AWP.cond (b := false) (by kernel_rfl) (fun h => by cases h) (fun _ => ?_)
      refine AWP.skip ?_
      refine AWP.seq ?_
      refine AWP.seq ?_
      refine AWP.regionT tcok hmix [] [3, 4, 6, 7, 8, 9, 45] [3, 4, 6, 7] (os := []) (s' := St.mk [(3, tp (V.ptr 3 0)), (4, tp (V.ptr 4 0)), (6, tp (V.ptr 6 0)), (7, tp (V.ptr 7 0)), (8, tp (vb false)), (9, tp (i64 1)), (45, tp (vb (decide (c.a1 < 255))))] [(3, Blk.mk [u8 l.a0, u8 l.a1, u8 l.a2, u8 l.a3, u8 l.a4, u8 c.a0, u8 c.a1, u8 c.a2, u8 c.a3, u8 c.a4] true 10 none), (4, Blk.mk [u8 lv, i64 un, u8 ev] true 3 none), (6, Blk.mk [u8 0, u8 0, u8 0, u8 0, u8 0, u8 0, u8 0, u8 0, u8 0, u8 0] true 10 none), (7, Blk.mk [u8 0, i64 0, u8 0] true 3 none)]) (by kernel_rfl) trivial ?_
      refine AWP.cond (b := decide (c.a1 < 255)) (by kernel_rfl) (fun hq10 => ?_) (fun hq10 => ?_)
      · simp only [decide_eq_true_eq] at hq10
        refine AWP.regionT tcok hmix [(4, ⟨some (u8 (c.a1 + 1)), none⟩)] [3, 4, 6, 7, 8, 9] [3, 4, 6, 7] (os := [u8 (IntKind.wrap IntKind.u8 (c.a1 + 1)) = u8 (c.a1 + 1)]) (s' := St.mk [(3, tp (V.ptr 3 0)), (4, tp (V.ptr 4 0)), (6, tp (V.ptr 6 0)), (7, tp (V.ptr 7 0)), (8, tp (vb false)), (9, tp (i64 1))] [(3, Blk.mk [u8 l.a0, u8 l.a1, u8 l.a2, u8 l.a3, u8 l.a4, u8 c.a0, u8 (c.a1 + 1), u8 c.a2, u8 c.a3, u8 c.a4] true 10 none), (4, Blk.mk [u8 lv, i64 un, u8 ev] true 3 none), (6, Blk.mk [u8 0, u8 0, u8 0, u8 0, u8 0, u8 0, u8 0, u8 0, u8 0, u8 0] true 10 none), (7, Blk.mk [u8 0, i64 0, u8 0] true 3 none)]) (by kernel_rfl) ⟨(wr_u8 (by omega) (by omega)), trivial⟩ ?_
        refine AWP.seq ?_
        refine AWP.regionT tcok hmix [] [3, 4, 6, 7, 8] [3, 4, 6, 7] (os := []) (s' := St.mk [(3, tp (V.ptr 3 0)), (4, tp (V.ptr 4 0)), (6, tp (V.ptr 6 0)), (7, tp (V.ptr 7 0)), (8, tp (vb false))] [(3, Blk.mk [u8 l.a0, u8 l.a1, u8 l.a2, u8 l.a3, u8 l.a4, u8 c.a0, u8 (c.a1 + 1), u8 c.a2, u8 c.a3, u8 c.a4] true 10 none), (4, Blk.mk [u8 1, i64 un, u8 ev] true 3 none), (6, Blk.mk [u8 0, u8 0, u8 0, u8 0, u8 0, u8 0, u8 0, u8 0, u8 0, u8 0] true 10 none), (7, Blk.mk [u8 0, i64 0, u8 0] true 3 none)]) (by kernel_rfl) trivial ?_
        refine AWP.seq ?_
        refine AWP.regionT tcok hmix [] [6, 7, 8] [6, 7] (os := []) (s' := St.mk [(6, tp (V.ptr 6 0)), (7, tp (V.ptr 7 0)), (8, tp (vb true))] [(6, Blk.mk [u8 l.a0, u8 l.a1, u8 l.a2, u8 l.a3, u8 l.a4, u8 c.a0, u8 (c.a1 + 1), u8 c.a2, u8 c.a3, u8 c.a4] true 10 none), (7, Blk.mk [u8 1, i64 un, u8 ev] true 3 none)]) (by kernel_rfl) trivial ?_
        refine AWP.ret ?_
        refine ⟨Or.inr rfl, Eq.trans (b := some ([], V.tup [V.agg true [u8 l.a0, u8 l.a1, u8 l.a2, u8 l.a3, u8 l.a4, u8 c.a0, u8 (c.a1 + 1), u8 c.a2, u8 c.a3, u8 c.a4], V.agg true [u8 1, i64 un, u8 ev], vb true])) (by kernel_rfl) ?_⟩
        first | (obtain rfl : M = 1 := (by simp_all); first | rfl | (simp [F5.inc, up8, *]; done) | (simp [F5.inc, up8, *]; omega)) | (exact ⟨3, (by omega), 2, k, rfl, (by omega), hk, (by simp_all), (by omega)⟩) | (exact ⟨3, (by omega), 2, 1, rfl, (by omega), (by omega), (by simp_all), (by omega)⟩)
      simp only [decide_eq_false_iff_not] at hq10
      refine AWP.skip ?_
      refine AWP.seq ?_
      refine AWP.regionT tcok hmix [] [3, 4, 6, 7, 8] [3, 4, 6, 7] (os := []) (s' := St.mk [(3, tp (V.ptr 3 0)), (4, tp (V.ptr 4 0)), (6, tp (V.ptr 6 0)), (7, tp (V.ptr 7 0)), (8, tp (vb false))] [(3, Blk.mk [u8 l.a0, u8 l.a1, u8 l.a2, u8 l.a3, u8 l.a4, u8 c.a0, u8 c.a1, u8 c.a2, u8 c.a3, u8 c.a4] true 10 none), (4, Blk.mk [u8 1, i64 un, u8 ev] true 3 none), (6, Blk.mk [u8 0, u8 0, u8 0, u8 0, u8 0, u8 0, u8 0, u8 0, u8 0, u8 0] true 10 none), (7, Blk.mk [u8 0, i64 0, u8 0] true 3 none)]) (by kernel_rfl) trivial ?_
      refine AWP.seq ?_
      refine AWP.regionT tcok hmix [] [6, 7, 8] [6, 7] (os := []) (s' := St.mk [(6, tp (V.ptr 6 0)), (7, tp (V.ptr 7 0)), (8, tp (vb true))] [(6, Blk.mk [u8 l.a0, u8 l.a1, u8 l.a2, u8 l.a3, u8 l.a4, u8 c.a0, u8 c.a1, u8 c.a2, u8 c.a3, u8 c.a4] true 10 none), (7, Blk.mk [u8 1, i64 un, u8 ev] true 3 none)]) (by kernel_rfl) trivial ?_
      refine AWP.ret ?_
      refine ⟨Or.inr rfl, Eq.trans (b := some ([], V.tup [V.agg true [u8 l.a0, u8 l.a1, u8 l.a2, u8 l.a3, u8 l.a4, u8 c.a0, u8 c.a1, u8 c.a2, u8 c.a3, u8 c.a4], V.agg true [u8 1, i64 un, u8 ev], vb true])) (by kernel_rfl) ?_⟩
      first | (obtain rfl : M = 1 := (by simp_all); first | rfl | (simp [F5.inc, up8, *]; done) | (simp [F5.inc, up8, *]; omega)) | (exact ⟨3, (by omega), 2, k, rfl, (by omega), hk, (by simp_all), (by omega)⟩) | (exact ⟨3, (by omega), 2, 1, rfl, (by omega), (by omega), (by simp_all), (by omega)⟩)
    simp only [decide_eq_false_iff_not] at hq8
    refine AWP.skip ?_
    refine AWP.region tcok hmix [] (os := []) (sf := St.mk [(2, tp (u8 inh)), (3, tp (V.ptr 3 0)), (4, tp (V.ptr 4 0)), (6, tp (V.ptr 6 0)), (7, tp (V.ptr 7 0)), (8, tp (vb false)), (9, tp (i64 1)), (10, tp (u8 2)), (20, tp (u8 1)), (21, tp (u8 2)), (36, tp (vb (decide (c.a1 < l.a1))))] [(3, Blk.mk [u8 l.a0, u8 l.a1, u8 l.a2, u8 l.a3, u8 l.a4, u8 c.a0, u8 c.a1, u8 c.a2, u8 c.a3, u8 c.a4] true 10 none), (4, Blk.mk [u8 lv, i64 un, u8 ev] true 3 none), (6, Blk.mk [u8 0, u8 0, u8 0, u8 0, u8 0, u8 0, u8 0, u8 0, u8 0, u8 0] true 10 none), (7, Blk.mk [u8 0, i64 0, u8 0] true 3 none)]) (by kernel_rfl) trivial ?_
    refine ⟨St.mk [(2, tp (u8 inh)), (3, tp (V.ptr 3 0)), (4, tp (V.ptr 4 0)), (6, tp (V.ptr 6 0)), (7, tp (V.ptr 7 0)), (8, tp (vb false)), (9, tp (i64 1)), (10, tp (u8 2))] [(3, Blk.mk [u8 l.a0, u8 l.a1, u8 l.a2, u8 l.a3, u8 l.a4, u8 c.a0, u8 c.a1, u8 c.a2, u8 c.a3, u8 c.a4] true 10 none), (4, Blk.mk [u8 lv, i64 un, u8 ev] true 3 none), (6, Blk.mk [u8 0, u8 0, u8 0, u8 0, u8 0, u8 0, u8 0, u8 0, u8 0, u8 0] true 10 none), (7, Blk.mk [u8 0, i64 0, u8 0] true 3 none)], by kernel_rfl, ?_⟩
    first | (obtain rfl : M = 1 := (by simp_all); first | rfl | (simp [F5.inc, up8, *]; done) | (simp [F5.inc, up8, *]; omega)) | (exact ⟨3, (by omega), 2, k, rfl, (by omega), hk, (by simp_all), (by omega)⟩) | (exact ⟨3, (by omega), 2, 1, rfl, (by omega), (by omega), (by simp_all), (by omega)⟩)
  · have hM3 : (if al inh 2 = true then (if c.a2 < l.a2 then 2 else lev inh l c 2 3 2) else lev inh l c 2 3 k) = M := hM2
    clear hM2
    refine AWP.seq ?_
    refine AWP.seq ?_
    refine AWP.regionT tcok hmix [] [2, 3, 4, 6, 7, 8, 9, 10, 19] [3, 4, 6, 7] (os := []) (s' := St.mk [(2, tp (u8 inh)), (3, tp (V.ptr 3 0)), (4, tp (V.ptr 4 0)), (6, tp (V.ptr 6 0)), (7, tp (V.ptr 7 0)), (8, tp (vb false)), (9, tp (i64 k)), (10, tp (u8 2)), (19, tp (vb true))] [(3, Blk.mk [u8 l.a0, u8 l.a1, u8 l.a2, u8 l.a3, u8 l.a4, u8 c.a0, u8 c.a1, u8 c.a2, u8 c.a3, u8 c.a4] true 10 none), (4, Blk.mk [u8 lv, i64 un, u8 ev] true 3 none), (6, Blk.mk [u8 0, u8 0, u8 0, u8 0, u8 0, u8 0, u8 0, u8 0, u8 0, u8 0] true 10 none), (7, Blk.mk [u8 0, i64 0, u8 0] true 3 none)]) (by kernel_rfl) trivial ?_
    refine AWP.cond (b := true) (by kernel_rfl) (fun _ => ?_) (fun h => by cases h)
    refine AWP.skip ?_
    refine AWP.seq ?_
    refine AWP.block ?_
    refine AWP.seq ?_
    refine AWP.seq ?_
    refine AWP.regionT tcok hmix [(2, ⟨none, some ⟨vb (al inh 2), [], []⟩⟩)] [2, 3, 4, 6, 7, 8, 9, 10, 25] [3, 4, 6, 7] (os := [Con Tryd.prog 40 [] [u8 inh, u8 2] [] (vb (al inh 2))]) (s' := St.mk [(2, tp (u8 inh)), (3, tp (V.ptr 3 0)), (4, tp (V.ptr 4 0)), (6, tp (V.ptr 6 0)), (7, tp (V.ptr 7 0)), (8, tp (vb false)), (9, tp (i64 k)), (10, tp (u8 2)), (25, tp (vb !al inh 2))] [(3, Blk.mk [u8 l.a0, u8 l.a1, u8 l.a2, u8 l.a3, u8 l.a4, u8 c.a0, u8 c.a1, u8 c.a2, u8 c.a3, u8 c.a4] true 10 none), (4, Blk.mk [u8 lv, i64 un, u8 ev] true 3 none), (6, Blk.mk [u8 0, u8 0, u8 0, u8 0, u8 0, u8 0, u8 0, u8 0, u8 0, u8 0] true 10 none), (7, Blk.mk [u8 0, i64 0, u8 0] true 3 none)]) (by kernel_rfl) ⟨(con_allowed (inh) (2) (by assumption) (by omega)), trivial⟩ ?_
    refine AWP.cond (b := !al inh 2) (by kernel_rfl) (fun hq12 => ?_) (fun hq12 => ?_)
    · simp only [Bool.not_eq_true'] at hq12
      refine AWP.exit ?_
      refine AWP.region tcok hmix [] (os := []) (sf := St.mk [(2, tp (u8 inh)), (3, tp (V.ptr 3 0)), (4, tp (V.ptr 4 0)), (6, tp (V.ptr 6 0)), (7, tp (V.ptr 7 0)), (8, tp (vb false)), (9, tp (i64 k)), (10, tp (u8 3)), (20, tp (u8 2)), (21, tp (u8 3)), (25, tp (vb !al inh 2))] [(3, Blk.mk [u8 l.a0, u8 l.a1, u8 l.a2, u8 l.a3, u8 l.a4, u8 c.a0, u8 c.a1, u8 c.a2, u8 c.a3, u8 c.a4] true 10 none), (4, Blk.mk [u8 lv, i64 un, u8 ev] true 3 none), (6, Blk.mk [u8 0, u8 0, u8 0, u8 0, u8 0, u8 0, u8 0, u8 0, u8 0, u8 0] true 10 none), (7, Blk.mk [u8 0, i64 0, u8 0] true 3 none)]) (by kernel_rfl) trivial ?_
      refine ⟨St.mk [(2, tp (u8 inh)), (3, tp (V.ptr 3 0)), (4, tp (V.ptr 4 0)), (6, tp (V.ptr 6 0)), (7, tp (V.ptr 7 0)), (8, tp (vb false)), (9, tp (i64 k)), (10, tp (u8 3))] [(3, Blk.mk [u8 l.a0, u8 l.a1, u8 l.a2, u8 l.a3, u8 l.a4, u8 c.a0, u8 c.a1, u8 c.a2, u8 c.a3, u8 c.a4] true 10 none), (4, Blk.mk [u8 lv, i64 un, u8 ev] true 3 none), (6, Blk.mk [u8 0, u8 0, u8 0, u8 0, u8 0, u8 0, u8 0, u8 0, u8 0, u8 0] true 10 none), (7, Blk.mk [u8 0, i64 0, u8 0] true 3 none)], by kernel_rfl, ?_⟩
      first | (obtain rfl : M = 2 := (by simp_all); first | rfl | (simp [F5.inc, up8, *]; done) | (simp [F5.inc, up8, *]; omega)) | (exact ⟨2, (by omega), 3, k, rfl, (by omega), hk, (by simp_all), (by omega)⟩) | (exact ⟨2, (by omega), 3, 2, rfl, (by omega), (by omega), (by simp_all), (by omega)⟩)
    simp only [Bool.not_eq_false'] at hq12
    refine AWP.skip ?_
    refine AWP.seq ?_
    refine AWP.regionT tcok hmix [] [2, 3, 4, 6, 7, 8, 9, 10] [3, 4, 6, 7] (os := []) (s' := St.mk [(2, tp (u8 inh)), (3, tp (V.ptr 3 0)), (4, tp (V.ptr 4 0)), (6, tp (V.ptr 6 0)), (7, tp (V.ptr 7 0)), (8, tp (vb false)), (9, tp (i64 2)), (10, tp (u8 2))] [(3, Blk.mk [u8 l.a0, u8 l.a1, u8 l.a2, u8 l.a3, u8 l.a4, u8 c.a0, u8 c.a1, u8 c.a2, u8 c.a3, u8 c.a4] true 10 none), (4, Blk.mk [u8 lv, i64 un, u8 ev] true 3 none), (6, Blk.mk [u8 0, u8 0, u8 0, u8 0, u8 0, u8 0, u8 0, u8 0, u8 0, u8 0] true 10 none), (7, Blk.mk [u8 0, i64 0, u8 0] true 3 none)]) (by kernel_rfl) trivial ?_
    refine AWP.seq ?_
    refine AWP.regionT tcok hmix [] [2, 3, 4, 6, 7, 8, 9, 10, 36] [3, 4, 6, 7] (os := []) (s' := St.mk [(2, tp (u8 inh)), (3, tp (V.ptr 3 0)), (4, tp (V.ptr 4 0)), (6, tp (V.ptr 6 0)), (7, tp (V.ptr 7 0)), (8, tp (vb false)), (9, tp (i64 2)), (10, tp (u8 2)), (36, tp (vb (decide (c.a2 < l.a2))))] [(3, Blk.mk [u8 l.a0, u8 l.a1, u8 l.a2, u8 l.a3, u8 l.a4, u8 c.a0, u8 c.a1, u8 c.a2, u8 c.a3, u8 c.a4] true 10 none), (4, Blk.mk [u8 lv, i64 un, u8 ev] true 3 none), (6, Blk.mk [u8 0, u8 0, u8 0, u8 0, u8 0, u8 0, u8 0, u8 0, u8 0, u8 0] true 10 none), (7, Blk.mk [u8 0, i64 0, u8 0] true 3 none)]) (by kernel_rfl) trivial ?_
    refine AWP.cond (b := decide (c.a2 < l.a2)) (by kernel_rfl) (fun hq13 => ?_) (fun hq13 => ?_)
    · simp only [decide_eq_true_eq] at hq13
      refine AWP.exit ?_
      refine AWP.seq ?_
      refine AWP.seq ?_
      refine AWP.regionT tcok hmix [] [3, 4, 6, 7, 8, 9, 38] [3, 4, 6, 7] (os := []) (s' := St.mk [(3, tp (V.ptr 3 0)), (4, tp (V.ptr 4 0)), (6, tp (V.ptr 6 0)), (7, tp (V.ptr 7 0)), (8, tp (vb false)), (9, tp (i64 2)), (38, tp (vb false))] [(3, Blk.mk [u8 l.a0, u8 l.a1, u8 l.a2, u8 l.a3, u8 l.a4, u8 c.a0, u8 c.a1, u8 c.a2, u8 c.a3, u8 c.a4] true 10 none), (4, Blk.mk [u8 lv, i64 un, u8 ev] true 3 none), (6, Blk.mk [u8 0, u8 0, u8 0, u8 0, u8 0, u8 0, u8 0, u8 0, u8 0, u8 0] true 10 none), (7, Blk.mk [u8 0, i64 0, u8 0] true 3 none)]) (by kernel_rfl) trivial ?_
      refine AWP.cond (b := false) (by kernel_rfl) (fun h => by cases h) (fun _ => ?_)
      refine AWP.skip ?_
      refine AWP.seq ?_
      refine AWP.seq ?_
      refine AWP.regionT tcok hmix [] [3, 4, 6, 7, 8, 9, 45] [3, 4, 6, 7] (os := []) (s' := St.mk [(3, tp (V.ptr 3 0)), (4, tp (V.ptr 4 0)), (6, tp (V.ptr 6 0)), (7, tp (V.ptr 7 0)), (8, tp (vb false)), (9, tp (i64 2)), (45, tp (vb (decide (c.a2 < 255))))] [(3, Blk.mk [u8 l.a0, u8 l.a1, u8 l.a2, u8 l.a3, u8 l.a4, u8 c.a0, u8 c.a1, u8 c.a2, u8 c.a3, u8 c.a4] true 10 none), (4, Blk.mk [u8 lv, i64 un, u8 ev] true 3 none), (6, Blk.mk [u8 0, u8 0, u8 0, u8 0, u8 0, u8 0, u8 0, u8 0, u8 0, u8 0] true 10 none), (7, Blk.mk [u8 0, i64 0, u8 0] true 3 none)]) (by kernel_rfl) trivial ?_
      refine AWP.cond (b := decide (c.a2 < 255)) (by kernel_rfl) (fun hq15 => ?_) (fun hq15 => ?_)
      · simp only [decide_eq_true_eq] at hq15
        refine AWP.regionT tcok hmix [(4, ⟨some (u8 (c.a2 + 1)), none⟩)] [3, 4, 6, 7, 8, 9] [3, 4, 6, 7] (os := [u8 (IntKind.wrap IntKind.u8 (c.a2 + 1)) = u8 (c.a2 + 1)]) (s' := St.mk [(3, tp (V.ptr 3 0)), (4, tp (V.ptr 4 0)), (6, tp (V.ptr 6 0)), (7, tp (V.ptr 7 0)), (8, tp (vb false)), (9, tp (i64 2))] [(3, Blk.mk [u8 l.a0, u8 l.a1, u8 l.a2, u8 l.a3, u8 l.a4, u8 c.a0, u8 c.a1, u8 (c.a2 + 1), u8 c.a3, u8 c.a4] true 10 none), (4, Blk.mk [u8 lv, i64 un, u8 ev] true 3 none), (6, Blk.mk [u8 0, u8 0, u8 0, u8 0, u8 0, u8 0, u8 0, u8 0, u8 0, u8 0] true 10 none), (7, Blk.mk [u8 0, i64 0, u8 0] true 3 none)]) (by kernel_rfl) ⟨(wr_u8 (by omega) (by omega)), trivial⟩ ?_
        refine AWP.seq ?_
        refine AWP.regionT tcok hmix [] [3, 4, 6, 7, 8] [3, 4, 6, 7] (os := []) (s' := St.mk [(3, tp (V.ptr 3 0)), (4, tp (V.ptr 4 0)), (6, tp (V.ptr 6 0)), (7, tp (V.ptr 7 0)), (8, tp (vb false))] [(3, Blk.mk [u8 l.a0, u8 l.a1, u8 l.a2, u8 l.a3, u8 l.a4, u8 c.a0, u8 c.a1, u8 (c.a2 + 1), u8 c.a3, u8 c.a4] true 10 none), (4, Blk.mk [u8 2, i64 un, u8 ev] true 3 none), (6, Blk.mk [u8 0, u8 0, u8 0, u8 0, u8 0, u8 0, u8 0, u8 0, u8 0, u8 0] true 10 none), (7, Blk.mk [u8 0, i64 0, u8 0] true 3 none)]) (by kernel_rfl) trivial ?_
        refine AWP.seq ?_
        refine AWP.regionT tcok hmix [] [6, 7, 8] [6, 7] (os := []) (s' := St.mk [(6, tp (V.ptr 6 0)), (7, tp (V.ptr 7 0)), (8, tp (vb true))] [(6, Blk.mk [u8 l.a0, u8 l.a1, u8 l.a2, u8 l.a3, u8 l.a4, u8 c.a0, u8 c.a1, u8 (c.a2 + 1), u8 c.a3, u8 c.a4] true 10 none), (7, Blk.mk [u8 2, i64 un, u8 ev] true 3 none)]) (by kernel_rfl) trivial ?_
        refine AWP.ret ?_
        refine ⟨Or.inr rfl, Eq.trans (b := some ([], V.tup [V.agg true [u8 l.a0, u8 l.a1, u8 l.a2, u8 l.a3, u8 l.a4, u8 c.a0, u8 c.a1, u8 (c.a2 + 1), u8 c.a3, u8 c.a4], V.agg true [u8 2, i64 un, u8 ev], vb true])) (by kernel_rfl) ?_⟩
        first | (obtain rfl : M = 2 := (by simp_all); first | rfl | (simp [F5.inc, up8, *]; done) | (simp [F5.inc, up8, *]; omega)) | (exact ⟨2, (by omega), 3, k, rfl, (by omega), hk, (by simp_all), (by omega)⟩) | (exact ⟨2, (by omega), 3, 2, rfl, (by omega), (by omega), (by simp_all), (by omega)⟩)
      simp only [decide_eq_false_iff_not] at hq15
      refine AWP.skip ?_
      refine AWP.seq ?_
      refine AWP.regionT tcok hmix [] [3, 4, 6, 7, 8] [3, 4, 6, 7] (os := []) (s' := St.mk [(3, tp (V.ptr 3 0)), (4, tp (V.ptr 4 0)), (6, tp (V.ptr 6 0)), (7, tp (V.ptr 7 0)), (8, tp (vb false))] [(3, Blk.mk [u8 l.a0, u8 l.a1, u8 l.a2, u8 l.a3, u8 l.a4, u8 c.a0, u8 c.a1, u8 c.a2, u8 c.a3, u8 c.a4] true 10 none), (4, Blk.mk [u8 2, i64 un, u8 ev] true 3 none), (6, Blk.mk [u8 0, u8 0, u8 0, u8 0, u8 0, u8 0, u8 0, u8 0, u8 0, u8 0] true 10 none), (7, Blk.mk [u8 0, i64 0, u8 0] true 3 none)]) (by kernel_rfl) trivial ?_
      refine AWP.seq ?_
      refine AWP.regionT tcok hmix [] [6, 7, 8] [6, 7] (os := []) (s' := St.mk [(6, tp (V.ptr 6 0)), (7, tp (V.ptr 7 0)), (8, tp (vb true))] [(6, Blk.mk [u8 l.a0, u8 l.a1, u8 l.a2, u8 l.a3, u8 l.a4, u8 c.a0, u8 c.a1, u8 c.a2, u8 c.a3, u8 c.a4] true 10 none), (7, Blk.mk [u8 2, i64 un, u8 ev] true 3 none)]) (by kernel_rfl) trivial ?_
      refine AWP.ret ?_
      refine ⟨Or.inr rfl, Eq.trans (b := some ([], V.tup [V.agg true [u8 l.a0, u8 l.a1, u8 l.a2, u8 l.a3, u8 l.a4, u8 c.a0, u8 c.a1, u8 c.a2, u8 c.a3, u8 c.a4], V.agg true [u8 2, i64 un, u8 ev], vb true])) (by kernel_rfl) ?_⟩
      first | (obtain rfl : M = 2 := (by simp_all); first | rfl | (simp [F5.inc, up8, *]; done) | (simp [F5.inc, up8, *]; omega)) | (exact ⟨2, (by omega), 3, k, rfl, (by omega), hk, (by simp_all), (by omega)⟩) | (exact ⟨2, (by omega), 3, 2, rfl, (by omega), (by omega), (by simp_all), (by omega)⟩)
    simp only [decide_eq_false_iff_not] at hq13
    refine AWP.skip ?_
    refine AWP.region tcok hmix [] (os := []) (sf := St.mk [(2, tp (u8 inh)), (3, tp (V.ptr 3 0)), (4, tp (V.ptr 4 0)), (6, tp (V.ptr 6 0)), (7, tp (V.ptr 7 0)), (8, tp (vb false)), (9, tp (i64 2)), (10, tp (u8 3)), (20, tp (u8 2)), (21, tp (u8 3)), (36, tp (vb (decide (c.a2 < l.a2))))] [(3, Blk.mk [u8 l.a0, u8 l.a1, u8 l.a2, u8 l.a3, u8 l.a4, u8 c.a0, u8 c.a1, u8 c.a2, u8 c.a3, u8 c.a4] true 10 none), (4, Blk.mk [u8 lv, i64 un, u8 ev] true 3 none), (6, Blk.mk [u8 0, u8 0, u8 0, u8 0, u8 0, u8 0, u8 0, u8 0, u8 0, u8 0] true 10 none), (7, Blk.mk [u8 0, i64 0, u8 0] true 3 none)]) (by kernel_rfl) trivial ?_
    refine ⟨St.mk [(2, tp (u8 inh)), (3, tp (V.ptr 3 0)), (4, tp (V.ptr 4 0)), (6, tp (V.ptr 6 0)), (7, tp (V.ptr 7 0)), (8, tp (vb false)), (9, tp (i64 2)), (10, tp (u8 3))] [(3, Blk.mk [u8 l.a0, u8 l.a1, u8 l.a2, u8 l.a3, u8 l.a4, u8 c.a0, u8 c.a1, u8 c.a2, u8 c.a3, u8 c.a4] true 10 none), (4, Blk.mk [u8 lv, i64 un, u8 ev] true 3 none), (6, Blk.mk [u8 0, u8 0, u8 0, u8 0, u8 0, u8 0, u8 0, u8 0, u8 0, u8 0] true 10 none), (7, Blk.mk [u8 0, i64 0, u8 0] true 3 none)], by kernel_rfl, ?_⟩
    first | (obtain rfl : M = 2 := (by simp_all); first | rfl | (simp [F5.inc, up8, *]; done) | (simp [F5.inc, up8, *]; omega)) | (exact ⟨2, (by omega), 3, k, rfl, (by omega), hk, (by simp_all), (by omega)⟩) | (exact ⟨2, (by omega), 3, 2, rfl, (by omega), (by omega), (by simp_all), (by omega)⟩)
  · have hM3 : (if al inh 3 = true then (if c.a3 < l.a3 then 3 else lev inh l c 1 4 3) else lev inh l c 1 4 k) = M := hM2
    clear hM2
    refine AWP.seq ?_
    refine AWP.seq ?_
    refine AWP.regionT tcok hmix [] [2, 3, 4, 6, 7, 8, 9, 10, 19] [3, 4, 6, 7] (os := []) (s' := St.mk [(2, tp (u8 inh)), (3, tp (V.ptr 3 0)), (4, tp (V.ptr 4 0)), (6, tp (V.ptr 6 0)), (7, tp (V.ptr 7 0)), (8, tp (vb false)), (9, tp (i64 k)), (10, tp (u8 3)), (19, tp (vb true))] [(3, Blk.mk [u8 l.a0, u8 l.a1, u8 l.a2, u8 l.a3, u8 l.a4, u8 c.a0, u8 c.a1, u8 c.a2, u8 c.a3, u8 c.a4] true 10 none), (4, Blk.mk [u8 lv, i64 un, u8 ev] true 3 none), (6, Blk.mk [u8 0, u8 0, u8 0, u8 0, u8 0, u8 0, u8 0, u8 0, u8 0, u8 0] true 10 none), (7, Blk.mk [u8 0, i64 0, u8 0] true 3 none)]) (by kernel_rfl) trivial ?_
    refine AWP.cond (b := true) (by kernel_rfl) (fun _ => ?_) (fun h => by cases h)
    refine AWP.skip ?_
    refine AWP.seq ?_
    refine AWP.block ?_
    refine AWP.seq ?_
    refine AWP.seq ?_
    refine AWP.regionT tcok hmix [(2, ⟨none, some ⟨vb (al inh 3), [], []⟩⟩)] [2, 3, 4, 6, 7, 8, 9, 10, 25] [3, 4, 6, 7] (os := [Con Tryd.prog 40 [] [u8 inh, u8 3] [] (vb (al inh 3))]) (s' := St.mk [(2, tp (u8 inh)), (3, tp (V.ptr 3 0)), (4, tp (V.ptr 4 0)), (6, tp (V.ptr 6 0)), (7, tp (V.ptr 7 0)), (8, tp (vb false)), (9, tp (i64 k)), (10, tp (u8 3)), (25, tp (vb !al inh 3))] [(3, Blk.mk [u8 l.a0, u8 l.a1, u8 l.a2, u8 l.a3, u8 l.a4, u8 c.a0, u8 c.a1, u8 c.a2, u8 c.a3, u8 c.a4] true 10 none), (4, Blk.mk [u8 lv, i64 un, u8 ev] true 3 none), (6, Blk.mk [u8 0, u8 0, u8 0, u8 0, u8 0, u8 0, u8 0, u8 0, u8 0, u8 0] true 10 none), (7, Blk.mk [u8 0, i64 0, u8 0] true 3 none)]) (by kernel_rfl) ⟨(con_allowed (inh) (3) (by assumption) (by omega)), trivial⟩ ?_
    refine AWP.cond (b := !al inh 3) (by kernel_rfl) (fun hq17 => ?_) (fun hq17 => ?_)
    · simp only [Bool.not_eq_true'] at hq17
      refine AWP.exit ?_
      refine AWP.region tcok hmix [] (os := []) (sf := St.mk [(2, tp (u8 inh)), (3, tp (V.ptr 3 0)), (4, tp (V.ptr 4 0)), (6, tp (V.ptr 6 0)), (7, tp (V.ptr 7 0)), (8, tp (vb false)), (9, tp (i64 k)), (10, tp (u8 4)), (20, tp (u8 3)), (21, tp (u8 4)), (25, tp (vb !al inh 3))] [(3, Blk.mk [u8 l.a0, u8 l.a1, u8 l.a2, u8 l.a3, u8 l.a4, u8 c.a0, u8 c.a1, u8 c.a2, u8 c.a3, u8 c.a4] true 10 none), (4, Blk.mk [u8 lv, i64 un, u8 ev] true 3 none), (6, Blk.mk [u8 0, u8 0, u8 0, u8 0, u8 0, u8 0, u8 0, u8 0, u8 0, u8 0] true 10 none), (7, Blk.mk [u8 0, i64 0, u8 0] true 3 none)]) (by kernel_rfl) trivial ?_
      refine ⟨St.mk [(2, tp (u8 inh)), (3, tp (V.ptr 3 0)), (4, tp (V.ptr 4 0)), (6, tp (V.ptr 6 0)), (7, tp (V.ptr 7 0)), (8, tp (vb false)), (9, tp (i64 k)), (10, tp (u8 4))] [(3, Blk.mk [u8 l.a0, u8 l.a1, u8 l.a2, u8 l.a3, u8 l.a4, u8 c.a0, u8 c.a1, u8 c.a2, u8 c.a3, u8 c.a4] true 10 none), (4, Blk.mk [u8 lv, i64 un, u8 ev] true 3 none), (6, Blk.mk [u8 0, u8 0, u8 0, u8 0, u8 0, u8 0, u8 0, u8 0, u8 0, u8 0] true 10 none), (7, Blk.mk [u8 0, i64 0, u8 0] true 3 none)], by kernel_rfl, ?_⟩
      first | (obtain rfl : M = 3 := (by simp_all); first | rfl | (simp [F5.inc, up8, *]; done) | (simp [F5.inc, up8, *]; omega)) | (exact ⟨1, (by omega), 4, k, rfl, (by omega), hk, (by simp_all), (by omega)⟩) | (exact ⟨1, (by omega), 4, 3, rfl, (by omega), (by omega), (by simp_all), (by omega)⟩)
    simp only [Bool.not_eq_false'] at hq17
    refine AWP.skip ?_
    refine AWP.seq ?_
    refine AWP.regionT tcok hmix [] [2, 3, 4, 6, 7, 8, 9, 10] [3, 4, 6, 7] (os := []) (s' := St.mk [(2, tp (u8 inh)), (3, tp (V.ptr 3 0)), (4, tp (V.ptr 4 0)), (6, tp (V.ptr 6 0)), (7, tp (V.ptr 7 0)), (8, tp (vb false)), (9, tp (i64 3)), (10, tp (u8 3))] [(3, Blk.mk [u8 l.a0, u8 l.a1, u8 l.a2, u8 l.a3, u8 l.a4, u8 c.a0, u8 c.a1, u8 c.a2, u8 c.a3, u8 c.a4] true 10 none), (4, Blk.mk [u8 lv, i64 un, u8 ev] true 3 none), (6, Blk.mk [u8 0, u8 0, u8 0, u8 0, u8 0, u8 0, u8 0, u8 0, u8 0, u8 0] true 10 none), (7, Blk.mk [u8 0, i64 0, u8 0] true 3 none)]) (by kernel_rfl) trivial ?_
    refine AWP.seq ?_
    refine AWP.regionT tcok hmix [] [2, 3, 4, 6, 7, 8, 9, 10, 36] [3, 4, 6, 7] (os := []) (s' := St.mk [(2, tp (u8 inh)), (3, tp (V.ptr 3 0)), (4, tp (V.ptr 4 0)), (6, tp (V.ptr 6 0)), (7, tp (V.ptr 7 0)), (8, tp (vb false)), (9, tp (i64 3)), (10, tp (u8 3)), (36, tp (vb (decide (c.a3 < l.a3))))] [(3, Blk.mk [u8 l.a0, u8 l.a1, u8 l.a2, u8 l.a3, u8 l.a4, u8 c.a0, u8 c.a1, u8 c.a2, u8 c.a3, u8 c.a4] true 10 none), (4, Blk.mk [u8 lv, i64 un, u8 ev] true 3 none), (6, Blk.mk [u8 0, u8 0, u8 0, u8 0, u8 0, u8 0, u8 0, u8 0, u8 0, u8 0] true 10 none), (7, Blk.mk [u8 0, i64 0, u8 0] true 3 none)]) (by kernel_rfl) trivial ?_
    refine AWP.cond (b := decide (c.a3 < l.a3)) (by kernel_rfl) (fun hq18 => ?_) (fun hq18 => ?_)
    · simp only [decide_eq_true_eq] at hq18
      refine AWP.exit ?_
      refine AWP.seq ?_
      refine AWP.seq ?_
      refine AWP.regionT tcok hmix [] [3, 4, 6, 7, 8, 9, 38] [3, 4, 6, 7] (os := []) (s' := St.mk [(3, tp (V.ptr 3 0)), (4, tp (V.ptr 4 0)), (6, tp (V.ptr 6 0)), (7, tp (V.ptr 7 0)), (8, tp (vb false)), (9, tp (i64 3)), (38, tp (vb false))] [(3, Blk.mk [u8 l.a0, u8 l.a1, u8 l.a2, u8 l.a3, u8 l.a4, u8 c.a0, u8 c.a1, u8 c.a2, u8 c.a3, u8 c.a4] true 10 none), (4, Blk.mk [u8 lv, i64 un, u8 ev] true 3 none), (6, Blk.mk [u8 0, u8 0, u8 0, u8 0, u8 0, u8 0, u8 0, u8 0, u8 0, u8 0] true 10 none), (7, Blk.mk [u8 0, i64 0, u8 0] true 3 none)]) (by kernel_rfl) trivial ?_
      refine AWP.cond (b := false) (by kernel_rfl) (fun h => by cases h) (fun _ => ?_)
      refine AWP.skip ?_
      refine AWP.seq ?_
      refine AWP.seq ?_
      refine AWP.regionT tcok hmix [] [3, 4, 6, 7, 8, 9, 45] [3, 4, 6, 7] (os := []) (s' := St.mk [(3, tp (V.ptr 3 0)), (4, tp (V.ptr 4 0)), (6, tp (V.ptr 6 0)), (7, tp (V.ptr 7 0)), (8, tp (vb false)), (9, tp (i64 3)), (45, tp (vb (decide (c.a3 < 255))))] [(3, Blk.mk [u8 l.a0, u8 l.a1, u8 l.a2, u8 l.a3, u8 l.a4, u8 c.a0, u8 c.a1, u8 c.a2, u8 c.a3, u8 c.a4] true 10 none), (4, Blk.mk [u8 lv, i64 un, u8 ev] true 3 none), (6, Blk.mk [u8 0, u8 0, u8 0, u8 0, u8 0, u8 0, u8 0, u8 0, u8 0, u8 0] true 10 none), (7, Blk.mk [u8 0, i64 0, u8 0] true 3 none)]) (by kernel_rfl) trivial ?_
      refine AWP.cond (b := decide (c.a3 < 255)) (by kernel_rfl) (fun hq20 => ?_) (fun hq20 => ?_)
      · simp only [decide_eq_true_eq] at hq20
        refine AWP.regionT tcok hmix [(4, ⟨some (u8 (c.a3 + 1)), none⟩)] [3, 4, 6, 7, 8, 9] [3, 4, 6, 7] (os := [u8 (IntKind.wrap IntKind.u8 (c.a3 + 1)) = u8 (c.a3 + 1)]) (s' := St.mk [(3, tp (V.ptr 3 0)), (4, tp (V.ptr 4 0)), (6, tp (V.ptr 6 0)), (7, tp (V.ptr 7 0)), (8, tp (vb false)), (9, tp (i64 3))] [(3, Blk.mk [u8 l.a0, u8 l.a1, u8 l.a2, u8 l.a3, u8 l.a4, u8 c.a0, u8 c.a1, u8 c.a2, u8 (c.a3 + 1), u8 c.a4] true 10 none), (4, Blk.mk [u8 lv, i64 un, u8 ev] true 3 none), (6, Blk.mk [u8 0, u8 0, u8 0, u8 0, u8 0, u8 0, u8 0, u8 0, u8 0, u8 0] true 10 none), (7, Blk.mk [u8 0, i64 0, u8 0] true 3 none)]) (by kernel_rfl) ⟨(wr_u8 (by omega) (by omega)), trivial⟩ ?_
        refine AWP.seq ?_
        refine AWP.regionT tcok hmix [] [3, 4, 6, 7, 8] [3, 4, 6, 7] (os := []) (s' := St.mk [(3, tp (V.ptr 3 0)), (4, tp (V.ptr 4 0)), (6, tp (V.ptr 6 0)), (7, tp (V.ptr 7 0)), (8, tp (vb false))] [(3, Blk.mk [u8 l.a0, u8 l.a1, u8 l.a2, u8 l.a3, u8 l.a4, u8 c.a0, u8 c.a1, u8 c.a2, u8 (c.a3 + 1), u8 c.a4] true 10 none), (4, Blk.mk [u8 3, i64 un, u8 ev] true 3 none), (6, Blk.mk [u8 0, u8 0, u8 0, u8 0, u8 0, u8 0, u8 0, u8 0, u8 0, u8 0] true 10 none), (7, Blk.mk [u8 0, i64 0, u8 0] true 3 none)]) (by kernel_rfl) trivial ?_
        refine AWP.seq ?_
        refine AWP.regionT tcok hmix [] [6, 7, 8] [6, 7] (os := []) (s' := St.mk [(6, tp (V.ptr 6 0)), (7, tp (V.ptr 7 0)), (8, tp (vb true))] [(6, Blk.mk [u8 l.a0, u8 l.a1, u8 l.a2, u8 l.a3, u8 l.a4, u8 c.a0, u8 c.a1, u8 c.a2, u8 (c.a3 + 1), u8 c.a4] true 10 none), (7, Blk.mk [u8 3, i64 un, u8 ev] true 3 none)]) (by kernel_rfl) trivial ?_
        refine AWP.ret ?_
        refine ⟨Or.inr rfl, Eq.trans (b := some ([], V.tup [V.agg true [u8 l.a0, u8 l.a1, u8 l.a2, u8 l.a3, u8 l.a4, u8 c.a0, u8 c.a1, u8 c.a2, u8 (c.a3 + 1), u8 c.a4], V.agg true [u8 3, i64 un, u8 ev], vb true])) (by kernel_rfl) ?_⟩
        first | (obtain rfl : M = 3 := (by simp_all); first | rfl | (simp [F5.inc, up8, *]; done) | (simp [F5.inc, up8, *]; omega)) | (exact ⟨1, (by omega), 4, k, rfl, (by omega), hk, (by simp_all), (by omega)⟩) | (exact ⟨1, (by omega), 4, 3, rfl, (by omega), (by omega), (by simp_all), (by omega)⟩)
      simp only [decide_eq_false_iff_not] at hq20
      refine AWP.skip ?_
      refine AWP.seq ?_
      refine AWP.regionT tcok hmix [] [3, 4, 6, 7, 8] [3, 4, 6, 7] (os := []) (s' := St.mk [(3, tp (V.ptr 3 0)), (4, tp (V.ptr 4 0)), (6, tp (V.ptr 6 0)), (7, tp (V.ptr 7 0)), (8, tp (vb false))] [(3, Blk.mk [u8 l.a0, u8 l.a1, u8 l.a2, u8 l.a3, u8 l.a4, u8 c.a0, u8 c.a1, u8 c.a2, u8 c.a3, u8 c.a4] true 10 none), (4, Blk.mk [u8 3, i64 un, u8 ev] true 3 none), (6, Blk.mk [u8 0, u8 0, u8 0, u8 0, u8 0, u8 0, u8 0, u8 0, u8 0, u8 0] true 10 none), (7, Blk.mk [u8 0, i64 0, u8 0] true 3 none)]) (by kernel_rfl) trivial ?_
      refine AWP.seq ?_
      refine AWP.regionT tcok hmix [] [6, 7, 8] [6, 7] (os := []) (s' := St.mk [(6, tp (V.ptr 6 0)), (7, tp (V.ptr 7 0)), (8, tp (vb true))] [(6, Blk.mk [u8 l.a0, u8 l.a1, u8 l.a2, u8 l.a3, u8 l.a4, u8 c.a0, u8 c.a1, u8 c.a2, u8 c.a3, u8 c.a4] true 10 none), (7, Blk.mk [u8 3, i64 un, u8 ev] true 3 none)]) (by kernel_rfl) trivial ?_
      refine AWP.ret ?_
      refine ⟨Or.inr rfl, Eq.trans (b := some ([], V.tup [V.agg true [u8 l.a0, u8 l.a1, u8 l.a2, u8 l.a3, u8 l.a4, u8 c.a0, u8 c.a1, u8 c.a2, u8 c.a3, u8 c.a4], V.agg true [u8 3, i64 un, u8 ev], vb true])) (by kernel_rfl) ?_⟩
      first | (obtain rfl : M = 3 := (by simp_all); first | rfl | (simp [F5.inc, up8, *]; done) | (simp [F5.inc, up8, *]; omega)) | (exact ⟨1, (by omega), 4, k, rfl, (by omega), hk, (by simp_all), (by omega)⟩) | (exact ⟨1, (by omega), 4, 3, rfl, (by omega), (by omega), (by simp_all), (by omega)⟩)
    simp only [decide_eq_false_iff_not] at hq18
    refine AWP.skip ?_
    refine AWP.region tcok hmix [] (os := []) (sf := St.mk [(2, tp (u8 inh)), (3, tp (V.ptr 3 0)), (4, tp (V.ptr 4 0)), (6, tp (V.ptr 6 0)), (7, tp (V.ptr 7 0)), (8, tp (vb false)), (9, tp (i64 3)), (10, tp (u8 4)), (20, tp (u8 3)), (21, tp (u8 4)), (36, tp (vb (decide (c.a3 < l.a3))))] [(3, Blk.mk [u8 l.a0, u8 l.a1, u8 l.a2, u8 l.a3, u8 l.a4, u8 c.a0, u8 c.a1, u8 c.a2, u8 c.a3, u8 c.a4] true 10 none), (4, Blk.mk [u8 lv, i64 un, u8 ev] true 3 none), (6, Blk.mk [u8 0, u8 0, u8 0, u8 0, u8 0, u8 0, u8 0, u8 0, u8 0, u8 0] true 10 none), (7, Blk.mk [u8 0, i64 0, u8 0] true 3 none)]) (by kernel_rfl) trivial ?_
    refine ⟨St.mk [(2, tp (u8 inh)), (3, tp (V.ptr 3 0)), (4, tp (V.ptr 4 0)), (6, tp (V.ptr 6 0)), (7, tp (V.ptr 7 0)), (8, tp (vb false)), (9, tp (i64 3)), (10, tp (u8 4))] [(3, Blk.mk [u8 l.a0, u8 l.a1, u8 l.a2, u8 l.a3, u8 l.a4, u8 c.a0, u8 c.a1, u8 c.a2, u8 c.a3, u8 c.a4] true 10 none), (4, Blk.mk [u8 lv, i64 un, u8 ev] true 3 none), (6, Blk.mk [u8 0, u8 0, u8 0, u8 0, u8 0, u8 0, u8 0, u8 0, u8 0, u8 0] true 10 none), (7, Blk.mk [u8 0, i64 0, u8 0] true 3 none)], by kernel_rfl, ?_⟩
    first | (obtain rfl : M = 3 := (by simp_all); first | rfl | (simp [F5.inc, up8, *]; done) | (simp [F5.inc, up8, *]; omega)) | (exact ⟨1, (by omega), 4, k, rfl, (by omega), hk, (by simp_all), (by omega)⟩) | (exact ⟨1, (by omega), 4, 3, rfl, (by omega), (by omega), (by simp_all), (by omega)⟩)
  · have hM3 : (if al inh 4 = true then (if c.a4 < l.a4 then 4 else lev inh l c 0 5 4) else lev inh l c 0 5 k) = M := hM2
    clear hM2
    refine AWP.seq ?_
    refine AWP.seq ?_
    refine AWP.regionT tcok hmix [] [2, 3, 4, 6, 7, 8, 9, 10, 19] [3, 4, 6, 7] (os := []) (s' := St.mk [(2, tp (u8 inh)), (3, tp (V.ptr 3 0)), (4, tp (V.ptr 4 0)), (6, tp (V.ptr 6 0)), (7, tp (V.ptr 7 0)), (8, tp (vb false)), (9, tp (i64 k)), (10, tp (u8 4)), (19, tp (vb true))] [(3, Blk.mk [u8 l.a0, u8 l.a1, u8 l.a2, u8 l.a3, u8 l.a4, u8 c.a0, u8 c.a1, u8 c.a2, u8 c.a3, u8 c.a4] true 10 none), (4, Blk.mk [u8 lv, i64 un, u8 ev] true 3 none), (6, Blk.mk [u8 0, u8 0, u8 0, u8 0, u8 0, u8 0, u8 0, u8 0, u8 0, u8 0] true 10 none), (7, Blk.mk [u8 0, i64 0, u8 0] true 3 none)]) (by kernel_rfl) trivial ?_
    refine AWP.cond (b := true) (by kernel_rfl) (fun _ => ?_) (fun h => by cases h)
    refine AWP.skip ?_
    refine AWP.seq ?_
    refine AWP.block ?_
    refine AWP.seq ?_
    refine AWP.seq ?_
    refine AWP.regionT tcok hmix [(2, ⟨none, some ⟨vb (al inh 4), [], []⟩⟩)] [2, 3, 4, 6, 7, 8, 9, 10, 25] [3, 4, 6, 7] (os := [Con Tryd.prog 40 [] [u8 inh, u8 4] [] (vb (al inh 4))]) (s' := St.mk [(2, tp (u8 inh)), (3, tp (V.ptr 3 0)), (4, tp (V.ptr 4 0)), (6, tp (V.ptr 6 0)), (7, tp (V.ptr 7 0)), (8, tp (vb false)), (9, tp (i64 k)), (10, tp (u8 4)), (25, tp (vb !al inh 4))] [(3, Blk.mk [u8 l.a0, u8 l.a1, u8 l.a2, u8 l.a3, u8 l.a4, u8 c.a0, u8 c.a1, u8 c.a2, u8 c.a3, u8 c.a4] true 10 none), (4, Blk.mk [u8 lv, i64 un, u8 ev] true 3 none), (6, Blk.mk [u8 0, u8 0, u8 0, u8 0, u8 0, u8 0, u8 0, u8 0, u8 0, u8 0] true 10 none), (7, Blk.mk [u8 0, i64 0, u8 0] true 3 none)]) (by kernel_rfl) ⟨(con_allowed (inh) (4) (by assumption) (by omega)), trivial⟩ ?_
    refine AWP.cond (b := !al inh 4) (by kernel_rfl) (fun hq22 => ?_) (fun hq22 => ?_)
    · simp only [Bool.not_eq_true'] at hq22
      refine AWP.exit ?_
      refine AWP.region tcok hmix [] (os := []) (sf := St.mk [(2, tp (u8 inh)), (3, tp (V.ptr 3 0)), (4, tp (V.ptr 4 0)), (6, tp (V.ptr 6 0)), (7, tp (V.ptr 7 0)), (8, tp (vb false)), (9, tp (i64 k)), (10, tp (u8 5)), (20, tp (u8 4)), (21, tp (u8 5)), (25, tp (vb !al inh 4))] [(3, Blk.mk [u8 l.a0, u8 l.a1, u8 l.a2, u8 l.a3, u8 l.a4, u8 c.a0, u8 c.a1, u8 c.a2, u8 c.a3, u8 c.a4] true 10 none), (4, Blk.mk [u8 lv, i64 un, u8 ev] true 3 none), (6, Blk.mk [u8 0, u8 0, u8 0, u8 0, u8 0, u8 0, u8 0, u8 0, u8 0, u8 0] true 10 none), (7, Blk.mk [u8 0, i64 0, u8 0] true 3 none)]) (by kernel_rfl) trivial ?_
      refine ⟨St.mk [(2, tp (u8 inh)), (3, tp (V.ptr 3 0)), (4, tp (V.ptr 4 0)), (6, tp (V.ptr 6 0)), (7, tp (V.ptr 7 0)), (8, tp (vb false)), (9, tp (i64 k)), (10, tp (u8 5))] [(3, Blk.mk [u8 l.a0, u8 l.a1, u8 l.a2, u8 l.a3, u8 l.a4, u8 c.a0, u8 c.a1, u8 c.a2, u8 c.a3, u8 c.a4] true 10 none), (4, Blk.mk [u8 lv, i64 un, u8 ev] true 3 none), (6, Blk.mk [u8 0, u8 0, u8 0, u8 0, u8 0, u8 0, u8 0, u8 0, u8 0, u8 0] true 10 none), (7, Blk.mk [u8 0, i64 0, u8 0] true 3 none)], by kernel_rfl, ?_⟩
      first | (obtain rfl : M = 4 := (by simp_all); first | rfl | (simp [F5.inc, up8, *]; done) | (simp [F5.inc, up8, *]; omega)) | (exact ⟨0, (by omega), 5, k, rfl, (by omega), hk, (by simp_all), (by omega)⟩) | (exact ⟨0, (by omega), 5, 4, rfl, (by omega), (by omega), (by simp_all), (by omega)⟩)
    simp only [Bool.not_eq_false'] at hq22
    refine AWP.skip ?_
    refine AWP.seq ?_
    refine AWP.regionT tcok hmix [] [2, 3, 4, 6, 7, 8, 9, 10] [3, 4, 6, 7] (os := []) (s' := St.mk [(2, tp (u8 inh)), (3, tp (V.ptr 3 0)), (4, tp (V.ptr 4 0)), (6, tp (V.ptr 6 0)), (7, tp (V.ptr 7 0)), (8, tp (vb false)), (9, tp (i64 4)), (10, tp (u8 4))] [(3, Blk.mk [u8 l.a0, u8 l.a1, u8 l.a2, u8 l.a3, u8 l.a4, u8 c.a0, u8 c.a1, u8 c.a2, u8 c.a3, u8 c.a4] true 10 none), (4, Blk.mk [u8 lv, i64 un, u8 ev] true 3 none), (6, Blk.mk [u8 0, u8 0, u8 0, u8 0, u8 0, u8 0, u8 0, u8 0, u8 0, u8 0] true 10 none), (7, Blk.mk [u8 0, i64 0, u8 0] true 3 none)]) (by kernel_rfl) trivial ?_
    refine AWP.seq ?_
    refine AWP.regionT tcok hmix [] [2, 3, 4, 6, 7, 8, 9, 10, 36] [3, 4, 6, 7] (os := []) (s' := St.mk [(2, tp (u8 inh)), (3, tp (V.ptr 3 0)), (4, tp (V.ptr 4 0)), (6, tp (V.ptr 6 0)), (7, tp (V.ptr 7 0)), (8, tp (vb false)), (9, tp (i64 4)), (10, tp (u8 4)), (36, tp (vb (decide (c.a4 < l.a4))))] [(3, Blk.mk [u8 l.a0, u8 l.a1, u8 l.a2, u8 l.a3, u8 l.a4, u8 c.a0, u8 c.a1, u8 c.a2, u8 c.a3, u8 c.a4] true 10 none), (4, Blk.mk [u8 lv, i64 un, u8 ev] true 3 none), (6, Blk.mk [u8 0, u8 0, u8 0, u8 0, u8 0, u8 0, u8 0, u8 0, u8 0, u8 0] true 10 none), (7, Blk.mk [u8 0, i64 0, u8 0] true 3 none)]) (by kernel_rfl) trivial ?_
    refine AWP.cond (b := decide (c.a4 < l.a4)) (by kernel_rfl) (fun hq23 => ?_) (fun hq23 => ?_)
    · simp only [decide_eq_true_eq] at hq23
      refine AWP.exit ?_
      refine AWP.seq ?_
      refine AWP.seq ?_
      refine AWP.regionT tcok hmix [] [3, 4, 6, 7, 8, 9, 38] [3, 4, 6, 7] (os := []) (s' := St.mk [(3, tp (V.ptr 3 0)), (4, tp (V.ptr 4 0)), (6, tp (V.ptr 6 0)), (7, tp (V.ptr 7 0)), (8, tp (vb false)), (9, tp (i64 4)), (38, tp (vb false))] [(3, Blk.mk [u8 l.a0, u8 l.a1, u8 l.a2, u8 l.a3, u8 l.a4, u8 c.a0, u8 c.a1, u8 c.a2, u8 c.a3, u8 c.a4] true 10 none), (4, Blk.mk [u8 lv, i64 un, u8 ev] true 3 none), (6, Blk.mk [u8 0, u8 0, u8 0, u8 0, u8 0, u8 0, u8 0, u8 0, u8 0, u8 0] true 10 none), (7, Blk.mk [u8 0, i64 0, u8 0] true 3 none)]) (by kernel_rfl) trivial ?_
      refine AWP.cond (b := false) (by kernel_rfl) (fun h => by cases h) (fun _ => ?_)
      refine AWP.skip ?_
      refine AWP.seq ?_
      refine AWP.seq ?_
      refine AWP.regionT tcok hmix [] [3, 4, 6, 7, 8, 9, 45] [3, 4, 6, 7] (os := []) (s' := St.mk [(3, tp (V.ptr 3 0)), (4, tp (V.ptr 4 0)), (6, tp (V.ptr 6 0)), (7, tp (V.ptr 7 0)), (8, tp (vb false)), (9, tp (i64 4)), (45, tp (vb (decide (c.a4 < 255))))] [(3, Blk.mk [u8 l.a0, u8 l.a1, u8 l.a2, u8 l.a3, u8 l.a4, u8 c.a0, u8 c.a1, u8 c.a2, u8 c.a3, u8 c.a4] true 10 none), (4, Blk.mk [u8 lv, i64 un, u8 ev] true 3 none), (6, Blk.mk [u8 0, u8 0, u8 0, u8 0, u8 0, u8 0, u8 0, u8 0, u8 0, u8 0] true 10 none), (7, Blk.mk [u8 0, i64 0, u8 0] true 3 none)]) (by kernel_rfl) trivial ?_
      refine AWP.cond (b := decide (c.a4 < 255)) (by kernel_rfl) (fun hq25 => ?_) (fun hq25 => ?_)
      · simp only [decide_eq_true_eq] at hq25
        refine AWP.regionT tcok hmix [(4, ⟨some (u8 (c.a4 + 1)), none⟩)] [3, 4, 6, 7, 8, 9] [3, 4, 6, 7] (os := [u8 (IntKind.wrap IntKind.u8 (c.a4 + 1)) = u8 (c.a4 + 1)]) (s' := St.mk [(3, tp (V.ptr 3 0)), (4, tp (V.ptr 4 0)), (6, tp (V.ptr 6 0)), (7, tp (V.ptr 7 0)), (8, tp (vb false)), (9, tp (i64 4))] [(3, Blk.mk [u8 l.a0, u8 l.a1, u8 l.a2, u8 l.a3, u8 l.a4, u8 c.a0, u8 c.a1, u8 c.a2, u8 c.a3, u8 (c.a4 + 1)] true 10 none), (4, Blk.mk [u8 lv, i64 un, u8 ev] true 3 none), (6, Blk.mk [u8 0, u8 0, u8 0, u8 0, u8 0, u8 0, u8 0, u8 0, u8 0, u8 0] true 10 none), (7, Blk.mk [u8 0, i64 0, u8 0] true 3 none)]) (by kernel_rfl) ⟨(wr_u8 (by omega) (by omega)), trivial⟩ ?_
        refine AWP.seq ?_
        refine AWP.regionT tcok hmix [] [3, 4, 6, 7, 8] [3, 4, 6, 7] (os := []) (s' := St.mk [(3, tp (V.ptr 3 0)), (4, tp (V.ptr 4 0)), (6, tp (V.ptr 6 0)), (7, tp (V.ptr 7 0)), (8, tp (vb false))] [(3, Blk.mk [u8 l.a0, u8 l.a1, u8 l.a2, u8 l.a3, u8 l.a4, u8 c.a0, u8 c.a1, u8 c.a2, u8 c.a3, u8 (c.a4 + 1)] true 10 none), (4, Blk.mk [u8 4, i64 un, u8 ev] true 3 none), (6, Blk.mk [u8 0, u8 0, u8 0, u8 0, u8 0, u8 0, u8 0, u8 0, u8 0, u8 0] true 10 none), (7, Blk.mk [u8 0, i64 0, u8 0] true 3 none)]) (by kernel_rfl) trivial ?_
        refine AWP.seq ?_
        refine AWP.regionT tcok hmix [] [6, 7, 8] [6, 7] (os := []) (s' := St.mk [(6, tp (V.ptr 6 0)), (7, tp (V.ptr 7 0)), (8, tp (vb true))] [(6, Blk.mk [u8 l.a0, u8 l.a1, u8 l.a2, u8 l.a3, u8 l.a4, u8 c.a0, u8 c.a1, u8 c.a2, u8 c.a3, u8 (c.a4 + 1)] true 10 none), (7, Blk.mk [u8 4, i64 un, u8 ev] true 3 none)]) (by kernel_rfl) trivial ?_
        refine AWP.ret ?_
        refine ⟨Or.inr rfl, Eq.trans (b := some ([], V.tup [V.agg true [u8 l.a0, u8 l.a1, u8 l.a2, u8 l.a3, u8 l.a4, u8 c.a0, u8 c.a1, u8 c.a2, u8 c.a3, u8 (c.a4 + 1)], V.agg true [u8 4, i64 un, u8 ev], vb true])) (by kernel_rfl) ?_⟩
        first | (obtain rfl : M = 4 := (by simp_all); first | rfl | (simp [F5.inc, up8, *]; done) | (simp [F5.inc, up8, *]; omega)) | (exact ⟨0, (by omega), 5, k, rfl, (by omega), hk, (by simp_all), (by omega)⟩) | (exact ⟨0, (by omega), 5, 4, rfl, (by omega), (by omega), (by simp_all), (by omega)⟩)
      simp only [decide_eq_false_iff_not] at hq25
      refine AWP.skip ?_
      refine AWP.seq ?_
      refine AWP.regionT tcok hmix [] [3, 4, 6, 7, 8] [3, 4, 6, 7] (os := []) (s' := St.mk [(3, tp (V.ptr 3 0)), (4, tp (V.ptr 4 0)), (6, tp (V.ptr 6 0)), (7, tp (V.ptr 7 0)), (8, tp (vb false))] [(3, Blk.mk [u8 l.a0, u8 l.a1, u8 l.a2, u8 l.a3, u8 l.a4, u8 c.a0, u8 c.a1, u8 c.a2, u8 c.a3, u8 c.a4] true 10 none), (4, Blk.mk [u8 4, i64 un, u8 ev] true 3 none), (6, Blk.mk [u8 0, u8 0, u8 0, u8 0, u8 0, u8 0, u8 0, u8 0, u8 0, u8 0] true 10 none), (7, Blk.mk [u8 0, i64 0, u8 0] true 3 none)]) (by kernel_rfl) trivial ?_
      refine AWP.seq ?_
      refine AWP.regionT tcok hmix [] [6, 7, 8] [6, 7] (os := []) (s' := St.mk [(6, tp (V.ptr 6 0)), (7, tp (V.ptr 7 0)), (8, tp (vb true))] [(6, Blk.mk [u8 l.a0, u8 l.a1, u8 l.a2, u8 l.a3, u8 l.a4, u8 c.a0, u8 c.a1, u8 c.a2, u8 c.a3, u8 c.a4] true 10 none), (7, Blk.mk [u8 4, i64 un, u8 ev] true 3 none)]) (by kernel_rfl) trivial ?_
      refine AWP.ret ?_
      refine ⟨Or.inr rfl, Eq.trans (b := some ([], V.tup [V.agg true [u8 l.a0, u8 l.a1, u8 l.a2, u8 l.a3, u8 l.a4, u8 c.a0, u8 c.a1, u8 c.a2, u8 c.a3, u8 c.a4], V.agg true [u8 4, i64 un, u8 ev], vb true])) (by kernel_rfl) ?_⟩
      first | (obtain rfl : M = 4 := (by simp_all); first | rfl | (simp [F5.inc, up8, *]; done) | (simp [F5.inc, up8, *]; omega)) | (exact ⟨0, (by omega), 5, k, rfl, (by omega), hk, (by simp_all), (by omega)⟩) | (exact ⟨0, (by omega), 5, 4, rfl, (by omega), (by omega), (by simp_all), (by omega)⟩)
    simp only [decide_eq_false_iff_not] at hq23
    refine AWP.skip ?_
    refine AWP.region tcok hmix [] (os := []) (sf := St.mk [(2, tp (u8 inh)), (3, tp (V.ptr 3 0)), (4, tp (V.ptr 4 0)), (6, tp (V.ptr 6 0)), (7, tp (V.ptr 7 0)), (8, tp (vb false)), (9, tp (i64 4)), (10, tp (u8 5)), (20, tp (u8 4)), (21, tp (u8 5)), (36, tp (vb (decide (c.a4 < l.a4))))] [(3, Blk.mk [u8 l.a0, u8 l.a1, u8 l.a2, u8 l.a3, u8 l.a4, u8 c.a0, u8 c.a1, u8 c.a2, u8 c.a3, u8 c.a4] true 10 none), (4, Blk.mk [u8 lv, i64 un, u8 ev] true 3 none), (6, Blk.mk [u8 0, u8 0, u8 0, u8 0, u8 0, u8 0, u8 0, u8 0, u8 0, u8 0] true 10 none), (7, Blk.mk [u8 0, i64 0, u8 0] true 3 none)]) (by kernel_rfl) trivial ?_
    refine ⟨St.mk [(2, tp (u8 inh)), (3, tp (V.ptr 3 0)), (4, tp (V.ptr 4 0)), (6, tp (V.ptr 6 0)), (7, tp (V.ptr 7 0)), (8, tp (vb false)), (9, tp (i64 4)), (10, tp (u8 5))] [(3, Blk.mk [u8 l.a0, u8 l.a1, u8 l.a2, u8 l.a3, u8 l.a4, u8 c.a0, u8 c.a1, u8 c.a2, u8 c.a3, u8 c.a4] true 10 none), (4, Blk.mk [u8 lv, i64 un, u8 ev] true 3 none), (6, Blk.mk [u8 0, u8 0, u8 0, u8 0, u8 0, u8 0, u8 0, u8 0, u8 0, u8 0] true 10 none), (7, Blk.mk [u8 0, i64 0, u8 0] true 3 none)], by kernel_rfl, ?_⟩
    first | (obtain rfl : M = 4 := (by simp_all); first | rfl | (simp [F5.inc, up8, *]; done) | (simp [F5.inc, up8, *]; omega)) | (exact ⟨0, (by omega), 5, k, rfl, (by omega), hk, (by simp_all), (by omega)⟩) | (exact ⟨0, (by omega), 5, 4, rfl, (by omega), (by omega), (by simp_all), (by omega)⟩)
  · obtain rfl : k = M := hM2
    rcases (by omega : k = -1 ∨ k = 0 ∨ k = 1 ∨ k = 2 ∨ k = 3 ∨ k = 4) with rfl | rfl | rfl | rfl | rfl | rfl
    · refine AWP.seq ?_
      refine AWP.seq ?_
      refine AWP.regionT tcok hmix [] [2, 3, 4, 6, 7, 8, 9, 10, 19] [3, 4, 6, 7] (os := []) (s' := St.mk [(2, tp (u8 inh)), (3, tp (V.ptr 3 0)), (4, tp (V.ptr 4 0)), (6, tp (V.ptr 6 0)), (7, tp (V.ptr 7 0)), (8, tp (vb false)), (9, tp (i64 (-1))), (10, tp (u8 5)), (19, tp (vb false))] [(3, Blk.mk [u8 l.a0, u8 l.a1, u8 l.a2, u8 l.a3, u8 l.a4, u8 c.a0, u8 c.a1, u8 c.a2, u8 c.a3, u8 c.a4] true 10 none), (4, Blk.mk [u8 lv, i64 un, u8 ev] true 3 none), (6, Blk.mk [u8 0, u8 0, u8 0, u8 0, u8 0, u8 0, u8 0, u8 0, u8 0, u8 0] true 10 none), (7, Blk.mk [u8 0, i64 0, u8 0] true 3 none)]) (by kernel_rfl) trivial ?_
      refine AWP.cond (b := false) (by kernel_rfl) (fun h => by cases h) (fun _ => ?_)
      refine AWP.exit ?_
      refine AWP.seq ?_
      refine AWP.seq ?_
      refine AWP.regionT tcok hmix [] [3, 4, 6, 7, 8, 9, 38] [3, 4, 6, 7] (os := []) (s' := St.mk [(3, tp (V.ptr 3 0)), (4, tp (V.ptr 4 0)), (6, tp (V.ptr 6 0)), (7, tp (V.ptr 7 0)), (8, tp (vb false)), (9, tp (i64 (-1))), (38, tp (vb true))] [(3, Blk.mk [u8 l.a0, u8 l.a1, u8 l.a2, u8 l.a3, u8 l.a4, u8 c.a0, u8 c.a1, u8 c.a2, u8 c.a3, u8 c.a4] true 10 none), (4, Blk.mk [u8 lv, i64 un, u8 ev] true 3 none), (6, Blk.mk [u8 0, u8 0, u8 0, u8 0, u8 0, u8 0, u8 0, u8 0, u8 0, u8 0] true 10 none), (7, Blk.mk [u8 0, i64 0, u8 0] true 3 none)]) (by kernel_rfl) trivial ?_
      refine AWP.cond (b := true) (by kernel_rfl) (fun _ => ?_) (fun h => by cases h)
      refine AWP.seq ?_
      refine AWP.regionT tcok hmix [] [3, 4, 6, 7, 8, 9] [3, 4, 6, 7] (os := []) (s' := St.mk [(3, tp (V.ptr 3 0)), (4, tp (V.ptr 4 0)), (6, tp (V.ptr 6 0)), (7, tp (V.ptr 7 0)), (8, tp (vb false)), (9, tp (i64 (-1)))] [(3, Blk.mk [u8 l.a0, u8 l.a1, u8 l.a2, u8 l.a3, u8 l.a4, u8 c.a0, u8 c.a1, u8 c.a2, u8 c.a3, u8 c.a4] true 10 none), (4, Blk.mk [u8 lv, i64 un, u8 ev] true 3 none), (6, Blk.mk [u8 l.a0, u8 l.a1, u8 l.a2, u8 l.a3, u8 l.a4, u8 c.a0, u8 c.a1, u8 c.a2, u8 c.a3, u8 c.a4] true 10 none), (7, Blk.mk [u8 0, i64 0, u8 0] true 3 none)]) (by kernel_rfl) trivial ?_
      refine AWP.ret ?_
      refine ⟨Or.inr rfl, Eq.trans (b := some ([], V.tup [V.agg true [u8 l.a0, u8 l.a1, u8 l.a2, u8 l.a3, u8 l.a4, u8 c.a0, u8 c.a1, u8 c.a2, u8 c.a3, u8 c.a4], V.agg true [u8 0, i64 0, u8 0], vb false])) (by kernel_rfl) ?_⟩
      first | rfl | (simp [F5.inc, up8, *]; done) | (simp [F5.inc, up8, *]; omega) | (exfalso; omega)
    · refine AWP.seq ?_
      refine AWP.seq ?_
      refine AWP.regionT tcok hmix [] [2, 3, 4, 6, 7, 8, 9, 10, 19] [3, 4, 6, 7] (os := []) (s' := St.mk [(2, tp (u8 inh)), (3, tp (V.ptr 3 0)), (4, tp (V.ptr 4 0)), (6, tp (V.ptr 6 0)), (7, tp (V.ptr 7 0)), (8, tp (vb false)), (9, tp (i64 0)), (10, tp (u8 5)), (19, tp (vb false))] [(3, Blk.mk [u8 l.a0, u8 l.a1, u8 l.a2, u8 l.a3, u8 l.a4, u8 c.a0, u8 c.a1, u8 c.a2, u8 c.a3, u8 c.a4] true 10 none), (4, Blk.mk [u8 lv, i64 un, u8 ev] true 3 none), (6, Blk.mk [u8 0, u8 0, u8 0, u8 0, u8 0, u8 0, u8 0, u8 0, u8 0, u8 0] true 10 none), (7, Blk.mk [u8 0, i64 0, u8 0] true 3 none)]) (by kernel_rfl) trivial ?_
      refine AWP.cond (b := false) (by kernel_rfl) (fun h => by cases h) (fun _ => ?_)
      refine AWP.exit ?_
      refine AWP.seq ?_
      refine AWP.seq ?_
      refine AWP.regionT tcok hmix [] [3, 4, 6, 7, 8, 9, 38] [3, 4, 6, 7] (os := []) (s' := St.mk [(3, tp (V.ptr 3 0)), (4, tp (V.ptr 4 0)), (6, tp (V.ptr 6 0)), (7, tp (V.ptr 7 0)), (8, tp (vb false)), (9, tp (i64 0)), (38, tp (vb false))] [(3, Blk.mk [u8 l.a0, u8 l.a1, u8 l.a2, u8 l.a3, u8 l.a4, u8 c.a0, u8 c.a1, u8 c.a2, u8 c.a3, u8 c.a4] true 10 none), (4, Blk.mk [u8 lv, i64 un, u8 ev] true 3 none), (6, Blk.mk [u8 0, u8 0, u8 0, u8 0, u8 0, u8 0, u8 0, u8 0, u8 0, u8 0] true 10 none), (7, Blk.mk [u8 0, i64 0, u8 0] true 3 none)]) (by kernel_rfl) trivial ?_
      refine AWP.cond (b := false) (by kernel_rfl) (fun h => by cases h) (fun _ => ?_)
      refine AWP.skip ?_
      refine AWP.seq ?_
      refine AWP.seq ?_
      refine AWP.regionT tcok hmix [] [3, 4, 6, 7, 8, 9, 45] [3, 4, 6, 7] (os := []) (s' := St.mk [(3, tp (V.ptr 3 0)), (4, tp (V.ptr 4 0)), (6, tp (V.ptr 6 0)), (7, tp (V.ptr 7 0)), (8, tp (vb false)), (9, tp (i64 0)), (45, tp (vb (decide (c.a0 < 255))))] [(3, Blk.mk [u8 l.a0, u8 l.a1, u8 l.a2, u8 l.a3, u8 l.a4, u8 c.a0, u8 c.a1, u8 c.a2, u8 c.a3, u8 c.a4] true 10 none), (4, Blk.mk [u8 lv, i64 un, u8 ev] true 3 none), (6, Blk.mk [u8 0, u8 0, u8 0, u8 0, u8 0, u8 0, u8 0, u8 0, u8 0, u8 0] true 10 none), (7, Blk.mk [u8 0, i64 0, u8 0] true 3 none)]) (by kernel_rfl) trivial ?_
      refine AWP.cond (b := decide (c.a0 < 255)) (by kernel_rfl) (fun hq30 => ?_) (fun hq30 => ?_)
      · simp only [decide_eq_true_eq] at hq30
        refine AWP.regionT tcok hmix [(4, ⟨some (u8 (c.a0 + 1)), none⟩)] [3, 4, 6, 7, 8, 9] [3, 4, 6, 7] (os := [u8 (IntKind.wrap IntKind.u8 (c.a0 + 1)) = u8 (c.a0 + 1)]) (s' := St.mk [(3, tp (V.ptr 3 0)), (4, tp (V.ptr 4 0)), (6, tp (V.ptr 6 0)), (7, tp (V.ptr 7 0)), (8, tp (vb false)), (9, tp (i64 0))] [(3, Blk.mk [u8 l.a0, u8 l.a1, u8 l.a2, u8 l.a3, u8 l.a4, u8 (c.a0 + 1), u8 c.a1, u8 c.a2, u8 c.a3, u8 c.a4] true 10 none), (4, Blk.mk [u8 lv, i64 un, u8 ev] true 3 none), (6, Blk.mk [u8 0, u8 0, u8 0, u8 0, u8 0, u8 0, u8 0, u8 0, u8 0, u8 0] true 10 none), (7, Blk.mk [u8 0, i64 0, u8 0] true 3 none)]) (by kernel_rfl) ⟨(wr_u8 (by omega) (by omega)), trivial⟩ ?_
        refine AWP.seq ?_
        refine AWP.regionT tcok hmix [] [3, 4, 6, 7, 8] [3, 4, 6, 7] (os := []) (s' := St.mk [(3, tp (V.ptr 3 0)), (4, tp (V.ptr 4 0)), (6, tp (V.ptr 6 0)), (7, tp (V.ptr 7 0)), (8, tp (vb false))] [(3, Blk.mk [u8 l.a0, u8 l.a1, u8 l.a2, u8 l.a3, u8 l.a4, u8 (c.a0 + 1), u8 c.a1, u8 c.a2, u8 c.a3, u8 c.a4] true 10 none), (4, Blk.mk [u8 0, i64 un, u8 ev] true 3 none), (6, Blk.mk [u8 0, u8 0, u8 0, u8 0, u8 0, u8 0, u8 0, u8 0, u8 0, u8 0] true 10 none), (7, Blk.mk [u8 0, i64 0, u8 0] true 3 none)]) (by kernel_rfl) trivial ?_
        refine AWP.seq ?_
        refine AWP.regionT tcok hmix [] [6, 7, 8] [6, 7] (os := []) (s' := St.mk [(6, tp (V.ptr 6 0)), (7, tp (V.ptr 7 0)), (8, tp (vb true))] [(6, Blk.mk [u8 l.a0, u8 l.a1, u8 l.a2, u8 l.a3, u8 l.a4, u8 (c.a0 + 1), u8 c.a1, u8 c.a2, u8 c.a3, u8 c.a4] true 10 none), (7, Blk.mk [u8 0, i64 un, u8 ev] true 3 none)]) (by kernel_rfl) trivial ?_
        refine AWP.ret ?_
        refine ⟨Or.inr rfl, Eq.trans (b := some ([], V.tup [V.agg true [u8 l.a0, u8 l.a1, u8 l.a2, u8 l.a3, u8 l.a4, u8 (c.a0 + 1), u8 c.a1, u8 c.a2, u8 c.a3, u8 c.a4], V.agg true [u8 0, i64 un, u8 ev], vb true])) (by kernel_rfl) ?_⟩
        first | rfl | (simp [F5.inc, up8, *]; done) | (simp [F5.inc, up8, *]; omega) | (exfalso; omega)
      simp only [decide_eq_false_iff_not] at hq30
      refine AWP.skip ?_
      refine AWP.seq ?_
      refine AWP.regionT tcok hmix [] [3, 4, 6, 7, 8] [3, 4, 6, 7] (os := []) (s' := St.mk [(3, tp (V.ptr 3 0)), (4, tp (V.ptr 4 0)), (6, tp (V.ptr 6 0)), (7, tp (V.ptr 7 0)), (8, tp (vb false))] [(3, Blk.mk [u8 l.a0, u8 l.a1, u8 l.a2, u8 l.a3, u8 l.a4, u8 c.a0, u8 c.a1, u8 c.a2, u8 c.a3, u8 c.a4] true 10 none), (4, Blk.mk [u8 0, i64 un, u8 ev] true 3 none), (6, Blk.mk [u8 0, u8 0, u8 0, u8 0, u8 0, u8 0, u8 0, u8 0, u8 0, u8 0] true 10 none), (7, Blk.mk [u8 0, i64 0, u8 0] true 3 none)]) (by kernel_rfl) trivial ?_
      refine AWP.seq ?_
      refine AWP.regionT tcok hmix [] [6, 7, 8] [6, 7] (os := []) (s' := St.mk [(6, tp (V.ptr 6 0)), (7, tp (V.ptr 7 0)), (8, tp (vb true))] [(6, Blk.mk [u8 l.a0, u8 l.a1, u8 l.a2, u8 l.a3, u8 l.a4, u8 c.a0, u8 c.a1, u8 c.a2, u8 c.a3, u8 c.a4] true 10 none), (7, Blk.mk [u8 0, i64 un, u8 ev] true 3 none)]) (by kernel_rfl) trivial ?_
      refine AWP.ret ?_
      refine ⟨Or.inr rfl, Eq.trans (b := some ([], V.tup [V.agg true [u8 l.a0, u8 l.a1, u8 l.a2, u8 l.a3, u8 l.a4, u8 c.a0, u8 c.a1, u8 c.a2, u8 c.a3, u8 c.a4], V.agg true [u8 0, i64 un, u8 ev], vb true])) (by kernel_rfl) ?_⟩
      first | rfl | (simp [F5.inc, up8, *]; done) | (simp [F5.inc, up8, *]; omega) | (exfalso; omega)
    · refine AWP.seq ?_
      refine AWP.seq ?_
      refine AWP.regionT tcok hmix [] [2, 3, 4, 6, 7, 8, 9, 10, 19] [3, 4, 6, 7] (os := []) (s' := St.mk [(2, tp (u8 inh)), (3, tp (V.ptr 3 0)), (4, tp (V.ptr 4 0)), (6, tp (V.ptr 6 0)), (7, tp (V.ptr 7 0)), (8, tp (vb false)), (9, tp (i64 1)), (10, tp (u8 5)), (19, tp (vb false))] [(3, Blk.mk [u8 l.a0, u8 l.a1, u8 l.a2, u8 l.a3, u8 l.a4, u8 c.a0, u8 c.a1, u8 c.a2, u8 c.a3, u8 c.a4] true 10 none), (4, Blk.mk [u8 lv, i64 un, u8 ev] true 3 none), (6, Blk.mk [u8 0, u8 0, u8 0, u8 0, u8 0, u8 0, u8 0, u8 0, u8 0, u8 0] true 10 none), (7, Blk.mk [u8 0, i64 0, u8 0] true 3 none)]) (by kernel_rfl) trivial ?_
      refine AWP.cond (b := false) (by kernel_rfl) (fun h => by cases h) (fun _ => ?_)
      refine AWP.exit ?_
      refine AWP.seq ?_
      refine AWP.seq ?_
      refine AWP.regionT tcok hmix [] [3, 4, 6, 7, 8, 9, 38] [3, 4, 6, 7] (os := []) (s' := St.mk [(3, tp (V.ptr 3 0)), (4, tp (V.ptr 4 0)), (6, tp (V.ptr 6 0)), (7, tp (V.ptr 7 0)), (8, tp (vb false)), (9, tp (i64 1)), (38, tp (vb false))] [(3, Blk.mk [u8 l.a0, u8 l.a1, u8 l.a2, u8 l.a3, u8 l.a4, u8 c.a0, u8 c.a1, u8 c.a2, u8 c.a3, u8 c.a4] true 10 none), (4, Blk.mk [u8 lv, i64 un, u8 ev] true 3 none), (6, Blk.mk [u8 0, u8 0, u8 0, u8 0, u8 0, u8 0, u8 0, u8 0, u8 0, u8 0] true 10 none), (7, Blk.mk [u8 0, i64 0, u8 0] true 3 none)]) (by kernel_rfl) trivial ?_
      refine AWP.cond (b := false) (by kernel_rfl) (fun h => by cases h) (fun _ => ?_)
      refine AWP.skip ?_
      refine AWP.seq ?_
      refine AWP.seq ?_
      refine AWP.regionT tcok hmix [] [3, 4, 6, 7, 8, 9, 45] [3, 4, 6, 7] (os := []) (s' := St.mk [(3, tp (V.ptr 3 0)), (4, tp (V.ptr 4 0)), (6, tp (V.ptr 6 0)), (7, tp (V.ptr 7 0)), (8, tp (vb false)), (9, tp (i64 1)), (45, tp (vb (decide (c.a1 < 255))))] [(3, Blk.mk [u8 l.a0, u8 l.a1, u8 l.a2, u8 l.a3, u8 l.a4, u8 c.a0, u8 c.a1, u8 c.a2, u8 c.a3, u8 c.a4] true 10 none), (4, Blk.mk [u8 lv, i64 un, u8 ev] true 3 none), (6, Blk.mk [u8 0, u8 0, u8 0, u8 0, u8 0, u8 0, u8 0, u8 0, u8 0, u8 0] true 10 none), (7, Blk.mk [u8 0, i64 0, u8 0] true 3 none)]) (by kernel_rfl) trivial ?_
      refine AWP.cond (b := decide (c.a1 < 255)) (by kernel_rfl) (fun hq33 => ?_) (fun hq33 => ?_)
      · simp only [decide_eq_true_eq] at hq33
        refine AWP.regionT tcok hmix [(4, ⟨some (u8 (c.a1 + 1)), none⟩)] [3, 4, 6, 7, 8, 9] [3, 4, 6, 7] (os := [u8 (IntKind.wrap IntKind.u8 (c.a1 + 1)) = u8 (c.a1 + 1)]) (s' := St.mk [(3, tp (V.ptr 3 0)), (4, tp (V.ptr 4 0)), (6, tp (V.ptr 6 0)), (7, tp (V.ptr 7 0)), (8, tp (vb false)), (9, tp (i64 1))] [(3, Blk.mk [u8 l.a0, u8 l.a1, u8 l.a2, u8 l.a3, u8 l.a4, u8 c.a0, u8 (c.a1 + 1), u8 c.a2, u8 c.a3, u8 c.a4] true 10 none), (4, Blk.mk [u8 lv, i64 un, u8 ev] true 3 none), (6, Blk.mk [u8 0, u8 0, u8 0, u8 0, u8 0, u8 0, u8 0, u8 0, u8 0, u8 0] true 10 none), (7, Blk.mk [u8 0, i64 0, u8 0] true 3 none)]) (by kernel_rfl) ⟨(wr_u8 (by omega) (by omega)), trivial⟩ ?_
        refine AWP.seq ?_
        refine AWP.regionT tcok hmix [] [3, 4, 6, 7, 8] [3, 4, 6, 7] (os := []) (s' := St.mk [(3, tp (V.ptr 3 0)), (4, tp (V.ptr 4 0)), (6, tp (V.ptr 6 0)), (7, tp (V.ptr 7 0)), (8, tp (vb false))] [(3, Blk.mk [u8 l.a0, u8 l.a1, u8 l.a2, u8 l.a3, u8 l.a4, u8 c.a0, u8 (c.a1 + 1), u8 c.a2, u8 c.a3, u8 c.a4] true 10 none), (4, Blk.mk [u8 1, i64 un, u8 ev] true 3 none), (6, Blk.mk [u8 0, u8 0, u8 0, u8 0, u8 0, u8 0, u8 0, u8 0, u8 0, u8 0] true 10 none), (7, Blk.mk [u8 0, i64 0, u8 0] true 3 none)]) (by kernel_rfl) trivial ?_
        refine AWP.seq ?_
        refine AWP.regionT tcok hmix [] [6, 7, 8] [6, 7] (os := []) (s' := St.mk [(6, tp (V.ptr 6 0)), (7, tp (V.ptr 7 0)), (8, tp (vb true))] [(6, Blk.mk [u8 l.a0, u8 l.a1, u8 l.a2, u8 l.a3, u8 l.a4, u8 c.a0, u8 (c.a1 + 1), u8 c.a2, u8 c.a3, u8 c.a4] true 10 none), (7, Blk.mk [u8 1, i64 un, u8 ev] true 3 none)]) (by kernel_rfl) trivial ?_
        refine AWP.ret ?_
        refine ⟨Or.inr rfl, Eq.trans (b := some ([], V.tup [V.agg true [u8 l.a0, u8 l.a1, u8 l.a2, u8 l.a3, u8 l.a4, u8 c.a0, u8 (c.a1 + 1), u8 c.a2, u8 c.a3, u8 c.a4], V.agg true [u8 1, i64 un, u8 ev], vb true])) (by kernel_rfl) ?_⟩
        first | rfl | (simp [F5.inc, up8, *]; done) | (simp [F5.inc, up8, *]; omega) | (exfalso; omega)
      simp only [decide_eq_false_iff_not] at hq33
      refine AWP.skip ?_
      refine AWP.seq ?_
      refine AWP.regionT tcok hmix [] [3, 4, 6, 7, 8] [3, 4, 6, 7] (os := []) (s' := St.mk [(3, tp (V.ptr 3 0)), (4, tp (V.ptr 4 0)), (6, tp (V.ptr 6 0)), (7, tp (V.ptr 7 0)), (8, tp (vb false))] [(3, Blk.mk [u8 l.a0, u8 l.a1, u8 l.a2, u8 l.a3, u8 l.a4, u8 c.a0, u8 c.a1, u8 c.a2, u8 c.a3, u8 c.a4] true 10 none), (4, Blk.mk [u8 1, i64 un, u8 ev] true 3 none), (6, Blk.mk [u8 0, u8 0, u8 0, u8 0, u8 0, u8 0, u8 0, u8 0, u8 0, u8 0] true 10 none), (7, Blk.mk [u8 0, i64 0, u8 0] true 3 none)]) (by kernel_rfl) trivial ?_
      refine AWP.seq ?_
      refine AWP.regionT tcok hmix [] [6, 7, 8] [6, 7] (os := []) (s' := St.mk [(6, tp (V.ptr 6 0)), (7, tp (V.ptr 7 0)), (8, tp (vb true))] [(6, Blk.mk [u8 l.a0, u8 l.a1, u8 l.a2, u8 l.a3, u8 l.a4, u8 c.a0, u8 c.a1, u8 c.a2, u8 c.a3, u8 c.a4] true 10 none), (7, Blk.mk [u8 1, i64 un, u8 ev] true 3 none)]) (by kernel_rfl) trivial ?_
      refine AWP.ret ?_
      refine ⟨Or.inr rfl, Eq.trans (b := some ([], V.tup [V.agg true [u8 l.a0, u8 l.a1, u8 l.a2, u8 l.a3, u8 l.a4, u8 c.a0, u8 c.a1, u8 c.a2, u8 c.a3, u8 c.a4], V.agg true [u8 1, i64 un, u8 ev], vb true])) (by kernel_rfl) ?_⟩
      first | rfl | (simp [F5.inc, up8, *]; done) | (simp [F5.inc, up8, *]; omega) | (exfalso; omega)
    · refine AWP.seq ?_
      refine AWP.seq ?_
      refine AWP.regionT tcok hmix [] [2, 3, 4, 6, 7, 8, 9, 10, 19] [3, 4, 6, 7] (os := []) (s' := St.mk [(2, tp (u8 inh)), (3, tp (V.ptr 3 0)), (4, tp (V.ptr 4 0)), (6, tp (V.ptr 6 0)), (7, tp (V.ptr 7 0)), (8, tp (vb false)), (9, tp (i64 2)), (10, tp (u8 5)), (19, tp (vb false))] [(3, Blk.mk [u8 l.a0, u8 l.a1, u8 l.a2, u8 l.a3, u8 l.a4, u8 c.a0, u8 c.a1, u8 c.a2, u8 c.a3, u8 c.a4] true 10 none), (4, Blk.mk [u8 lv, i64 un, u8 ev] true 3 none), (6, Blk.mk [u8 0, u8 0, u8 0, u8 0, u8 0, u8 0, u8 0, u8 0, u8 0, u8 0] true 10 none), (7, Blk.mk [u8 0, i64 0, u8 0] true 3 none)]) (by kernel_rfl) trivial ?_
      refine AWP.cond (b := false) (by kernel_rfl) (fun h => by cases h) (fun _ => ?_)
      refine AWP.exit ?_
      refine AWP.seq ?_
      refine AWP.seq ?_
      refine AWP.regionT tcok hmix [] [3, 4, 6, 7, 8, 9, 38] [3, 4, 6, 7] (os := []) (s' := St.mk [(3, tp (V.ptr 3 0)), (4, tp (V.ptr 4 0)), (6, tp (V.ptr 6 0)), (7, tp (V.ptr 7 0)), (8, tp (vb false)), (9, tp (i64 2)), (38, tp (vb false))] [(3, Blk.mk [u8 l.a0, u8 l.a1, u8 l.a2, u8 l.a3, u8 l.a4, u8 c.a0, u8 c.a1, u8 c.a2, u8 c.a3, u8 c.a4] true 10 none), (4, Blk.mk [u8 lv, i64 un, u8 ev] true 3 none), (6, Blk.mk [u8 0, u8 0, u8 0, u8 0, u8 0, u8 0, u8 0, u8 0, u8 0, u8 0] true 10 none), (7, Blk.mk [u8 0, i64 0, u8 0] true 3 none)]) (by kernel_rfl) trivial ?_
      refine AWP.cond (b := false) (by kernel_rfl) (fun h => by cases h) (fun _ => ?_)
      refine AWP.skip ?_
      refine AWP.seq ?_
      refine AWP.seq ?_
      refine AWP.regionT tcok hmix [] [3, 4, 6, 7, 8, 9, 45] [3, 4, 6, 7] (os := []) (s' := St.mk [(3, tp (V.ptr 3 0)), (4, tp (V.ptr 4 0)), (6, tp (V.ptr 6 0)), (7, tp (V.ptr 7 0)), (8, tp (vb false)), (9, tp (i64 2)), (45, tp (vb (decide (c.a2 < 255))))] [(3, Blk.mk [u8 l.a0, u8 l.a1, u8 l.a2, u8 l.a3, u8 l.a4, u8 c.a0, u8 c.a1, u8 c.a2, u8 c.a3, u8 c.a4] true 10 none), (4, Blk.mk [u8 lv, i64 un, u8 ev] true 3 none), (6, Blk.mk [u8 0, u8 0, u8 0, u8 0, u8 0, u8 0, u8 0, u8 0, u8 0, u8 0] true 10 none), (7, Blk.mk [u8 0, i64 0, u8 0] true 3 none)]) (by kernel_rfl) trivial ?_
      refine AWP.cond (b := decide (c.a2 < 255)) (by kernel_rfl) (fun hq36 => ?_) (fun hq36 => ?_)
      · simp only [decide_eq_true_eq] at hq36
        refine AWP.regionT tcok hmix [(4, ⟨some (u8 (c.a2 + 1)), none⟩)] [3, 4, 6, 7, 8, 9] [3, 4, 6, 7] (os := [u8 (IntKind.wrap IntKind.u8 (c.a2 + 1)) = u8 (c.a2 + 1)]) (s' := St.mk [(3, tp (V.ptr 3 0)), (4, tp (V.ptr 4 0)), (6, tp (V.ptr 6 0)), (7, tp (V.ptr 7 0)), (8, tp (vb false)), (9, tp (i64 2))] [(3, Blk.mk [u8 l.a0, u8 l.a1, u8 l.a2, u8 l.a3, u8 l.a4, u8 c.a0, u8 c.a1, u8 (c.a2 + 1), u8 c.a3, u8 c.a4] true 10 none), (4, Blk.mk [u8 lv, i64 un, u8 ev] true 3 none), (6, Blk.mk [u8 0, u8 0, u8 0, u8 0, u8 0, u8 0, u8 0, u8 0, u8 0, u8 0] true 10 none), (7, Blk.mk [u8 0, i64 0, u8 0] true 3 none)]) (by kernel_rfl) ⟨(wr_u8 (by omega) (by omega)), trivial⟩ ?_
        refine AWP.seq ?_
        refine AWP.regionT tcok hmix [] [3, 4, 6, 7, 8] [3, 4, 6, 7] (os := []) (s' := St.mk [(3, tp (V.ptr 3 0)), (4, tp (V.ptr 4 0)), (6, tp (V.ptr 6 0)), (7, tp (V.ptr 7 0)), (8, tp (vb false))] [(3, Blk.mk [u8 l.a0, u8 l.a1, u8 l.a2, u8 l.a3, u8 l.a4, u8 c.a0, u8 c.a1, u8 (c.a2 + 1), u8 c.a3, u8 c.a4] true 10 none), (4, Blk.mk [u8 2, i64 un, u8 ev] true 3 none), (6, Blk.mk [u8 0, u8 0, u8 0, u8 0, u8 0, u8 0, u8 0, u8 0, u8 0, u8 0] true 10 none), (7, Blk.mk [u8 0, i64 0, u8 0] true 3 none)]) (by kernel_rfl) trivial ?_
        refine AWP.seq ?_
        refine AWP.regionT tcok hmix [] [6, 7, 8] [6, 7] (os := []) (s' := St.mk [(6, tp (V.ptr 6 0)), (7, tp (V.ptr 7 0)), (8, tp (vb true))] [(6, Blk.mk [u8 l.a0, u8 l.a1, u8 l.a2, u8 l.a3, u8 l.a4, u8 c.a0, u8 c.a1, u8 (c.a2 + 1), u8 c.a3, u8 c.a4] true 10 none), (7, Blk.mk [u8 2, i64 un, u8 ev] true 3 none)]) (by kernel_rfl) trivial ?_
        refine AWP.ret ?_
        refine ⟨Or.inr rfl, Eq.trans (b := some ([], V.tup [V.agg true [u8 l.a0, u8 l.a1, u8 l.a2, u8 l.a3, u8 l.a4, u8 c.a0, u8 c.a1, u8 (c.a2 + 1), u8 c.a3, u8 c.a4], V.agg true [u8 2, i64 un, u8 ev], vb true])) (by kernel_rfl) ?_⟩
        first | rfl | (simp [F5.inc, up8, *]; done) | (simp [F5.inc, up8, *]; omega) | (exfalso; omega)
      simp only [decide_eq_false_iff_not] at hq36
      refine AWP.skip ?_
      refine AWP.seq ?_
      refine AWP.regionT tcok hmix [] [3, 4, 6, 7, 8] [3, 4, 6, 7] (os := []) (s' := St.mk [(3, tp (V.ptr 3 0)), (4, tp (V.ptr 4 0)), (6, tp (V.ptr 6 0)), (7, tp (V.ptr 7 0)), (8, tp (vb false))] [(3, Blk.mk [u8 l.a0, u8 l.a1, u8 l.a2, u8 l.a3, u8 l.a4, u8 c.a0, u8 c.a1, u8 c.a2, u8 c.a3, u8 c.a4] true 10 none), (4, Blk.mk [u8 2, i64 un, u8 ev] true 3 none), (6, Blk.mk [u8 0, u8 0, u8 0, u8 0, u8 0, u8 0, u8 0, u8 0, u8 0, u8 0] true 10 none), (7, Blk.mk [u8 0, i64 0, u8 0] true 3 none)]) (by kernel_rfl) trivial ?_
      refine AWP.seq ?_
      refine AWP.regionT tcok hmix [] [6, 7, 8] [6, 7] (os := []) (s' := St.mk [(6, tp (V.ptr 6 0)), (7, tp (V.ptr 7 0)), (8, tp (vb true))] [(6, Blk.mk [u8 l.a0, u8 l.a1, u8 l.a2, u8 l.a3, u8 l.a4, u8 c.a0, u8 c.a1, u8 c.a2, u8 c.a3, u8 c.a4] true 10 none), (7, Blk.mk [u8 2, i64 un, u8 ev] true 3 none)]) (by kernel_rfl) trivial ?_
      refine AWP.ret ?_
      refine ⟨Or.inr rfl, Eq.trans (b := some ([], V.tup [V.agg true [u8 l.a0, u8 l.a1, u8 l.a2, u8 l.a3, u8 l.a4, u8 c.a0, u8 c.a1, u8 c.a2, u8 c.a3, u8 c.a4], V.agg true [u8 2, i64 un, u8 ev], vb true])) (by kernel_rfl) ?_⟩
      first | rfl | (simp [F5.inc, up8, *]; done) | (simp [F5.inc, up8, *]; omega) | (exfalso; omega)
    · refine AWP.seq ?_
      refine AWP.seq ?_
      refine AWP.regionT tcok hmix [] [2, 3, 4, 6, 7, 8, 9, 10, 19] [3, 4, 6, 7] (os := []) (s' := St.mk [(2, tp (u8 inh)), (3, tp (V.ptr 3 0)), (4, tp (V.ptr 4 0)), (6, tp (V.ptr 6 0)), (7, tp (V.ptr 7 0)), (8, tp (vb false)), (9, tp (i64 3)), (10, tp (u8 5)), (19, tp (vb false))] [(3, Blk.mk [u8 l.a0, u8 l.a1, u8 l.a2, u8 l.a3, u8 l.a4, u8 c.a0, u8 c.a1, u8 c.a2, u8 c.a3, u8 c.a4] true 10 none), (4, Blk.mk [u8 lv, i64 un, u8 ev] true 3 none), (6, Blk.mk [u8 0, u8 0, u8 0, u8 0, u8 0, u8 0, u8 0, u8 0, u8 0, u8 0] true 10 none), (7, Blk.mk [u8 0, i64 0, u8 0] true 3 none)]) (by kernel_rfl) trivial ?_
      refine AWP.cond (b := false) (by kernel_rfl) (fun h => by cases h) (fun _ => ?_)
      refine AWP.exit ?_
      refine AWP.seq ?_
      refine AWP.seq ?_
      refine AWP.regionT tcok hmix [] [3, 4, 6, 7, 8, 9, 38] [3, 4, 6, 7] (os := []) (s' := St.mk [(3, tp (V.ptr 3 0)), (4, tp (V.ptr 4 0)), (6, tp (V.ptr 6 0)), (7, tp (V.ptr 7 0)), (8, tp (vb false)), (9, tp (i64 3)), (38, tp (vb false))] [(3, Blk.mk [u8 l.a0, u8 l.a1, u8 l.a2, u8 l.a3, u8 l.a4, u8 c.a0, u8 c.a1, u8 c.a2, u8 c.a3, u8 c.a4] true 10 none), (4, Blk.mk [u8 lv, i64 un, u8 ev] true 3 none), (6, Blk.mk [u8 0, u8 0, u8 0, u8 0, u8 0, u8 0, u8 0, u8 0, u8 0, u8 0] true 10 none), (7, Blk.mk [u8 0, i64 0, u8 0] true 3 none)]) (by kernel_rfl) trivial ?_
      refine AWP.cond (b := false) (by kernel_rfl) (fun h => by cases h) (fun _ => ?_)
      refine AWP.skip ?_
      refine AWP.seq ?_
      refine AWP.seq ?_
      refine AWP.regionT tcok hmix [] [3, 4, 6, 7, 8, 9, 45] [3, 4, 6, 7] (os := []) (s' := St.mk [(3, tp (V.ptr 3 0)), (4, tp (V.ptr 4 0)), (6, tp (V.ptr 6 0)), (7, tp (V.ptr 7 0)), (8, tp (vb false)), (9, tp (i64 3)), (45, tp (vb (decide (c.a3 < 255))))] [(3, Blk.mk [u8 l.a0, u8 l.a1, u8 l.a2, u8 l.a3, u8 l.a4, u8 c.a0, u8 c.a1, u8 c.a2, u8 c.a3, u8 c.a4] true 10 none), (4, Blk.mk [u8 lv, i64 un, u8 ev] true 3 none), (6, Blk.mk [u8 0, u8 0, u8 0, u8 0, u8 0, u8 0, u8 0, u8 0, u8 0, u8 0] true 10 none), (7, Blk.mk [u8 0, i64 0, u8 0] true 3 none)]) (by kernel_rfl) trivial ?_
      refine AWP.cond (b := decide (c.a3 < 255)) (by kernel_rfl) (fun hq39 => ?_) (fun hq39 => ?_)
      · simp only [decide_eq_true_eq] at hq39
        refine AWP.regionT tcok hmix [(4, ⟨some (u8 (c.a3 + 1)), none⟩)] [3, 4, 6, 7, 8, 9] [3, 4, 6, 7] (os := [u8 (IntKind.wrap IntKind.u8 (c.a3 + 1)) = u8 (c.a3 + 1)]) (s' := St.mk [(3, tp (V.ptr 3 0)), (4, tp (V.ptr 4 0)), (6, tp (V.ptr 6 0)), (7, tp (V.ptr 7 0)), (8, tp (vb false)), (9, tp (i64 3))] [(3, Blk.mk [u8 l.a0, u8 l.a1, u8 l.a2, u8 l.a3, u8 l.a4, u8 c.a0, u8 c.a1, u8 c.a2, u8 (c.a3 + 1), u8 c.a4] true 10 none), (4, Blk.mk [u8 lv, i64 un, u8 ev] true 3 none), (6, Blk.mk [u8 0, u8 0, u8 0, u8 0, u8 0, u8 0, u8 0, u8 0, u8 0, u8 0] true 10 none), (7, Blk.mk [u8 0, i64 0, u8 0] true 3 none)]) (by kernel_rfl) ⟨(wr_u8 (by omega) (by omega)), trivial⟩ ?_
        refine AWP.seq ?_
        refine AWP.regionT tcok hmix [] [3, 4, 6, 7, 8] [3, 4, 6, 7] (os := []) (s' := St.mk [(3, tp (V.ptr 3 0)), (4, tp (V.ptr 4 0)), (6, tp (V.ptr 6 0)), (7, tp (V.ptr 7 0)), (8, tp (vb false))] [(3, Blk.mk [u8 l.a0, u8 l.a1, u8 l.a2, u8 l.a3, u8 l.a4, u8 c.a0, u8 c.a1, u8 c.a2, u8 (c.a3 + 1), u8 c.a4] true 10 none), (4, Blk.mk [u8 3, i64 un, u8 ev] true 3 none), (6, Blk.mk [u8 0, u8 0, u8 0, u8 0, u8 0, u8 0, u8 0, u8 0, u8 0, u8 0] true 10 none), (7, Blk.mk [u8 0, i64 0, u8 0] true 3 none)]) (by kernel_rfl) trivial ?_
        refine AWP.seq ?_
        refine AWP.regionT tcok hmix [] [6, 7, 8] [6, 7] (os := []) (s' := St.mk [(6, tp (V.ptr 6 0)), (7, tp (V.ptr 7 0)), (8, tp (vb true))] [(6, Blk.mk [u8 l.a0, u8 l.a1, u8 l.a2, u8 l.a3, u8 l.a4, u8 c.a0, u8 c.a1, u8 c.a2, u8 (c.a3 + 1), u8 c.a4] true 10 none), (7, Blk.mk [u8 3, i64 un, u8 ev] true 3 none)]) (by kernel_rfl) trivial ?_
        refine AWP.ret ?_
        refine ⟨Or.inr rfl, Eq.trans (b := some ([], V.tup [V.agg true [u8 l.a0, u8 l.a1, u8 l.a2, u8 l.a3, u8 l.a4, u8 c.a0, u8 c.a1, u8 c.a2, u8 (c.a3 + 1), u8 c.a4], V.agg true [u8 3, i64 un, u8 ev], vb true])) (by kernel_rfl) ?_⟩
        first | rfl | (simp [F5.inc, up8, *]; done) | (simp [F5.inc, up8, *]; omega) | (exfalso; omega)
      simp only [decide_eq_false_iff_not] at hq39
      refine AWP.skip ?_
      refine AWP.seq ?_
      refine AWP.regionT tcok hmix [] [3, 4, 6, 7, 8] [3, 4, 6, 7] (os := []) (s' := St.mk [(3, tp (V.ptr 3 0)), (4, tp (V.ptr 4 0)), (6, tp (V.ptr 6 0)), (7, tp (V.ptr 7 0)), (8, tp (vb false))] [(3, Blk.mk [u8 l.a0, u8 l.a1, u8 l.a2, u8 l.a3, u8 l.a4, u8 c.a0, u8 c.a1, u8 c.a2, u8 c.a3, u8 c.a4] true 10 none), (4, Blk.mk [u8 3, i64 un, u8 ev] true 3 none), (6, Blk.mk [u8 0, u8 0, u8 0, u8 0, u8 0, u8 0, u8 0, u8 0, u8 0, u8 0] true 10 none), (7, Blk.mk [u8 0, i64 0, u8 0] true 3 none)]) (by kernel_rfl) trivial ?_
      refine AWP.seq ?_
      refine AWP.regionT tcok hmix [] [6, 7, 8] [6, 7] (os := []) (s' := St.mk [(6, tp (V.ptr 6 0)), (7, tp (V.ptr 7 0)), (8, tp (vb true))] [(6, Blk.mk [u8 l.a0, u8 l.a1, u8 l.a2, u8 l.a3, u8 l.a4, u8 c.a0, u8 c.a1, u8 c.a2, u8 c.a3, u8 c.a4] true 10 none), (7, Blk.mk [u8 3, i64 un, u8 ev] true 3 none)]) (by kernel_rfl) trivial ?_
      refine AWP.ret ?_
      refine ⟨Or.inr rfl, Eq.trans (b := some ([], V.tup [V.agg true [u8 l.a0, u8 l.a1, u8 l.a2, u8 l.a3, u8 l.a4, u8 c.a0, u8 c.a1, u8 c.a2, u8 c.a3, u8 c.a4], V.agg true [u8 3, i64 un, u8 ev], vb true])) (by kernel_rfl) ?_⟩
      first | rfl | (simp [F5.inc, up8, *]; done) | (simp [F5.inc, up8, *]; omega) | (exfalso; omega)
    · refine AWP.seq ?_
      refine AWP.seq ?_
      refine AWP.regionT tcok hmix [] [2, 3, 4, 6, 7, 8, 9, 10, 19] [3, 4, 6, 7] (os := []) (s' := St.mk [(2, tp (u8 inh)), (3, tp (V.ptr 3 0)), (4, tp (V.ptr 4 0)), (6, tp (V.ptr 6 0)), (7, tp (V.ptr 7 0)), (8, tp (vb false)), (9, tp (i64 4)), (10, tp (u8 5)), (19, tp (vb false))] [(3, Blk.mk [u8 l.a0, u8 l.a1, u8 l.a2, u8 l.a3, u8 l.a4, u8 c.a0, u8 c.a1, u8 c.a2, u8 c.a3, u8 c.a4] true 10 none), (4, Blk.mk [u8 lv, i64 un, u8 ev] true 3 none), (6, Blk.mk [u8 0, u8 0, u8 0, u8 0, u8 0, u8 0, u8 0, u8 0, u8 0, u8 0] true 10 none), (7, Blk.mk [u8 0, i64 0, u8 0] true 3 none)]) (by kernel_rfl) trivial ?_
      refine AWP.cond (b := false) (by kernel_rfl) (fun h => by cases h) (fun _ => ?_)
      refine AWP.exit ?_
      refine AWP.seq ?_
      refine AWP.seq ?_
      refine AWP.regionT tcok hmix [] [3, 4, 6, 7, 8, 9, 38] [3, 4, 6, 7] (os := []) (s' := St.mk [(3, tp (V.ptr 3 0)), (4, tp (V.ptr 4 0)), (6, tp (V.ptr 6 0)), (7, tp (V.ptr 7 0)), (8, tp (vb false)), (9, tp (i64 4)), (38, tp (vb false))] [(3, Blk.mk [u8 l.a0, u8 l.a1, u8 l.a2, u8 l.a3, u8 l.a4, u8 c.a0, u8 c.a1, u8 c.a2, u8 c.a3, u8 c.a4] true 10 none), (4, Blk.mk [u8 lv, i64 un, u8 ev] true 3 none), (6, Blk.mk [u8 0, u8 0, u8 0, u8 0, u8 0, u8 0, u8 0, u8 0, u8 0, u8 0] true 10 none), (7, Blk.mk [u8 0, i64 0, u8 0] true 3 none)]) (by kernel_rfl) trivial ?_
      refine AWP.cond (b := false) (by kernel_rfl) (fun h => by cases h) (fun _ => ?_)
      refine AWP.skip ?_
      refine AWP.seq ?_
      refine AWP.seq ?_
      refine AWP.regionT tcok hmix [] [3, 4, 6, 7, 8, 9, 45] [3, 4, 6, 7] (os := []) (s' := St.mk [(3, tp (V.ptr 3 0)), (4, tp (V.ptr 4 0)), (6, tp (V.ptr 6 0)), (7, tp (V.ptr 7 0)), (8, tp (vb false)), (9, tp (i64 4)), (45, tp (vb (decide (c.a4 < 255))))] [(3, Blk.mk [u8 l.a0, u8 l.a1, u8 l.a2, u8 l.a3, u8 l.a4, u8 c.a0, u8 c.a1, u8 c.a2, u8 c.a3, u8 c.a4] true 10 none), (4, Blk.mk [u8 lv, i64 un, u8 ev] true 3 none), (6, Blk.mk [u8 0, u8 0, u8 0, u8 0, u8 0, u8 0, u8 0, u8 0, u8 0, u8 0] true 10 none), (7, Blk.mk [u8 0, i64 0, u8 0] true 3 none)]) (by kernel_rfl) trivial ?_
      refine AWP.cond (b := decide (c.a4 < 255)) (by kernel_rfl) (fun hq42 => ?_) (fun hq42 => ?_)
      · simp only [decide_eq_true_eq] at hq42
        refine AWP.regionT tcok hmix [(4, ⟨some (u8 (c.a4 + 1)), none⟩)] [3, 4, 6, 7, 8, 9] [3, 4, 6, 7] (os := [u8 (IntKind.wrap IntKind.u8 (c.a4 + 1)) = u8 (c.a4 + 1)]) (s' := St.mk [(3, tp (V.ptr 3 0)), (4, tp (V.ptr 4 0)), (6, tp (V.ptr 6 0)), (7, tp (V.ptr 7 0)), (8, tp (vb false)), (9, tp (i64 4))] [(3, Blk.mk [u8 l.a0, u8 l.a1, u8 l.a2, u8 l.a3, u8 l.a4, u8 c.a0, u8 c.a1, u8 c.a2, u8 c.a3, u8 (c.a4 + 1)] true 10 none), (4, Blk.mk [u8 lv, i64 un, u8 ev] true 3 none), (6, Blk.mk [u8 0, u8 0, u8 0, u8 0, u8 0, u8 0, u8 0, u8 0, u8 0, u8 0] true 10 none), (7, Blk.mk [u8 0, i64 0, u8 0] true 3 none)]) (by kernel_rfl) ⟨(wr_u8 (by omega) (by omega)), trivial⟩ ?_
        refine AWP.seq ?_
        refine AWP.regionT tcok hmix [] [3, 4, 6, 7, 8] [3, 4, 6, 7] (os := []) (s' := St.mk [(3, tp (V.ptr 3 0)), (4, tp (V.ptr 4 0)), (6, tp (V.ptr 6 0)), (7, tp (V.ptr 7 0)), (8, tp (vb false))] [(3, Blk.mk [u8 l.a0, u8 l.a1, u8 l.a2, u8 l.a3, u8 l.a4, u8 c.a0, u8 c.a1, u8 c.a2, u8 c.a3, u8 (c.a4 + 1)] true 10 none), (4, Blk.mk [u8 4, i64 un, u8 ev] true 3 none), (6, Blk.mk [u8 0, u8 0, u8 0, u8 0, u8 0, u8 0, u8 0, u8 0, u8 0, u8 0] true 10 none), (7, Blk.mk [u8 0, i64 0, u8 0] true 3 none)]) (by kernel_rfl) trivial ?_
        refine AWP.seq ?_
        refine AWP.regionT tcok hmix [] [6, 7, 8] [6, 7] (os := []) (s' := St.mk [(6, tp (V.ptr 6 0)), (7, tp (V.ptr 7 0)), (8, tp (vb true))] [(6, Blk.mk [u8 l.a0, u8 l.a1, u8 l.a2, u8 l.a3, u8 l.a4, u8 c.a0, u8 c.a1, u8 c.a2, u8 c.a3, u8 (c.a4 + 1)] true 10 none), (7, Blk.mk [u8 4, i64 un, u8 ev] true 3 none)]) (by kernel_rfl) trivial ?_
        refine AWP.ret ?_
        refine ⟨Or.inr rfl, Eq.trans (b := some ([], V.tup [V.agg true [u8 l.a0, u8 l.a1, u8 l.a2, u8 l.a3, u8 l.a4, u8 c.a0, u8 c.a1, u8 c.a2, u8 c.a3, u8 (c.a4 + 1)], V.agg true [u8 4, i64 un, u8 ev], vb true])) (by kernel_rfl) ?_⟩
        first | rfl | (simp [F5.inc, up8, *]; done) | (simp [F5.inc, up8, *]; omega) | (exfalso; omega)
      simp only [decide_eq_false_iff_not] at hq42
      refine AWP.skip ?_
      refine AWP.seq ?_
      refine AWP.regionT tcok hmix [] [3, 4, 6, 7, 8] [3, 4, 6, 7] (os := []) (s' := St.mk [(3, tp (V.ptr 3 0)), (4, tp (V.ptr 4 0)), (6, tp (V.ptr 6 0)), (7, tp (V.ptr 7 0)), (8, tp (vb false))] [(3, Blk.mk [u8 l.a0, u8 l.a1, u8 l.a2, u8 l.a3, u8 l.a4, u8 c.a0, u8 c.a1, u8 c.a2, u8 c.a3, u8 c.a4] true 10 none), (4, Blk.mk [u8 4, i64 un, u8 ev] true 3 none), (6, Blk.mk [u8 0, u8 0, u8 0, u8 0, u8 0, u8 0, u8 0, u8 0, u8 0, u8 0] true 10 none), (7, Blk.mk [u8 0, i64 0, u8 0] true 3 none)]) (by kernel_rfl) trivial ?_
      refine AWP.seq ?_
      refine AWP.regionT tcok hmix [] [6, 7, 8] [6, 7] (os := []) (s' := St.mk [(6, tp (V.ptr 6 0)), (7, tp (V.ptr 7 0)), (8, tp (vb true))] [(6, Blk.mk [u8 l.a0, u8 l.a1, u8 l.a2, u8 l.a3, u8 l.a4, u8 c.a0, u8 c.a1, u8 c.a2, u8 c.a3, u8 c.a4] true 10 none), (7, Blk.mk [u8 4, i64 un, u8 ev] true 3 none)]) (by kernel_rfl) trivial ?_
      refine AWP.ret ?_
      refine ⟨Or.inr rfl, Eq.trans (b := some ([], V.tup [V.agg true [u8 l.a0, u8 l.a1, u8 l.a2, u8 l.a3, u8 l.a4, u8 c.a0, u8 c.a1, u8 c.a2, u8 c.a3, u8 c.a4], V.agg true [u8 4, i64 un, u8 ev], vb true])) (by kernel_rfl) ?_⟩
      first | rfl | (simp [F5.inc, up8, *]; done) | (simp [F5.inc, up8, *]; omega) | (exfalso; omega)
theorem con_raise_no (inh : Int) (l c : F5) (lv un ev : Int) (hr : aright lv un = false) :
    Con Tryd.prog 13 [] [ladV l c, .agg true [u8 lv, i64 un, u8 ev], u8 inh] [] (.tup [ladV l c, .agg true [u8 0, i64 0, u8 0], vb false]) := by
  refine Con.of (C := ⟨Tryd.prog, tc, Tryd.f13.ntmps⟩) [] tcok Tryd.func13 rfl rfl (by kernel_rfl) (by kernel_rfl) ?_
  refine AWP.seq ?_
  refine AWP.regionT tcok hmix [] [2, 3, 4, 6, 7, 8] [3, 4, 6, 7] (os := []) (s' := St.mk [(2, tp (u8 inh)), (3, tp (V.ptr 3 0)), (4, tp (V.ptr 4 0)), (6, tp (V.ptr 6 0)), (7, tp (V.ptr 7 0)), (8, tp (vb false))] [(3, Blk.mk [u8 l.a0, u8 l.a1, u8 l.a2, u8 l.a3, u8 l.a4, u8 c.a0, u8 c.a1, u8 c.a2, u8 c.a3, u8 c.a4] true 10 none), (4, Blk.mk [u8 lv, i64 un, u8 ev] true 3 none), (6, Blk.mk [u8 0, u8 0, u8 0, u8 0, u8 0, u8 0, u8 0, u8 0, u8 0, u8 0] true 10 none), (7, Blk.mk [u8 0, i64 0, u8 0] true 3 none)]) (by kernel_rfl) trivial ?_
  refine AWP.seq ?_
  refine AWP.seq ?_
  refine AWP.regionT tcok hmix [(1, ⟨none, some ⟨vb (aright lv un), [], []⟩⟩)] [2, 3, 4, 6, 7, 8, 13] [3, 4, 6, 7] (os := [Con Tryd.prog 38 [] [V.agg true [u8 lv, i64 un, u8 ev]] [] (vb (aright lv un))]) (s' := St.mk [(2, tp (u8 inh)), (3, tp (V.ptr 3 0)), (4, tp (V.ptr 4 0)), (6, tp (V.ptr 6 0)), (7, tp (V.ptr 7 0)), (8, tp (vb false)), (13, tp (vb !aright lv un))] [(3, Blk.mk [u8 l.a0, u8 l.a1, u8 l.a2, u8 l.a3, u8 l.a4, u8 c.a0, u8 c.a1, u8 c.a2, u8 c.a3, u8 c.a4] true 10 none), (4, Blk.mk [u8 lv, i64 un, u8 ev] true 3 none), (6, Blk.mk [u8 0, u8 0, u8 0, u8 0, u8 0, u8 0, u8 0, u8 0, u8 0, u8 0] true 10 none), (7, Blk.mk [u8 0, i64 0, u8 0] true 3 none)]) (by kernel_rfl) ⟨(con_aright (lv) (un) (ev)), trivial⟩ ?_
  refine AWP.cond (b := !aright lv un) (by kernel_rfl) (fun hq43 => ?_) (fun hq43 => ?_)
  · simp only [Bool.not_eq_true'] at hq43
    refine AWP.seq ?_
    refine AWP.regionT tcok hmix [] [2, 3, 4, 6, 7, 8] [3, 4, 6, 7] (os := []) (s' := St.mk [(2, tp (u8 inh)), (3, tp (V.ptr 3 0)), (4, tp (V.ptr 4 0)), (6, tp (V.ptr 6 0)), (7, tp (V.ptr 7 0)), (8, tp (vb false))] [(3, Blk.mk [u8 l.a0, u8 l.a1, u8 l.a2, u8 l.a3, u8 l.a4, u8 c.a0, u8 c.a1, u8 c.a2, u8 c.a3, u8 c.a4] true 10 none), (4, Blk.mk [u8 lv, i64 un, u8 ev] true 3 none), (6, Blk.mk [u8 l.a0, u8 l.a1, u8 l.a2, u8 l.a3, u8 l.a4, u8 c.a0, u8 c.a1, u8 c.a2, u8 c.a3, u8 c.a4] true 10 none), (7, Blk.mk [u8 0, i64 0, u8 0] true 3 none)]) (by kernel_rfl) trivial ?_
    refine AWP.ret ?_
    refine ⟨Or.inr rfl, Eq.trans (b := some ([], V.tup [V.agg true [u8 l.a0, u8 l.a1, u8 l.a2, u8 l.a3, u8 l.a4, u8 c.a0, u8 c.a1, u8 c.a2, u8 c.a3, u8 c.a4], V.agg true [u8 0, i64 0, u8 0], vb false])) (by kernel_rfl) ?_⟩
    first | rfl | (exfalso; simp_all; done)
  simp only [Bool.not_eq_false'] at hq43
  (rw [hr] at hq43; cases hq43)
theorem con_rlevel (inh : Int) (l c : F5) (lv un ev M : Int) (hi : 0 ≤ inh ∧ inh < 256) (hc : c.ok) (hl : 0 ≤ lv ∧ lv < 5) (hr : aright lv un = true) (hM : lev inh l c (5 - lv).toNat lv (-1) = M) :
    Con Tryd.prog 19 [] [f5V l, f5V c, .agg true [u8 lv, i64 un, u8 ev], u8 inh] [] (i64 M) := by
  refine Con.of (C := ⟨Tryd.prog, tc, Tryd.f19.ntmps⟩) [] tcok Tryd.func19 rfl rfl (by kernel_rfl) (by kernel_rfl) ?_
  refine AWP.seq ?_
  refine AWP.regionT tcok hmix [] [3, 4, 5, 6, 8] [4, 5, 6] (os := []) (s' := St.mk [(3, tp (u8 inh)), (4, tp (V.ptr 4 0)), (5, tp (V.ptr 5 0)), (6, tp (V.ptr 6 0)), (8, tp (i64 0))] [(4, Blk.mk [u8 l.a0, u8 l.a1, u8 l.a2, u8 l.a3, u8 l.a4] true 5 none), (5, Blk.mk [u8 c.a0, u8 c.a1, u8 c.a2, u8 c.a3, u8 c.a4] true 5 none), (6, Blk.mk [u8 lv, i64 un, u8 ev] true 3 none)]) (by kernel_rfl) trivial ?_
  refine AWP.seq ?_
  refine AWP.seq ?_
  refine AWP.regionT tcok hmix [(1, ⟨none, some ⟨vb (aright lv un), [], []⟩⟩)] [3, 4, 5, 6, 8, 13] [4, 5, 6] (os := [Con Tryd.prog 39 [] [V.agg true [u8 lv, i64 un, u8 ev]] [] (vb (aright lv un))]) (s' := St.mk [(3, tp (u8 inh)), (4, tp (V.ptr 4 0)), (5, tp (V.ptr 5 0)), (6, tp (V.ptr 6 0)), (8, tp (i64 0)), (13, tp (vb !aright lv un))] [(4, Blk.mk [u8 l.a0, u8 l.a1, u8 l.a2, u8 l.a3, u8 l.a4] true 5 none), (5, Blk.mk [u8 c.a0, u8 c.a1, u8 c.a2, u8 c.a3, u8 c.a4] true 5 none), (6, Blk.mk [u8 lv, i64 un, u8 ev] true 3 none)]) (by kernel_rfl) ⟨(con_rright (lv) (un) (ev)), trivial⟩ ?_
  refine AWP.cond (b := !aright lv un) (by kernel_rfl) (fun hq44 => ?_) (fun hq44 => ?_)
  · simp only [Bool.not_eq_true'] at hq44
    refine AWP.seq ?_
    refine AWP.regionT tcok hmix [] [3, 4, 5, 6, 8] [4, 5, 6] (os := []) (s' := St.mk [(3, tp (u8 inh)), (4, tp (V.ptr 4 0)), (5, tp (V.ptr 5 0)), (6, tp (V.ptr 6 0)), (8, tp (i64 (-1)))] [(4, Blk.mk [u8 l.a0, u8 l.a1, u8 l.a2, u8 l.a3, u8 l.a4] true 5 none), (5, Blk.mk [u8 c.a0, u8 c.a1, u8 c.a2, u8 c.a3, u8 c.a4] true 5 none), (6, Blk.mk [u8 lv, i64 un, u8 ev] true 3 none)]) (by kernel_rfl) trivial ?_
    refine AWP.ret ?_
    refine ⟨Or.inr rfl, Eq.trans (b := some ([], i64 (-1))) (by kernel_rfl) ?_⟩
    (exfalso; simp_all; done)
  simp only [Bool.not_eq_false'] at hq44
  refine AWP.skip ?_
  refine AWP.seq ?_
  refine AWP.regionT tcok hmix [] [3, 4, 5, 6, 8, 9] [4, 5, 6] (os := []) (s' := St.mk [(3, tp (u8 inh)), (4, tp (V.ptr 4 0)), (5, tp (V.ptr 5 0)), (6, tp (V.ptr 6 0)), (8, tp (i64 0)), (9, tp (i64 (-1)))] [(4, Blk.mk [u8 l.a0, u8 l.a1, u8 l.a2, u8 l.a3, u8 l.a4] true 5 none), (5, Blk.mk [u8 c.a0, u8 c.a1, u8 c.a2, u8 c.a3, u8 c.a4] true 5 none), (6, Blk.mk [u8 lv, i64 un, u8 ev] true 3 none)]) (by kernel_rfl) trivial ?_
  refine AWP.seq ?_
  refine AWP.seq ?_
  refine AWP.regionT tcok hmix [(2, ⟨some (i64 lv), none⟩)] [3, 4, 5, 8, 9, 10] [4, 5] (os := [i64 (IntKind.wrap IntKind.i64 lv) = i64 lv]) (s' := St.mk [(3, tp (u8 inh)), (4, tp (V.ptr 4 0)), (5, tp (V.ptr 5 0)), (8, tp (i64 0)), (9, tp (i64 (-1))), (10, tp (i64 lv))] [(4, Blk.mk [u8 l.a0, u8 l.a1, u8 l.a2, u8 l.a3, u8 l.a4] true 5 none), (5, Blk.mk [u8 c.a0, u8 c.a1, u8 c.a2, u8 c.a3, u8 c.a4] true 5 none)]) (by kernel_rfl) ⟨(wr_i64 (by omega) (by omega)), trivial⟩ ?_
  refine AWP.block ?_
  refine AWP.loopI [3, 4, 5, 8, 9, 10] [4, 5] (fun N s' => ∃ n k : Int, s' = St.mk [(3, T.plain (u8 inh)), (4, T.plain (V.ptr 4 0)), (5, T.plain (V.ptr 5 0)), (8, T.plain (i64 0)), (9, T.plain (i64 k)), (10, T.plain (i64 n))] [(4, Blk.mk [u8 l.a0, u8 l.a1, u8 l.a2, u8 l.a3, u8 l.a4] true 5 none), (5, Blk.mk [u8 c.a0, u8 c.a1, u8 c.a2, u8 c.a3, u8 c.a4] true 5 none)] ∧ (0 ≤ n ∧ n ≤ 5) ∧ (k = -1 ∨ 0 ≤ k ∧ k < 5) ∧ lev inh l c (5 - n).toNat n k = M ∧ (N : Int) = 5 - n) (5 - lv).toNat (s0 := St.mk [(3, T.plain (u8 inh)), (4, T.plain (V.ptr 4 0)), (5, T.plain (V.ptr 5 0)), (8, T.plain (i64 0)), (9, T.plain (i64 (-1))), (10, T.plain (i64 lv))] [(4, Blk.mk [u8 l.a0, u8 l.a1, u8 l.a2, u8 l.a3, u8 l.a4] true 5 none), (5, Blk.mk [u8 c.a0, u8 c.a1, u8 c.a2, u8 c.a3, u8 c.a4] true 5 none)]) (by kernel_rfl) ?_ ?_
  · exact ⟨lv, -1, rfl, by omega, by omega, hM, by omega⟩
  rintro N s' ⟨n, k, rfl, hn, hk, hM2, hN⟩
  rcases (by omega : n = 0 ∨ n = 1 ∨ n = 2 ∨ n = 3 ∨ n = 4 ∨ n = 5) with rfl | rfl | rfl | rfl | rfl | rfl
  · have hM3 : (if al inh 0 = true then (if c.a0 < l.a0 then 0 else lev inh l c 4 1 0) else lev inh l c 4 1 k) = M := hM2
    clear hM2
    refine AWP.seq ?_
    refine AWP.seq ?_
    refine AWP.regionT tcok hmix [] [3, 4, 5, 8, 9, 10, 18] [4, 5] (os := []) (s' := St.mk [(3, tp (u8 inh)), (4, tp (V.ptr 4 0)), (5, tp (V.ptr 5 0)), (8, tp (i64 0)), (9, tp (i64 k)), (10, tp (i64 0)), (18, tp (vb true))] [(4, Blk.mk [u8 l.a0, u8 l.a1, u8 l.a2, u8 l.a3, u8 l.a4] true 5 none), (5, Blk.mk [u8 c.a0, u8 c.a1, u8 c.a2, u8 c.a3, u8 c.a4] true 5 none)]) (by kernel_rfl) trivial ?_
    refine AWP.cond (b := true) (by kernel_rfl) (fun _ => ?_) (fun h => by cases h)
    refine AWP.skip ?_
    refine AWP.seq ?_
    refine AWP.block ?_
    refine AWP.seq ?_
    refine AWP.regionT tcok hmix [(2, ⟨none, some ⟨vb (al inh 0), [], []⟩⟩)] [3, 4, 5, 8, 9, 10, 23] [4, 5] (os := [Con Tryd.prog 12 [] [u8 inh, i64 0] [] (vb (al inh 0))]) (s' := St.mk [(3, tp (u8 inh)), (4, tp (V.ptr 4 0)), (5, tp (V.ptr 5 0)), (8, tp (i64 0)), (9, tp (i64 k)), (10, tp (i64 0)), (23, tp (vb (al inh 0)))] [(4, Blk.mk [u8 l.a0, u8 l.a1, u8 l.a2, u8 l.a3, u8 l.a4] true 5 none), (5, Blk.mk [u8 c.a0, u8 c.a1, u8 c.a2, u8 c.a3, u8 c.a4] true 5 none)]) (by kernel_rfl) ⟨(con_rallowed (inh) (0) (by assumption) (by omega)), trivial⟩ ?_
    refine AWP.cond (b := al inh 0) (by kernel_rfl) (fun hq46 => ?_) (fun hq46 => ?_)
    · refine AWP.seq ?_
      refine AWP.seq ?_
      refine AWP.regionT tcok hmix [] [3, 4, 5, 8, 9, 10, 30] [4, 5] (os := []) (s' := St.mk [(3, tp (u8 inh)), (4, tp (V.ptr 4 0)), (5, tp (V.ptr 5 0)), (8, tp (i64 0)), (9, tp (i64 k)), (10, tp (i64 0)), (30, tp (vb (decide (c.a0 < l.a0))))] [(4, Blk.mk [u8 l.a0, u8 l.a1, u8 l.a2, u8 l.a3, u8 l.a4] true 5 none), (5, Blk.mk [u8 c.a0, u8 c.a1, u8 c.a2, u8 c.a3, u8 c.a4] true 5 none)]) (by kernel_rfl) trivial ?_
      refine AWP.cond (b := decide (c.a0 < l.a0)) (by kernel_rfl) (fun hq47 => ?_) (fun hq47 => ?_)
      · simp only [decide_eq_true_eq] at hq47
        refine AWP.seq ?_
        refine AWP.regionT tcok hmix [] [3, 4, 5, 8, 9, 10] [4, 5] (os := []) (s' := St.mk [(3, tp (u8 inh)), (4, tp (V.ptr 4 0)), (5, tp (V.ptr 5 0)), (8, tp (i64 0)), (9, tp (i64 k)), (10, tp (i64 0))] [(4, Blk.mk [u8 l.a0, u8 l.a1, u8 l.a2, u8 l.a3, u8 l.a4] true 5 none), (5, Blk.mk [u8 c.a0, u8 c.a1, u8 c.a2, u8 c.a3, u8 c.a4] true 5 none)]) (by kernel_rfl) trivial ?_
        refine AWP.ret ?_
        refine ⟨Or.inr rfl, Eq.trans (b := some ([], i64 0)) (by kernel_rfl) ?_⟩
        first | (obtain rfl : M = 0 := (by simp_all); rfl) | (exact ⟨4, (by omega), 1, k, rfl, (by omega), hk, (by simp_all), (by omega)⟩) | (exact ⟨4, (by omega), 1, 0, rfl, (by omega), (by omega), (by simp_all), (by omega)⟩)
      simp only [decide_eq_false_iff_not] at hq47
      refine AWP.skip ?_
      refine AWP.region tcok hmix [] (os := []) (sf := St.mk [(3, tp (u8 inh)), (4, tp (V.ptr 4 0)), (5, tp (V.ptr 5 0)), (8, tp (i64 0)), (9, tp (i64 0)), (10, tp (i64 0)), (30, tp (vb (decide (c.a0 < l.a0)))), (32, tp (i64 0))] [(4, Blk.mk [u8 l.a0, u8 l.a1, u8 l.a2, u8 l.a3, u8 l.a4] true 5 none), (5, Blk.mk [u8 c.a0, u8 c.a1, u8 c.a2, u8 c.a3, u8 c.a4] true 5 none)]) (by kernel_rfl) trivial ?_
      refine AWP.keep' [3, 4, 5, 8, 9, 10] [4, 5] (sf := St.mk [(3, tp (u8 inh)), (4, tp (V.ptr 4 0)), (5, tp (V.ptr 5 0)), (8, tp (i64 0)), (9, tp (i64 0)), (10, tp (i64 0))] [(4, Blk.mk [u8 l.a0, u8 l.a1, u8 l.a2, u8 l.a3, u8 l.a4] true 5 none), (5, Blk.mk [u8 c.a0, u8 c.a1, u8 c.a2, u8 c.a3, u8 c.a4] true 5 none)]) (by kernel_rfl) ?_
      refine AWP.region tcok hmix [] (os := []) (sf := St.mk [(3, tp (u8 inh)), (4, tp (V.ptr 4 0)), (5, tp (V.ptr 5 0)), (8, tp (i64 0)), (9, tp (i64 0)), (10, tp (i64 1)), (19, tp (i64 0)), (20, tp (i64 1))] [(4, Blk.mk [u8 l.a0, u8 l.a1, u8 l.a2, u8 l.a3, u8 l.a4] true 5 none), (5, Blk.mk [u8 c.a0, u8 c.a1, u8 c.a2, u8 c.a3, u8 c.a4] true 5 none)]) (by kernel_rfl) trivial ?_
      refine ⟨St.mk [(3, tp (u8 inh)), (4, tp (V.ptr 4 0)), (5, tp (V.ptr 5 0)), (8, tp (i64 0)), (9, tp (i64 0)), (10, tp (i64 1))] [(4, Blk.mk [u8 l.a0, u8 l.a1, u8 l.a2, u8 l.a3, u8 l.a4] true 5 none), (5, Blk.mk [u8 c.a0, u8 c.a1, u8 c.a2, u8 c.a3, u8 c.a4] true 5 none)], by kernel_rfl, ?_⟩
      first | (obtain rfl : M = 0 := (by simp_all); rfl) | (exact ⟨4, (by omega), 1, k, rfl, (by omega), hk, (by simp_all), (by omega)⟩) | (exact ⟨4, (by omega), 1, 0, rfl, (by omega), (by omega), (by simp_all), (by omega)⟩)
    refine AWP.skip ?_
    refine AWP.region tcok hmix [] (os := []) (sf := St.mk [(3, tp (u8 inh)), (4, tp (V.ptr 4 0)), (5, tp (V.ptr 5 0)), (8, tp (i64 0)), (9, tp (i64 k)), (10, tp (i64 1)), (19, tp (i64 0)), (20, tp (i64 1)), (23, tp (vb (al inh 0)))] [(4, Blk.mk [u8 l.a0, u8 l.a1, u8 l.a2, u8 l.a3, u8 l.a4] true 5 none), (5, Blk.mk [u8 c.a0, u8 c.a1, u8 c.a2, u8 c.a3, u8 c.a4] true 5 none)]) (by kernel_rfl) trivial ?_
    refine ⟨St.mk [(3, tp (u8 inh)), (4, tp (V.ptr 4 0)), (5, tp (V.ptr 5 0)), (8, tp (i64 0)), (9, tp (i64 k)), (10, tp (i64 1))] [(4, Blk.mk [u8 l.a0, u8 l.a1, u8 l.a2, u8 l.a3, u8 l.a4] true 5 none), (5, Blk.mk [u8 c.a0, u8 c.a1, u8 c.a2, u8 c.a3, u8 c.a4] true 5 none)], by kernel_rfl, ?_⟩
    first | (obtain rfl : M = 0 := (by simp_all); rfl) | (exact ⟨4, (by omega), 1, k, rfl, (by omega), hk, (by simp_all), (by omega)⟩) | (exact ⟨4, (by omega), 1, 0, rfl, (by omega), (by omega), (by simp_all), (by omega)⟩)
  · have hM3 : (if al inh 1 = true then (if c.a1 < l.a1 then 1 else lev inh l c 3 2 1) else lev inh l c 3 2 k) = M := hM2
    clear hM2
    refine AWP.seq ?_
    refine AWP.seq ?_
    refine AWP.regionT tcok hmix [] [3, 4, 5, 8, 9, 10, 18] [4, 5] (os := []) (s' := St.mk [(3, tp (u8 inh)), (4, tp (V.ptr 4 0)), (5, tp (V.ptr 5 0)), (8, tp (i64 0)), (9, tp (i64 k)), (10, tp (i64 1)), (18, tp (vb true))] [(4, Blk.mk [u8 l.a0, u8 l.a1, u8 l.a2, u8 l.a3, u8 l.a4] true 5 none), (5, Blk.mk [u8 c.a0, u8 c.a1, u8 c.a2, u8 c.a3, u8 c.a4] true 5 none)]) (by kernel_rfl) trivial ?_
    refine AWP.cond (b := true) (by kernel_rfl) (fun _ => ?_) (fun h => by cases h)
    refine AWP.skip ?_
    refine AWP.seq ?_
    refine AWP.block ?_
    refine AWP.seq ?_
    refine AWP.regionT tcok hmix [(2, ⟨none, some ⟨vb (al inh 1), [], []⟩⟩)] [3, 4, 5, 8, 9, 10, 23] [4, 5] (os := [Con Tryd.prog 12 [] [u8 inh, i64 1] [] (vb (al inh 1))]) (s' := St.mk [(3, tp (u8 inh)), (4, tp (V.ptr 4 0)), (5, tp (V.ptr 5 0)), (8, tp (i64 0)), (9, tp (i64 k)), (10, tp (i64 1)), (23, tp (vb (al inh 1)))] [(4, Blk.mk [u8 l.a0, u8 l.a1, u8 l.a2, u8 l.a3, u8 l.a4] true 5 none), (5, Blk.mk [u8 c.a0, u8 c.a1, u8 c.a2, u8 c.a3, u8 c.a4] true 5 none)]) (by kernel_rfl) ⟨(con_rallowed (inh) (1) (by assumption) (by omega)), trivial⟩ ?_
    refine AWP.cond (b := al inh 1) (by kernel_rfl) (fun hq49 => ?_) (fun hq49 => ?_)
    · refine AWP.seq ?_
      refine AWP.seq ?_
      refine AWP.regionT tcok hmix [] [3, 4, 5, 8, 9, 10, 30] [4, 5] (os := []) (s' := St.mk [(3, tp (u8 inh)), (4, tp (V.ptr 4 0)), (5, tp (V.ptr 5 0)), (8, tp (i64 0)), (9, tp (i64 k)), (10, tp (i64 1)), (30, tp (vb (decide (c.a1 < l.a1))))] [(4, Blk.mk [u8 l.a0, u8 l.a1, u8 l.a2, u8 l.a3, u8 l.a4] true 5 none), (5, Blk.mk [u8 c.a0, u8 c.a1, u8 c.a2, u8 c.a3, u8 c.a4] true 5 none)]) (by kernel_rfl) trivial ?_
      refine AWP.cond (b := decide (c.a1 < l.a1)) (by kernel_rfl) (fun hq50 => ?_) (fun hq50 => ?_)
      · simp only [decide_eq_true_eq] at hq50
        refine AWP.seq ?_
        refine AWP.regionT tcok hmix [] [3, 4, 5, 8, 9, 10] [4, 5] (os := []) (s' := St.mk [(3, tp (u8 inh)), (4, tp (V.ptr 4 0)), (5, tp (V.ptr 5 0)), (8, tp (i64 1)), (9, tp (i64 k)), (10, tp (i64 1))] [(4, Blk.mk [u8 l.a0, u8 l.a1, u8 l.a2, u8 l.a3, u8 l.a4] true 5 none), (5, Blk.mk [u8 c.a0, u8 c.a1, u8 c.a2, u8 c.a3, u8 c.a4] true 5 none)]) (by kernel_rfl) trivial ?_
        refine AWP.ret ?_
        refine ⟨Or.inr rfl, Eq.trans (b := some ([], i64 1)) (by kernel_rfl) ?_⟩
        first | (obtain rfl : M = 1 := (by simp_all); rfl) | (exact ⟨3, (by omega), 2, k, rfl, (by omega), hk, (by simp_all), (by omega)⟩) | (exact ⟨3, (by omega), 2, 1, rfl, (by omega), (by omega), (by simp_all), (by omega)⟩)
      simp only [decide_eq_false_iff_not] at hq50
      refine AWP.skip ?_
      refine AWP.region tcok hmix [] (os := []) (sf := St.mk [(3, tp (u8 inh)), (4, tp (V.ptr 4 0)), (5, tp (V.ptr 5 0)), (8, tp (i64 0)), (9, tp (i64 1)), (10, tp (i64 1)), (30, tp (vb (decide (c.a1 < l.a1)))), (32, tp (i64 1))] [(4, Blk.mk [u8 l.a0, u8 l.a1, u8 l.a2, u8 l.a3, u8 l.a4] true 5 none), (5, Blk.mk [u8 c.a0, u8 c.a1, u8 c.a2, u8 c.a3, u8 c.a4] true 5 none)]) (by kernel_rfl) trivial ?_
      refine AWP.keep' [3, 4, 5, 8, 9, 10] [4, 5] (sf := St.mk [(3, tp (u8 inh)), (4, tp (V.ptr 4 0)), (5, tp (V.ptr 5 0)), (8, tp (i64 0)), (9, tp (i64 1)), (10, tp (i64 1))] [(4, Blk.mk [u8 l.a0, u8 l.a1, u8 l.a2, u8 l.a3, u8 l.a4] true 5 none), (5, Blk.mk [u8 c.a0, u8 c.a1, u8 c.a2, u8 c.a3, u8 c.a4] true 5 none)]) (by kernel_rfl) ?_
      refine AWP.region tcok hmix [] (os := []) (sf := St.mk [(3, tp (u8 inh)), (4, tp (V.ptr 4 0)), (5, tp (V.ptr 5 0)), (8, tp (i64 0)), (9, tp (i64 1)), (10, tp (i64 2)), (19, tp (i64 1)), (20, tp (i64 2))] [(4, Blk.mk [u8 l.a0, u8 l.a1, u8 l.a2, u8 l.a3, u8 l.a4] true 5 none), (5, Blk.mk [u8 c.a0, u8 c.a1, u8 c.a2, u8 c.a3, u8 c.a4] true 5 none)]) (by kernel_rfl) trivial ?_
      refine ⟨St.mk [(3, tp (u8 inh)), (4, tp (V.ptr 4 0)), (5, tp (V.ptr 5 0)), (8, tp (i64 0)), (9, tp (i64 1)), (10, tp (i64 2))] [(4, Blk.mk [u8 l.a0, u8 l.a1, u8 l.a2, u8 l.a3, u8 l.a4] true 5 none), (5, Blk.mk [u8 c.a0, u8 c.a1, u8 c.a2, u8 c.a3, u8 c.a4] true 5 none)], by kernel_rfl, ?_⟩
      first | (obtain rfl : M = 1 := (by simp_all); rfl) | (exact ⟨3, (by omega), 2, k, rfl, (by omega), hk, (by simp_all), (by omega)⟩) | (exact ⟨3, (by omega), 2, 1, rfl, (by omega), (by omega), (by simp_all), (by omega)⟩)
    refine AWP.skip ?_
    refine AWP.region tcok hmix [] (os := []) (sf := St.mk [(3, tp (u8 inh)), (4, tp (V.ptr 4 0)), (5, tp (V.ptr 5 0)), (8, tp (i64 0)), (9, tp (i64 k)), (10, tp (i64 2)), (19, tp (i64 1)), (20, tp (i64 2)), (23, tp (vb (al inh 1)))] [(4, Blk.mk [u8 l.a0, u8 l.a1, u8 l.a2, u8 l.a3, u8 l.a4] true 5 none), (5, Blk.mk [u8 c.a0, u8 c.a1, u8 c.a2, u8 c.a3, u8 c.a4] true 5 none)]) (by kernel_rfl) trivial ?_
    refine ⟨St.mk [(3, tp (u8 inh)), (4, tp (V.ptr 4 0)), (5, tp (V.ptr 5 0)), (8, tp (i64 0)), (9, tp (i64 k)), (10, tp (i64 2))] [(4, Blk.mk [u8 l.a0, u8 l.a1, u8 l.a2, u8 l.a3, u8 l.a4] true 5 none), (5, Blk.mk [u8 c.a0, u8 c.a1, u8 c.a2, u8 c.a3, u8 c.a4] true 5 none)], by kernel_rfl, ?_⟩
    first | (obtain rfl : M = 1 := (by simp_all); rfl) | (exact ⟨3, (by omega), 2, k, rfl, (by omega), hk, (by simp_all), (by omega)⟩) | (exact ⟨3, (by omega), 2, 1, rfl, (by omega), (by omega), (by simp_all), (by omega)⟩)
  · have hM3 : (if al inh 2 = true then (if c.a2 < l.a2 then 2 else lev inh l c 2 3 2) else lev inh l c 2 3 k) = M := hM2
    clear hM2
    refine AWP.seq ?_
    refine AWP.seq ?_
    refine AWP.regionT tcok hmix [] [3, 4, 5, 8, 9, 10, 18] [4, 5] (os := []) (s' := St.mk [(3, tp (u8 inh)), (4, tp (V.ptr 4 0)), (5, tp (V.ptr 5 0)), (8, tp (i64 0)), (9, tp (i64 k)), (10, tp (i64 2)), (18, tp (vb true))] [(4, Blk.mk [u8 l.a0, u8 l.a1, u8 l.a2, u8 l.a3, u8 l.a4] true 5 none), (5, Blk.mk [u8 c.a0, u8 c.a1, u8 c.a2, u8 c.a3, u8 c.a4] true 5 none)]) (by kernel_rfl) trivial ?_
    refine AWP.cond (b := true) (by kernel_rfl) (fun _ => ?_) (fun h => by cases h)
    refine AWP.skip ?_
    refine AWP.seq ?_
    refine AWP.block ?_
    refine AWP.seq ?_
    refine AWP.regionT tcok hmix [(2, ⟨none, some ⟨vb (al inh 2), [], []⟩⟩)] [3, 4, 5, 8, 9, 10, 23] [4, 5] (os := [Con Tryd.prog 12 [] [u8 inh, i64 2] [] (vb (al inh 2))]) (s' := St.mk [(3, tp (u8 inh)), (4, tp (V.ptr 4 0)), (5, tp (V.ptr 5 0)), (8, tp (i64 0)), (9, tp (i64 k)), (10, tp (i64 2)), (23, tp (vb (al inh 2)))] [(4, Blk.mk [u8 l.a0, u8 l.a1, u8 l.a2, u8 l.a3, u8 l.a4] true 5 none), (5, Blk.mk [u8 c.a0, u8 c.a1, u8 c.a2, u8 c.a3, u8 c.a4] true 5 none)]) (by kernel_rfl) ⟨(con_rallowed (inh) (2) (by assumption) (by omega)), trivial⟩ ?_
    refine AWP.cond (b := al inh 2) (by kernel_rfl) (fun hq52 => ?_) (fun hq52 => ?_)
    · refine AWP.seq ?_
      refine AWP.seq ?_
      refine AWP.regionT tcok hmix [] [3, 4, 5, 8, 9, 10, 30] [4, 5] (os := []) (s' := St.mk [(3, tp (u8 inh)), (4, tp (V.ptr 4 0)), (5, tp (V.ptr 5 0)), (8, tp (i64 0)), (9, tp (i64 k)), (10, tp (i64 2)), (30, tp (vb (decide (c.a2 < l.a2))))] [(4, Blk.mk [u8 l.a0, u8 l.a1, u8 l.a2, u8 l.a3, u8 l.a4] true 5 none), (5, Blk.mk [u8 c.a0, u8 c.a1, u8 c.a2, u8 c.a3, u8 c.a4] true 5 none)]) (by kernel_rfl) trivial ?_
      refine AWP.cond (b := decide (c.a2 < l.a2)) (by kernel_rfl) (fun hq53 => ?_) (fun hq53 => ?_)
      · simp only [decide_eq_true_eq] at hq53
        refine AWP.seq ?_
        refine AWP.regionT tcok hmix [] [3, 4, 5, 8, 9, 10] [4, 5] (os := []) (s' := St.mk [(3, tp (u8 inh)), (4, tp (V.ptr 4 0)), (5, tp (V.ptr 5 0)), (8, tp (i64 2)), (9, tp (i64 k)), (10, tp (i64 2))] [(4, Blk.mk [u8 l.a0, u8 l.a1, u8 l.a2, u8 l.a3, u8 l.a4] true 5 none), (5, Blk.mk [u8 c.a0, u8 c.a1, u8 c.a2, u8 c.a3, u8 c.a4] true 5 none)]) (by kernel_rfl) trivial ?_
        refine AWP.ret ?_
        refine ⟨Or.inr rfl, Eq.trans (b := some ([], i64 2)) (by kernel_rfl) ?_⟩
        first | (obtain rfl : M = 2 := (by simp_all); rfl) | (exact ⟨2, (by omega), 3, k, rfl, (by omega), hk, (by simp_all), (by omega)⟩) | (exact ⟨2, (by omega), 3, 2, rfl, (by omega), (by omega), (by simp_all), (by omega)⟩)
      simp only [decide_eq_false_iff_not] at hq53
      refine AWP.skip ?_
      refine AWP.region tcok hmix [] (os := []) (sf := St.mk [(3, tp (u8 inh)), (4, tp (V.ptr 4 0)), (5, tp (V.ptr 5 0)), (8, tp (i64 0)), (9, tp (i64 2)), (10, tp (i64 2)), (30, tp (vb (decide (c.a2 < l.a2)))), (32, tp (i64 2))] [(4, Blk.mk [u8 l.a0, u8 l.a1, u8 l.a2, u8 l.a3, u8 l.a4] true 5 none), (5, Blk.mk [u8 c.a0, u8 c.a1, u8 c.a2, u8 c.a3, u8 c.a4] true 5 none)]) (by kernel_rfl) trivial ?_
      refine AWP.keep' [3, 4, 5, 8, 9, 10] [4, 5] (sf := St.mk [(3, tp (u8 inh)), (4, tp (V.ptr 4 0)), (5, tp (V.ptr 5 0)), (8, tp (i64 0)), (9, tp (i64 2)), (10, tp (i64 2))] [(4, Blk.mk [u8 l.a0, u8 l.a1, u8 l.a2, u8 l.a3, u8 l.a4] true 5 none), (5, Blk.mk [u8 c.a0, u8 c.a1, u8 c.a2, u8 c.a3, u8 c.a4] true 5 none)]) (by kernel_rfl) ?_
      refine AWP.region tcok hmix [] (os := []) (sf := St.mk [(3, tp (u8 inh)), (4, tp (V.ptr 4 0)), (5, tp (V.ptr 5 0)), (8, tp (i64 0)), (9, tp (i64 2)), (10, tp (i64 3)), (19, tp (i64 2)), (20, tp (i64 3))] [(4, Blk.mk [u8 l.a0, u8 l.a1, u8 l.a2, u8 l.a3, u8 l.a4] true 5 none), (5, Blk.mk [u8 c.a0, u8 c.a1, u8 c.a2, u8 c.a3, u8 c.a4] true 5 none)]) (by kernel_rfl) trivial ?_
      refine ⟨St.mk [(3, tp (u8 inh)), (4, tp (V.ptr 4 0)), (5, tp (V.ptr 5 0)), (8, tp (i64 0)), (9, tp (i64 2)), (10, tp (i64 3))] [(4, Blk.mk [u8 l.a0, u8 l.a1, u8 l.a2, u8 l.a3, u8 l.a4] true 5 none), (5, Blk.mk [u8 c.a0, u8 c.a1, u8 c.a2, u8 c.a3, u8 c.a4] true 5 none)], by kernel_rfl, ?_⟩
      first | (obtain rfl : M = 2 := (by simp_all); rfl) | (exact ⟨2, (by omega), 3, k, rfl, (by omega), hk, (by simp_all), (by omega)⟩) | (exact ⟨2, (by omega), 3, 2, rfl, (by omega), (by omega), (by simp_all), (by omega)⟩)
    refine AWP.skip ?_
    refine AWP.region tcok hmix [] (os := []) (sf := St.mk [(3, tp (u8 inh)), (4, tp (V.ptr 4 0)), (5, tp (V.ptr 5 0)), (8, tp (i64 0)), (9, tp (i64 k)), (10, tp (i64 3)), (19, tp (i64 2)), (20, tp (i64 3)), (23, tp (vb (al inh 2)))] [(4, Blk.mk [u8 l.a0, u8 l.a1, u8 l.a2, u8 l.a3, u8 l.a4] true 5 none), (5, Blk.mk [u8 c.a0, u8 c.a1, u8 c.a2, u8 c.a3, u8 c.a4] true 5 none)]) (by kernel_rfl) trivial ?_
    refine ⟨St.mk [(3, tp (u8 inh)), (4, tp (V.ptr 4 0)), (5, tp (V.ptr 5 0)), (8, tp (i64 0)), (9, tp (i64 k)), (10, tp (i64 3))] [(4, Blk.mk [u8 l.a0, u8 l.a1, u8 l.a2, u8 l.a3, u8 l.a4] true 5 none), (5, Blk.mk [u8 c.a0, u8 c.a1, u8 c.a2, u8 c.a3, u8 c.a4] true 5 none)], by kernel_rfl, ?_⟩
    first | (obtain rfl : M = 2 := (by simp_all); rfl) | (exact ⟨2, (by omega), 3, k, rfl, (by omega), hk, (by simp_all), (by omega)⟩) | (exact ⟨2, (by omega), 3, 2, rfl, (by omega), (by omega), (by simp_all), (by omega)⟩)
  · have hM3 : (if al inh 3 = true then (if c.a3 < l.a3 then 3 else lev inh l c 1 4 3) else lev inh l c 1 4 k) = M := hM2
    clear hM2
    refine AWP.seq ?_
    refine AWP.seq ?_
    refine AWP.regionT tcok hmix [] [3, 4, 5, 8, 9, 10, 18] [4, 5] (os := []) (s' := St.mk [(3, tp (u8 inh)), (4, tp (V.ptr 4 0)), (5, tp (V.ptr 5 0)), (8, tp (i64 0)), (9, tp (i64 k)), (10, tp (i64 3)), (18, tp (vb true))] [(4, Blk.mk [u8 l.a0, u8 l.a1, u8 l.a2, u8 l.a3, u8 l.a4] true 5 none), (5, Blk.mk [u8 c.a0, u8 c.a1, u8 c.a2, u8 c.a3, u8 c.a4] true 5 none)]) (by kernel_rfl) trivial ?_
    refine AWP.cond (b := true) (by kernel_rfl) (fun _ => ?_) (fun h => by cases h)
    refine AWP.skip ?_
    refine AWP.seq ?_
    refine AWP.block ?_
    refine AWP.seq ?_
    refine AWP.regionT tcok hmix [(2, ⟨none, some ⟨vb (al inh 3), [], []⟩⟩)] [3, 4, 5, 8, 9, 10, 23] [4, 5] (os := [Con Tryd.prog 12 [] [u8 inh, i64 3] [] (vb (al inh 3))]) (s' := St.mk [(3, tp (u8 inh)), (4, tp (V.ptr 4 0)), (5, tp (V.ptr 5 0)), (8, tp (i64 0)), (9, tp (i64 k)), (10, tp (i64 3)), (23, tp (vb (al inh 3)))] [(4, Blk.mk [u8 l.a0, u8 l.a1, u8 l.a2, u8 l.a3, u8 l.a4] true 5 none), (5, Blk.mk [u8 c.a0, u8 c.a1, u8 c.a2, u8 c.a3, u8 c.a4] true 5 none)]) (by kernel_rfl) ⟨(con_rallowed (inh) (3) (by assumption) (by omega)), trivial⟩ ?_
    refine AWP.cond (b := al inh 3) (by kernel_rfl) (fun hq55 => ?_) (fun hq55 => ?_)
    · refine AWP.seq ?_
      refine AWP.seq ?_
      refine AWP.regionT tcok hmix [] [3, 4, 5, 8, 9, 10, 30] [4, 5] (os := []) (s' := St.mk [(3, tp (u8 inh)), (4, tp (V.ptr 4 0)), (5, tp (V.ptr 5 0)), (8, tp (i64 0)), (9, tp (i64 k)), (10, tp (i64 3)), (30, tp (vb (decide (c.a3 < l.a3))))] [(4, Blk.mk [u8 l.a0, u8 l.a1, u8 l.a2, u8 l.a3, u8 l.a4] true 5 none), (5, Blk.mk [u8 c.a0, u8 c.a1, u8 c.a2, u8 c.a3, u8 c.a4] true 5 none)]) (by kernel_rfl) trivial ?_
      refine AWP.cond (b := decide (c.a3 < l.a3)) (by kernel_rfl) (fun hq56 => ?_) (fun hq56 => ?_)
      · simp only [decide_eq_true_eq] at hq56
        refine AWP.seq ?_
        refine AWP.regionT tcok hmix [] [3, 4, 5, 8, 9, 10] [4, 5] (os := []) (s' := St.mk [(3, tp (u8 inh)), (4, tp (V.ptr 4 0)), (5, tp (V.ptr 5 0)), (8, tp (i64 3)), (9, tp (i64 k)), (10, tp (i64 3))] [(4, Blk.mk [u8 l.a0, u8 l.a1, u8 l.a2, u8 l.a3, u8 l.a4] true 5 none), (5, Blk.mk [u8 c.a0, u8 c.a1, u8 c.a2, u8 c.a3, u8 c.a4] true 5 none)]) (by kernel_rfl) trivial ?_
        refine AWP.ret ?_
        refine ⟨Or.inr rfl, Eq.trans (b := some ([], i64 3)) (by kernel_rfl) ?_⟩
        first | (obtain rfl : M = 3 := (by simp_all); rfl) | (exact ⟨1, (by omega), 4, k, rfl, (by omega), hk, (by simp_all), (by omega)⟩) | (exact ⟨1, (by omega), 4, 3, rfl, (by omega), (by omega), (by simp_all), (by omega)⟩)
      simp only [decide_eq_false_iff_not] at hq56
      refine AWP.skip ?_
      refine AWP.region tcok hmix [] (os := []) (sf := St.mk [(3, tp (u8 inh)), (4, tp (V.ptr 4 0)), (5, tp (V.ptr 5 0)), (8, tp (i64 0)), (9, tp (i64 3)), (10, tp (i64 3)), (30, tp (vb (decide (c.a3 < l.a3)))), (32, tp (i64 3))] [(4, Blk.mk [u8 l.a0, u8 l.a1, u8 l.a2, u8 l.a3, u8 l.a4] true 5 none), (5, Blk.mk [u8 c.a0, u8 c.a1, u8 c.a2, u8 c.a3, u8 c.a4] true 5 none)]) (by kernel_rfl) trivial ?_
      refine AWP.keep' [3, 4, 5, 8, 9, 10] [4, 5] (sf := St.mk [(3, tp (u8 inh)), (4, tp (V.ptr 4 0)), (5, tp (V.ptr 5 0)), (8, tp (i64 0)), (9, tp (i64 3)), (10, tp (i64 3))] [(4, Blk.mk [u8 l.a0, u8 l.a1, u8 l.a2, u8 l.a3, u8 l.a4] true 5 none), (5, Blk.mk [u8 c.a0, u8 c.a1, u8 c.a2, u8 c.a3, u8 c.a4] true 5 none)]) (by kernel_rfl) ?_
      refine AWP.region tcok hmix [] (os := []) (sf := St.mk [(3, tp (u8 inh)), (4, tp (V.ptr 4 0)), (5, tp (V.ptr 5 0)), (8, tp (i64 0)), (9, tp (i64 3)), (10, tp (i64 4)), (19, tp (i64 3)), (20, tp (i64 4))] [(4, Blk.mk [u8 l.a0, u8 l.a1, u8 l.a2, u8 l.a3, u8 l.a4] true 5 none), (5, Blk.mk [u8 c.a0, u8 c.a1, u8 c.a2, u8 c.a3, u8 c.a4] true 5 none)]) (by kernel_rfl) trivial ?_
      refine ⟨St.mk [(3, tp (u8 inh)), (4, tp (V.ptr 4 0)), (5, tp (V.ptr 5 0)), (8, tp (i64 0)), (9, tp (i64 3)), (10, tp (i64 4))] [(4, Blk.mk [u8 l.a0, u8 l.a1, u8 l.a2, u8 l.a3, u8 l.a4] true 5 none), (5, Blk.mk [u8 c.a0, u8 c.a1, u8 c.a2, u8 c.a3, u8 c.a4] true 5 none)], by kernel_rfl, ?_⟩
      first | (obtain rfl : M = 3 := (by simp_all); rfl) | (exact ⟨1, (by omega), 4, k, rfl, (by omega), hk, (by simp_all), (by omega)⟩) | (exact ⟨1, (by omega), 4, 3, rfl, (by omega), (by omega), (by simp_all), (by omega)⟩)
    refine AWP.skip ?_
    refine AWP.region tcok hmix [] (os := []) (sf := St.mk [(3, tp (u8 inh)), (4, tp (V.ptr 4 0)), (5, tp (V.ptr 5 0)), (8, tp (i64 0)), (9, tp (i64 k)), (10, tp (i64 4)), (19, tp (i64 3)), (20, tp (i64 4)), (23, tp (vb (al inh 3)))] [(4, Blk.mk [u8 l.a0, u8 l.a1, u8 l.a2, u8 l.a3, u8 l.a4] true 5 none), (5, Blk.mk [u8 c.a0, u8 c.a1, u8 c.a2, u8 c.a3, u8 c.a4] true 5 none)]) (by kernel_rfl) trivial ?_
    refine ⟨St.mk [(3, tp (u8 inh)), (4, tp (V.ptr 4 0)), (5, tp (V.ptr 5 0)), (8, tp (i64 0)), (9, tp (i64 k)), (10, tp (i64 4))] [(4, Blk.mk [u8 l.a0, u8 l.a1, u8 l.a2, u8 l.a3, u8 l.a4] true 5 none), (5, Blk.mk [u8 c.a0, u8 c.a1, u8 c.a2, u8 c.a3, u8 c.a4] true 5 none)], by kernel_rfl, ?_⟩
    first | (obtain rfl : M = 3 := (by simp_all); rfl) | (exact ⟨1, (by omega), 4, k, rfl, (by omega), hk, (by simp_all), (by omega)⟩) | (exact ⟨1, (by omega), 4, 3, rfl, (by omega), (by omega), (by simp_all), (by omega)⟩)
  · have hM3 : (if al inh 4 = true then (if c.a4 < l.a4 then 4 else lev inh l c 0 5 4) else lev inh l c 0 5 k) = M := hM2
    clear hM2
    refine AWP.seq ?_
    refine AWP.seq ?_
    refine AWP.regionT tcok hmix [] [3, 4, 5, 8, 9, 10, 18] [4, 5] (os := []) (s' := St.mk [(3, tp (u8 inh)), (4, tp (V.ptr 4 0)), (5, tp (V.ptr 5 0)), (8, tp (i64 0)), (9, tp (i64 k)), (10, tp (i64 4)), (18, tp (vb true))] [(4, Blk.mk [u8 l.a0, u8 l.a1, u8 l.a2, u8 l.a3, u8 l.a4] true 5 none), (5, Blk.mk [u8 c.a0, u8 c.a1, u8 c.a2, u8 c.a3, u8 c.a4] true 5 none)]) (by kernel_rfl) trivial ?_
    refine AWP.cond (b := true) (by kernel_rfl) (fun _ => ?_) (fun h => by cases h)
    refine AWP.skip ?_
    refine AWP.seq ?_
    refine AWP.block ?_
    refine AWP.seq ?_
    refine AWP.regionT tcok hmix [(2, ⟨none, some ⟨vb (al inh 4), [], []⟩⟩)] [3, 4, 5, 8, 9, 10, 23] [4, 5] (os := [Con Tryd.prog 12 [] [u8 inh, i64 4] [] (vb (al inh 4))]) (s' := St.mk [(3, tp (u8 inh)), (4, tp (V.ptr 4 0)), (5, tp (V.ptr 5 0)), (8, tp (i64 0)), (9, tp (i64 k)), (10, tp (i64 4)), (23, tp (vb (al inh 4)))] [(4, Blk.mk [u8 l.a0, u8 l.a1, u8 l.a2, u8 l.a3, u8 l.a4] true 5 none), (5, Blk.mk [u8 c.a0, u8 c.a1, u8 c.a2, u8 c.a3, u8 c.a4] true 5 none)]) (by kernel_rfl) ⟨(con_rallowed (inh) (4) (by assumption) (by omega)), trivial⟩ ?_
    refine AWP.cond (b := al inh 4) (by kernel_rfl) (fun hq58 => ?_) (fun hq58 => ?_)
    · refine AWP.seq ?_
      refine AWP.seq ?_
      refine AWP.regionT tcok hmix [] [3, 4, 5, 8, 9, 10, 30] [4, 5] (os := []) (s' := St.mk [(3, tp (u8 inh)), (4, tp (V.ptr 4 0)), (5, tp (V.ptr 5 0)), (8, tp (i64 0)), (9, tp (i64 k)), (10, tp (i64 4)), (30, tp (vb (decide (c.a4 < l.a4))))] [(4, Blk.mk [u8 l.a0, u8 l.a1, u8 l.a2, u8 l.a3, u8 l.a4] true 5 none), (5, Blk.mk [u8 c.a0, u8 c.a1, u8 c.a2, u8 c.a3, u8 c.a4] true 5 none)]) (by kernel_rfl) trivial ?_
      refine AWP.cond (b := decide (c.a4 < l.a4)) (by kernel_rfl) (fun hq59 => ?_) (fun hq59 => ?_)
      · simp only [decide_eq_true_eq] at hq59
        refine AWP.seq ?_
        refine AWP.regionT tcok hmix [] [3, 4, 5, 8, 9, 10] [4, 5] (os := []) (s' := St.mk [(3, tp (u8 inh)), (4, tp (V.ptr 4 0)), (5, tp (V.ptr 5 0)), (8, tp (i64 4)), (9, tp (i64 k)), (10, tp (i64 4))] [(4, Blk.mk [u8 l.a0, u8 l.a1, u8 l.a2, u8 l.a3, u8 l.a4] true 5 none), (5, Blk.mk [u8 c.a0, u8 c.a1, u8 c.a2, u8 c.a3, u8 c.a4] true 5 none)]) (by kernel_rfl) trivial ?_
        refine AWP.ret ?_
        refine ⟨Or.inr rfl, Eq.trans (b := some ([], i64 4)) (by kernel_rfl) ?_⟩
        first | (obtain rfl : M = 4 := (by simp_all); rfl) | (exact ⟨0, (by omega), 5, k, rfl, (by omega), hk, (by simp_all), (by omega)⟩) | (exact ⟨0, (by omega), 5, 4, rfl, (by omega), (by omega), (by simp_all), (by omega)⟩)
      simp only [decide_eq_false_iff_not] at hq59
      refine AWP.skip ?_
      refine AWP.region tcok hmix [] (os := []) (sf := St.mk [(3, tp (u8 inh)), (4, tp (V.ptr 4 0)), (5, tp (V.ptr 5 0)), (8, tp (i64 0)), (9, tp (i64 4)), (10, tp (i64 4)), (30, tp (vb (decide (c.a4 < l.a4)))), (32, tp (i64 4))] [(4, Blk.mk [u8 l.a0, u8 l.a1, u8 l.a2, u8 l.a3, u8 l.a4] true 5 none), (5, Blk.mk [u8 c.a0, u8 c.a1, u8 c.a2, u8 c.a3, u8 c.a4] true 5 none)]) (by kernel_rfl) trivial ?_
      refine AWP.keep' [3, 4, 5, 8, 9, 10] [4, 5] (sf := St.mk [(3, tp (u8 inh)), (4, tp (V.ptr 4 0)), (5, tp (V.ptr 5 0)), (8, tp (i64 0)), (9, tp (i64 4)), (10, tp (i64 4))] [(4, Blk.mk [u8 l.a0, u8 l.a1, u8 l.a2, u8 l.a3, u8 l.a4] true 5 none), (5, Blk.mk [u8 c.a0, u8 c.a1, u8 c.a2, u8 c.a3, u8 c.a4] true 5 none)]) (by kernel_rfl) ?_
      refine AWP.region tcok hmix [] (os := []) (sf := St.mk [(3, tp (u8 inh)), (4, tp (V.ptr 4 0)), (5, tp (V.ptr 5 0)), (8, tp (i64 0)), (9, tp (i64 4)), (10, tp (i64 5)), (19, tp (i64 4)), (20, tp (i64 5))] [(4, Blk.mk [u8 l.a0, u8 l.a1, u8 l.a2, u8 l.a3, u8 l.a4] true 5 none), (5, Blk.mk [u8 c.a0, u8 c.a1, u8 c.a2, u8 c.a3, u8 c.a4] true 5 none)]) (by kernel_rfl) trivial ?_
      refine ⟨St.mk [(3, tp (u8 inh)), (4, tp (V.ptr 4 0)), (5, tp (V.ptr 5 0)), (8, tp (i64 0)), (9, tp (i64 4)), (10, tp (i64 5))] [(4, Blk.mk [u8 l.a0, u8 l.a1, u8 l.a2, u8 l.a3, u8 l.a4] true 5 none), (5, Blk.mk [u8 c.a0, u8 c.a1, u8 c.a2, u8 c.a3, u8 c.a4] true 5 none)], by kernel_rfl, ?_⟩
      first | (obtain rfl : M = 4 := (by simp_all); rfl) | (exact ⟨0, (by omega), 5, k, rfl, (by omega), hk, (by simp_all), (by omega)⟩) | (exact ⟨0, (by omega), 5, 4, rfl, (by omega), (by omega), (by simp_all), (by omega)⟩)
    refine AWP.skip ?_
    refine AWP.region tcok hmix [] (os := []) (sf := St.mk [(3, tp (u8 inh)), (4, tp (V.ptr 4 0)), (5, tp (V.ptr 5 0)), (8, tp (i64 0)), (9, tp (i64 k)), (10, tp (i64 5)), (19, tp (i64 4)), (20, tp (i64 5)), (23, tp (vb (al inh 4)))] [(4, Blk.mk [u8 l.a0, u8 l.a1, u8 l.a2, u8 l.a3, u8 l.a4] true 5 none), (5, Blk.mk [u8 c.a0, u8 c.a1, u8 c.a2, u8 c.a3, u8 c.a4] true 5 none)]) (by kernel_rfl) trivial ?_
    refine ⟨St.mk [(3, tp (u8 inh)), (4, tp (V.ptr 4 0)), (5, tp (V.ptr 5 0)), (8, tp (i64 0)), (9, tp (i64 k)), (10, tp (i64 5))] [(4, Blk.mk [u8 l.a0, u8 l.a1, u8 l.a2, u8 l.a3, u8 l.a4] true 5 none), (5, Blk.mk [u8 c.a0, u8 c.a1, u8 c.a2, u8 c.a3, u8 c.a4] true 5 none)], by kernel_rfl, ?_⟩
    first | (obtain rfl : M = 4 := (by simp_all); rfl) | (exact ⟨0, (by omega), 5, k, rfl, (by omega), hk, (by simp_all), (by omega)⟩) | (exact ⟨0, (by omega), 5, 4, rfl, (by omega), (by omega), (by simp_all), (by omega)⟩)
  · obtain rfl : k = M := hM2
    refine AWP.seq ?_
    refine AWP.seq ?_
    refine AWP.regionT tcok hmix [] [3, 4, 5, 8, 9, 10, 18] [4, 5] (os := []) (s' := St.mk [(3, tp (u8 inh)), (4, tp (V.ptr 4 0)), (5, tp (V.ptr 5 0)), (8, tp (i64 0)), (9, tp (i64 k)), (10, tp (i64 5)), (18, tp (vb false))] [(4, Blk.mk [u8 l.a0, u8 l.a1, u8 l.a2, u8 l.a3, u8 l.a4] true 5 none), (5, Blk.mk [u8 c.a0, u8 c.a1, u8 c.a2, u8 c.a3, u8 c.a4] true 5 none)]) (by kernel_rfl) trivial ?_
    refine AWP.cond (b := false) (by kernel_rfl) (fun h => by cases h) (fun _ => ?_)
    refine AWP.exit ?_
    refine AWP.seq ?_
    refine AWP.regionT tcok hmix [] [8] [] (os := []) (s' := St.mk [(8, tp (i64 k))] []) (by kernel_rfl) trivial ?_
    refine AWP.ret ?_
    refine ⟨Or.inr rfl, Eq.trans (b := some ([], i64 k)) (by kernel_rfl) ?_⟩
    rfl
theorem con_rlevel_no (inh : Int) (l c : F5) (lv un ev : Int) (hr : aright lv un = false) :
    Con Tryd.prog 19 [] [f5V l, f5V c, .agg true [u8 lv, i64 un, u8 ev], u8 inh] [] (i64 (-1)) := by
  refine Con.of (C := ⟨Tryd.prog, tc, Tryd.f19.ntmps⟩) [] tcok Tryd.func19 rfl rfl (by kernel_rfl) (by kernel_rfl) ?_
  refine AWP.seq ?_
  refine AWP.regionT tcok hmix [] [3, 4, 5, 6, 8] [4, 5, 6] (os := []) (s' := St.mk [(3, tp (u8 inh)), (4, tp (V.ptr 4 0)), (5, tp (V.ptr 5 0)), (6, tp (V.ptr 6 0)), (8, tp (i64 0))] [(4, Blk.mk [u8 l.a0, u8 l.a1, u8 l.a2, u8 l.a3, u8 l.a4] true 5 none), (5, Blk.mk [u8 c.a0, u8 c.a1, u8 c.a2, u8 c.a3, u8 c.a4] true 5 none), (6, Blk.mk [u8 lv, i64 un, u8 ev] true 3 none)]) (by kernel_rfl) trivial ?_
  refine AWP.seq ?_
  refine AWP.seq ?_
  refine AWP.regionT tcok hmix [(1, ⟨none, some ⟨vb (aright lv un), [], []⟩⟩)] [3, 4, 5, 6, 8, 13] [4, 5, 6] (os := [Con Tryd.prog 39 [] [V.agg true [u8 lv, i64 un, u8 ev]] [] (vb (aright lv un))]) (s' := St.mk [(3, tp (u8 inh)), (4, tp (V.ptr 4 0)), (5, tp (V.ptr 5 0)), (6, tp (V.ptr 6 0)), (8, tp (i64 0)), (13, tp (vb !aright lv un))] [(4, Blk.mk [u8 l.a0, u8 l.a1, u8 l.a2, u8 l.a3, u8 l.a4] true 5 none), (5, Blk.mk [u8 c.a0, u8 c.a1, u8 c.a2, u8 c.a3, u8 c.a4] true 5 none), (6, Blk.mk [u8 lv, i64 un, u8 ev] true 3 none)]) (by kernel_rfl) ⟨(con_rright (lv) (un) (ev)), trivial⟩ ?_
  refine AWP.cond (b := !aright lv un) (by kernel_rfl) (fun hq61 => ?_) (fun hq61 => ?_)
  · simp only [Bool.not_eq_true'] at hq61
    refine AWP.seq ?_
    refine AWP.regionT tcok hmix [] [3, 4, 5, 6, 8] [4, 5, 6] (os := []) (s' := St.mk [(3, tp (u8 inh)), (4, tp (V.ptr 4 0)), (5, tp (V.ptr 5 0)), (6, tp (V.ptr 6 0)), (8, tp (i64 (-1)))] [(4, Blk.mk [u8 l.a0, u8 l.a1, u8 l.a2, u8 l.a3, u8 l.a4] true 5 none), (5, Blk.mk [u8 c.a0, u8 c.a1, u8 c.a2, u8 c.a3, u8 c.a4] true 5 none), (6, Blk.mk [u8 lv, i64 un, u8 ev] true 3 none)]) (by kernel_rfl) trivial ?_
    refine AWP.ret ?_
    refine ⟨Or.inr rfl, Eq.trans (b := some ([], i64 (-1))) (by kernel_rfl) ?_⟩
    first | rfl | (exfalso; simp_all; done)
  simp only [Bool.not_eq_false'] at hq61
  (rw [hr] at hq61; cases hq61)
end Go.Proofs.YtklbonfbiakebaaDoor
