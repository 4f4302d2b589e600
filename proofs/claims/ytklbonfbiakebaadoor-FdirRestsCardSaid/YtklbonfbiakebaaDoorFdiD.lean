/- Chapter 22: FdirRests. -/
import Derived.Test.YtklbonfbiakebaaDoorFdiB
namespace Go.Proofs.YtklbonfbiakebaaDoor
open Go.Ab
set_option linter.unusedSimpArgs false
set_option linter.unusedVariables false
set_option maxHeartbeats 8000000
theorem lev_first (inh : Int) (l c : F5) (f : Nat) (k a : Int) (h : al inh k = true) (h2 : c.get k < l.get k) : lev inh l c (f + 1) k a = k := by
  unfold lev
  rw [if_pos h, if_pos h2]
theorem lev_none (l c : F5) (a : Int) : ∀ (f : Nat) (n : Int), 0 ≤ n → n + f ≤ 5 → lev 31 l c f n a = a
  | 0, n, _, _ => rfl
  | f + 1, n, hn, h => by
    have : al 31 n = false := by
      rcases (by omega : n = 0 ∨ n = 1 ∨ n = 2 ∨ n = 3 ∨ n = 4) with rfl | rfl | rfl | rfl | rfl <;> rfl
    unfold lev
    rw [this]
    simp only [Bool.false_eq_true, if_false]
    exact lev_none l c a f (n + 1) (by omega) (by omega)
theorem con_full (l c : F5) (k un ev : Int) (hc : c.ok) (hk : 0 ≤ k ∧ k < 5) (hu : -1 ≤ un ∧ un < 16) : Con Tryd.prog 13 [] [ladV l c, .agg true [u8 k, i64 un, u8 ev], u8 31] [] (.tup [ladV l c, .agg true [u8 0, i64 0, u8 0], vb false]) :=
  con_raise 31 l c k un ev (-1) (by omega) hc hk (by simp [aright]; omega) (lev_none l c (-1) _ k hk.1 (by omega))
theorem con_free_0 (inh : Int) (l c : F5) (un ev : Int) (hi : 0 ≤ inh ∧ inh < 256) (hc : c.ok) (hu : -1 ≤ un ∧ un < 16) (ha : al inh 0 = true) (hr : c.a0 < l.a0) : Con Tryd.prog 13 [] [ladV l c, .agg true [u8 0, i64 un, u8 ev], u8 inh] [] (.tup [ladV l (c.inc 0), .agg true [u8 0, i64 un, u8 ev], vb true]) :=
  con_raise inh l c 0 un ev 0 hi hc (by omega) (by simp [aright]; omega) (lev_first inh l c 4 0 (-1) ha hr)
theorem con_free_1 (inh : Int) (l c : F5) (un ev : Int) (hi : 0 ≤ inh ∧ inh < 256) (hc : c.ok) (hu : -1 ≤ un ∧ un < 16) (ha : al inh 1 = true) (hr : c.a1 < l.a1) : Con Tryd.prog 13 [] [ladV l c, .agg true [u8 1, i64 un, u8 ev], u8 inh] [] (.tup [ladV l (c.inc 1), .agg true [u8 1, i64 un, u8 ev], vb true]) :=
  con_raise inh l c 1 un ev 1 hi hc (by omega) (by simp [aright]; omega) (lev_first inh l c 3 1 (-1) ha hr)
theorem con_free_2 (inh : Int) (l c : F5) (un ev : Int) (hi : 0 ≤ inh ∧ inh < 256) (hc : c.ok) (hu : -1 ≤ un ∧ un < 16) (ha : al inh 2 = true) (hr : c.a2 < l.a2) : Con Tryd.prog 13 [] [ladV l c, .agg true [u8 2, i64 un, u8 ev], u8 inh] [] (.tup [ladV l (c.inc 2), .agg true [u8 2, i64 un, u8 ev], vb true]) :=
  con_raise inh l c 2 un ev 2 hi hc (by omega) (by simp [aright]; omega) (lev_first inh l c 2 2 (-1) ha hr)
theorem con_free_3 (inh : Int) (l c : F5) (un ev : Int) (hi : 0 ≤ inh ∧ inh < 256) (hc : c.ok) (hu : -1 ≤ un ∧ un < 16) (ha : al inh 3 = true) (hr : c.a3 < l.a3) : Con Tryd.prog 13 [] [ladV l c, .agg true [u8 3, i64 un, u8 ev], u8 inh] [] (.tup [ladV l (c.inc 3), .agg true [u8 3, i64 un, u8 ev], vb true]) :=
  con_raise inh l c 3 un ev 3 hi hc (by omega) (by simp [aright]; omega) (lev_first inh l c 1 3 (-1) ha hr)
theorem con_free_4 (inh : Int) (l c : F5) (un ev : Int) (hi : 0 ≤ inh ∧ inh < 256) (hc : c.ok) (hu : -1 ≤ un ∧ un < 16) (ha : al inh 4 = true) (hr : c.a4 < l.a4) : Con Tryd.prog 13 [] [ladV l c, .agg true [u8 4, i64 un, u8 ev], u8 inh] [] (.tup [ladV l (c.inc 4), .agg true [u8 4, i64 un, u8 ev], vb true]) :=
  con_raise inh l c 4 un ev 4 hi hc (by omega) (by simp [aright]; omega) (lev_first inh l c 0 4 (-1) ha hr)
theorem ok_mk {a b c d e : Int} (h : 0 ≤ a ∧ a < 256 ∧ 0 ≤ b ∧ b < 256 ∧ 0 ≤ c ∧ c < 256 ∧ 0 ≤ d ∧ d < 256 ∧ 0 ≤ e ∧ e < 256) : (F5.mk a b c d e).ok := h
theorem law_rests_0 (inh : Int) (l c : F5) (lv un ev : Int) (hi : 0 ≤ inh ∧ inh < 256) (hl : l.ok) (hc : c.ok) (hlv : 0 ≤ lv ∧ lv < 256) (hev : 0 ≤ ev ∧ ev < 256) (hk : lv.tmod 5 = 0) :
    Con Tryd.prog 6 [] [ladV l c, .agg true [u8 lv, i64 un, u8 ev], u8 inh] [] (vb true) := by
  refine Con.of (C := ⟨Tryd.prog, tc, Tryd.f6.ntmps⟩) [] tcok Tryd.func6 rfl rfl (by kernel_rfl) (by kernel_rfl) ?_
  refine AWP.seq ?_
  refine AWP.regionT tcok hmix [] [2, 3, 4, 6] [3, 4] (os := []) (s' := St.mk [(2, tp (u8 inh)), (3, tp (V.ptr 3 0)), (4, tp (V.ptr 4 0)), (6, tp (vb false))] [(3, Blk.mk [u8 l.a0, u8 l.a1, u8 l.a2, u8 l.a3, u8 l.a4, u8 c.a0, u8 c.a1, u8 c.a2, u8 c.a3, u8 c.a4] true 10 none), (4, Blk.mk [u8 lv, i64 un, u8 ev] true 3 none)]) (by kernel_rfl) trivial ?_
  refine AWP.seq ?_
  refine AWP.seq ?_
  refine AWP.regionT tcok hmix [(0, ⟨none, some ⟨vb true, [], []⟩⟩)] [2, 3, 4, 6, 23] [3, 4] (os := [Con Tryd.prog 11 [] [] [] (vb true)]) (s' := St.mk [(2, tp (u8 inh)), (3, tp (V.ptr 3 0)), (4, tp (V.ptr 4 0)), (6, tp (vb false)), (23, tp (vb false))] [(3, Blk.mk [u8 l.a0, u8 l.a1, u8 l.a2, u8 l.a3, u8 l.a4, u8 c.a0, u8 c.a1, u8 c.a2, u8 c.a3, u8 c.a4] true 10 none), (4, Blk.mk [u8 lv, i64 un, u8 ev] true 3 none)]) (by kernel_rfl) ⟨(con_awake22 ), trivial⟩ ?_
  refine AWP.cond (b := false) (by kernel_rfl) (fun h => by cases h) (fun _ => ?_)
  refine AWP.skip ?_
  refine AWP.seq ?_
  refine AWP.seq ?_
  refine AWP.regionT tcok hmix [] [2, 3, 4, 6, 24] [3, 4] (os := []) (s' := St.mk [(2, tp (u8 inh)), (3, tp (V.ptr 3 0)), (4, tp (V.ptr 4 0)), (6, tp (vb false)), (24, tp (i64 0))] [(3, Blk.mk [u8 l.a0, u8 l.a1, u8 l.a2, u8 l.a3, u8 l.a4, u8 c.a0, u8 c.a1, u8 c.a2, u8 c.a3, u8 c.a4] true 10 none), (4, Blk.mk [u8 lv, i64 un, u8 ev] true 3 none)]) (by kernel_rfl) trivial ?_
  refine AWP.block ?_
  refine AWP.loopI [2, 3, 4, 6, 24] [3, 4] (fun N s' => ∃ (i : Int) (f : F5), s' = St.mk [(2, T.plain (u8 inh)), (3, T.plain (V.ptr 3 0)), (4, T.plain (V.ptr 4 0)), (6, T.plain (vb false)), (24, T.plain (i64 i))] [(3, Blk.mk [u8 f.a0, u8 f.a1, u8 f.a2, u8 f.a3, u8 f.a4, u8 c.a0, u8 c.a1, u8 c.a2, u8 c.a3, u8 c.a4] true 10 none), (4, Blk.mk [u8 lv, i64 un, u8 ev] true 3 none)] ∧ f.ok ∧ (0 ≤ i ∧ i ≤ 5) ∧ ((0 < i → 1 ≤ f.a0) ∧ (1 < i → 1 ≤ f.a1) ∧ (2 < i → 1 ≤ f.a2) ∧ (3 < i → 1 ≤ f.a3) ∧ (4 < i → 1 ≤ f.a4)) ∧ (N : Int) = 5 - i) 5 (s0 := St.mk [(2, T.plain (u8 inh)), (3, T.plain (V.ptr 3 0)), (4, T.plain (V.ptr 4 0)), (6, T.plain (vb false)), (24, T.plain (i64 0))] [(3, Blk.mk [u8 l.a0, u8 l.a1, u8 l.a2, u8 l.a3, u8 l.a4, u8 c.a0, u8 c.a1, u8 c.a2, u8 c.a3, u8 c.a4] true 10 none), (4, Blk.mk [u8 lv, i64 un, u8 ev] true 3 none)]) (by kernel_rfl) ?_ ?_
  · exact ⟨0, l, rfl, hl, by omega, by omega, by omega⟩
  rintro N s' ⟨i, f, rfl, hf, hi5, hg, hN⟩
  have hf' := hf
  obtain ⟨f1, f2, f3, f4, f5, f6, f7, f8, f9, f0⟩ := hf
  rcases (by omega : i = 0 ∨ i = 1 ∨ i = 2 ∨ i = 3 ∨ i = 4 ∨ i = 5) with rfl | rfl | rfl | rfl | rfl | rfl
  · refine AWP.seq ?_
    refine AWP.regionT tcok hmix [] [2, 3, 4, 6, 24, 25] [3, 4] (os := []) (s' := St.mk [(2, tp (u8 inh)), (3, tp (V.ptr 3 0)), (4, tp (V.ptr 4 0)), (6, tp (vb false)), (24, tp (i64 0)), (25, tp (vb true))] [(3, Blk.mk [u8 f.a0, u8 f.a1, u8 f.a2, u8 f.a3, u8 f.a4, u8 c.a0, u8 c.a1, u8 c.a2, u8 c.a3, u8 c.a4] true 10 none), (4, Blk.mk [u8 lv, i64 un, u8 ev] true 3 none)]) (by kernel_rfl) trivial ?_
    refine AWP.seq ?_
    refine AWP.cond (b := true) (by kernel_rfl) (fun _ => ?_) (fun h => by cases h)
    refine AWP.skip ?_
    refine AWP.seq ?_
    refine AWP.block ?_
    refine AWP.seq ?_
    refine AWP.regionT tcok hmix [] [2, 3, 4, 6, 7, 24] [3, 4] (os := []) (s' := St.mk [(2, tp (u8 inh)), (3, tp (V.ptr 3 0)), (4, tp (V.ptr 4 0)), (6, tp (vb false)), (7, tp (i64 0)), (24, tp (i64 0))] [(3, Blk.mk [u8 f.a0, u8 f.a1, u8 f.a2, u8 f.a3, u8 f.a4, u8 c.a0, u8 c.a1, u8 c.a2, u8 c.a3, u8 c.a4] true 10 none), (4, Blk.mk [u8 lv, i64 un, u8 ev] true 3 none)]) (by kernel_rfl) trivial ?_
    refine AWP.region tcok hmix [] (os := []) (sf := St.mk [(2, tp (u8 inh)), (3, tp (V.ptr 3 0)), (4, tp (V.ptr 4 0)), (6, tp (vb false)), (7, tp (i64 0)), (24, tp (i64 0)), (27, tp (i64 0)), (28, tp (i64 0)), (29, tp (V.ptr 3 0)), (30, tp (V.ptr 3 0)), (31, tp (u8 f.a0)), (32, tp (u8 (imax f.a0 1))), (33, tp (V.ptr 3 0)), (34, tp (V.ptr 3 0))] [(3, Blk.mk [u8 (imax f.a0 1), u8 f.a1, u8 f.a2, u8 f.a3, u8 f.a4, u8 c.a0, u8 c.a1, u8 c.a2, u8 c.a3, u8 c.a4] true 10 none), (4, Blk.mk [u8 lv, i64 un, u8 ev] true 3 none)]) (by kernel_rfl) trivial ?_
    refine AWP.keep' [2, 3, 4, 6, 24] [3, 4] (sf := St.mk [(2, tp (u8 inh)), (3, tp (V.ptr 3 0)), (4, tp (V.ptr 4 0)), (6, tp (vb false)), (24, tp (i64 0))] [(3, Blk.mk [u8 (imax f.a0 1), u8 f.a1, u8 f.a2, u8 f.a3, u8 f.a4, u8 c.a0, u8 c.a1, u8 c.a2, u8 c.a3, u8 c.a4] true 10 none), (4, Blk.mk [u8 lv, i64 un, u8 ev] true 3 none)]) (by kernel_rfl) ?_
    refine AWP.region tcok hmix [] (os := []) (sf := St.mk [(2, tp (u8 inh)), (3, tp (V.ptr 3 0)), (4, tp (V.ptr 4 0)), (6, tp (vb false)), (24, tp (i64 1)), (35, tp (i64 1))] [(3, Blk.mk [u8 (imax f.a0 1), u8 f.a1, u8 f.a2, u8 f.a3, u8 f.a4, u8 c.a0, u8 c.a1, u8 c.a2, u8 c.a3, u8 c.a4] true 10 none), (4, Blk.mk [u8 lv, i64 un, u8 ev] true 3 none)]) (by kernel_rfl) trivial ?_
    refine ⟨St.mk [(2, tp (u8 inh)), (3, tp (V.ptr 3 0)), (4, tp (V.ptr 4 0)), (6, tp (vb false)), (24, tp (i64 1))] [(3, Blk.mk [u8 (imax f.a0 1), u8 f.a1, u8 f.a2, u8 f.a3, u8 f.a4, u8 c.a0, u8 c.a1, u8 c.a2, u8 c.a3, u8 c.a4] true 10 none), (4, Blk.mk [u8 lv, i64 un, u8 ev] true 3 none)], by kernel_rfl, ?_⟩
    (exact ⟨4, (by omega), 1, ⟨imax f.a0 1, f.a1, f.a2, f.a3, f.a4⟩, rfl, ok_mk (by simp only [imax]; omega), (by omega), (by simp only [imax]; omega), (by omega)⟩)
  · refine AWP.seq ?_
    refine AWP.regionT tcok hmix [] [2, 3, 4, 6, 24, 25] [3, 4] (os := []) (s' := St.mk [(2, tp (u8 inh)), (3, tp (V.ptr 3 0)), (4, tp (V.ptr 4 0)), (6, tp (vb false)), (24, tp (i64 1)), (25, tp (vb true))] [(3, Blk.mk [u8 f.a0, u8 f.a1, u8 f.a2, u8 f.a3, u8 f.a4, u8 c.a0, u8 c.a1, u8 c.a2, u8 c.a3, u8 c.a4] true 10 none), (4, Blk.mk [u8 lv, i64 un, u8 ev] true 3 none)]) (by kernel_rfl) trivial ?_
    refine AWP.seq ?_
    refine AWP.cond (b := true) (by kernel_rfl) (fun _ => ?_) (fun h => by cases h)
    refine AWP.skip ?_
    refine AWP.seq ?_
    refine AWP.block ?_
    refine AWP.seq ?_
    refine AWP.regionT tcok hmix [] [2, 3, 4, 6, 7, 24] [3, 4] (os := []) (s' := St.mk [(2, tp (u8 inh)), (3, tp (V.ptr 3 0)), (4, tp (V.ptr 4 0)), (6, tp (vb false)), (7, tp (i64 1)), (24, tp (i64 1))] [(3, Blk.mk [u8 f.a0, u8 f.a1, u8 f.a2, u8 f.a3, u8 f.a4, u8 c.a0, u8 c.a1, u8 c.a2, u8 c.a3, u8 c.a4] true 10 none), (4, Blk.mk [u8 lv, i64 un, u8 ev] true 3 none)]) (by kernel_rfl) trivial ?_
    refine AWP.region tcok hmix [] (os := []) (sf := St.mk [(2, tp (u8 inh)), (3, tp (V.ptr 3 0)), (4, tp (V.ptr 4 0)), (6, tp (vb false)), (7, tp (i64 1)), (24, tp (i64 1)), (27, tp (i64 1)), (28, tp (i64 1)), (29, tp (V.ptr 3 0)), (30, tp (V.ptr 3 1)), (31, tp (u8 f.a1)), (32, tp (u8 (imax f.a1 1))), (33, tp (V.ptr 3 0)), (34, tp (V.ptr 3 1))] [(3, Blk.mk [u8 f.a0, u8 (imax f.a1 1), u8 f.a2, u8 f.a3, u8 f.a4, u8 c.a0, u8 c.a1, u8 c.a2, u8 c.a3, u8 c.a4] true 10 none), (4, Blk.mk [u8 lv, i64 un, u8 ev] true 3 none)]) (by kernel_rfl) trivial ?_
    refine AWP.keep' [2, 3, 4, 6, 24] [3, 4] (sf := St.mk [(2, tp (u8 inh)), (3, tp (V.ptr 3 0)), (4, tp (V.ptr 4 0)), (6, tp (vb false)), (24, tp (i64 1))] [(3, Blk.mk [u8 f.a0, u8 (imax f.a1 1), u8 f.a2, u8 f.a3, u8 f.a4, u8 c.a0, u8 c.a1, u8 c.a2, u8 c.a3, u8 c.a4] true 10 none), (4, Blk.mk [u8 lv, i64 un, u8 ev] true 3 none)]) (by kernel_rfl) ?_
    refine AWP.region tcok hmix [] (os := []) (sf := St.mk [(2, tp (u8 inh)), (3, tp (V.ptr 3 0)), (4, tp (V.ptr 4 0)), (6, tp (vb false)), (24, tp (i64 2)), (35, tp (i64 2))] [(3, Blk.mk [u8 f.a0, u8 (imax f.a1 1), u8 f.a2, u8 f.a3, u8 f.a4, u8 c.a0, u8 c.a1, u8 c.a2, u8 c.a3, u8 c.a4] true 10 none), (4, Blk.mk [u8 lv, i64 un, u8 ev] true 3 none)]) (by kernel_rfl) trivial ?_
    refine ⟨St.mk [(2, tp (u8 inh)), (3, tp (V.ptr 3 0)), (4, tp (V.ptr 4 0)), (6, tp (vb false)), (24, tp (i64 2))] [(3, Blk.mk [u8 f.a0, u8 (imax f.a1 1), u8 f.a2, u8 f.a3, u8 f.a4, u8 c.a0, u8 c.a1, u8 c.a2, u8 c.a3, u8 c.a4] true 10 none), (4, Blk.mk [u8 lv, i64 un, u8 ev] true 3 none)], by kernel_rfl, ?_⟩
    (exact ⟨3, (by omega), 2, ⟨f.a0, imax f.a1 1, f.a2, f.a3, f.a4⟩, rfl, ok_mk (by simp only [imax]; omega), (by omega), (by simp only [imax]; omega), (by omega)⟩)
  · refine AWP.seq ?_
    refine AWP.regionT tcok hmix [] [2, 3, 4, 6, 24, 25] [3, 4] (os := []) (s' := St.mk [(2, tp (u8 inh)), (3, tp (V.ptr 3 0)), (4, tp (V.ptr 4 0)), (6, tp (vb false)), (24, tp (i64 2)), (25, tp (vb true))] [(3, Blk.mk [u8 f.a0, u8 f.a1, u8 f.a2, u8 f.a3, u8 f.a4, u8 c.a0, u8 c.a1, u8 c.a2, u8 c.a3, u8 c.a4] true 10 none), (4, Blk.mk [u8 lv, i64 un, u8 ev] true 3 none)]) (by kernel_rfl) trivial ?_
    refine AWP.seq ?_
    refine AWP.cond (b := true) (by kernel_rfl) (fun _ => ?_) (fun h => by cases h)
    refine AWP.skip ?_
    refine AWP.seq ?_
    refine AWP.block ?_
    refine AWP.seq ?_
    refine AWP.regionT tcok hmix [] [2, 3, 4, 6, 7, 24] [3, 4] (os := []) (s' := St.mk [(2, tp (u8 inh)), (3, tp (V.ptr 3 0)), (4, tp (V.ptr 4 0)), (6, tp (vb false)), (7, tp (i64 2)), (24, tp (i64 2))] [(3, Blk.mk [u8 f.a0, u8 f.a1, u8 f.a2, u8 f.a3, u8 f.a4, u8 c.a0, u8 c.a1, u8 c.a2, u8 c.a3, u8 c.a4] true 10 none), (4, Blk.mk [u8 lv, i64 un, u8 ev] true 3 none)]) (by kernel_rfl) trivial ?_
    refine AWP.region tcok hmix [] (os := []) (sf := St.mk [(2, tp (u8 inh)), (3, tp (V.ptr 3 0)), (4, tp (V.ptr 4 0)), (6, tp (vb false)), (7, tp (i64 2)), (24, tp (i64 2)), (27, tp (i64 2)), (28, tp (i64 2)), (29, tp (V.ptr 3 0)), (30, tp (V.ptr 3 2)), (31, tp (u8 f.a2)), (32, tp (u8 (imax f.a2 1))), (33, tp (V.ptr 3 0)), (34, tp (V.ptr 3 2))] [(3, Blk.mk [u8 f.a0, u8 f.a1, u8 (imax f.a2 1), u8 f.a3, u8 f.a4, u8 c.a0, u8 c.a1, u8 c.a2, u8 c.a3, u8 c.a4] true 10 none), (4, Blk.mk [u8 lv, i64 un, u8 ev] true 3 none)]) (by kernel_rfl) trivial ?_
    refine AWP.keep' [2, 3, 4, 6, 24] [3, 4] (sf := St.mk [(2, tp (u8 inh)), (3, tp (V.ptr 3 0)), (4, tp (V.ptr 4 0)), (6, tp (vb false)), (24, tp (i64 2))] [(3, Blk.mk [u8 f.a0, u8 f.a1, u8 (imax f.a2 1), u8 f.a3, u8 f.a4, u8 c.a0, u8 c.a1, u8 c.a2, u8 c.a3, u8 c.a4] true 10 none), (4, Blk.mk [u8 lv, i64 un, u8 ev] true 3 none)]) (by kernel_rfl) ?_
    refine AWP.region tcok hmix [] (os := []) (sf := St.mk [(2, tp (u8 inh)), (3, tp (V.ptr 3 0)), (4, tp (V.ptr 4 0)), (6, tp (vb false)), (24, tp (i64 3)), (35, tp (i64 3))] [(3, Blk.mk [u8 f.a0, u8 f.a1, u8 (imax f.a2 1), u8 f.a3, u8 f.a4, u8 c.a0, u8 c.a1, u8 c.a2, u8 c.a3, u8 c.a4] true 10 none), (4, Blk.mk [u8 lv, i64 un, u8 ev] true 3 none)]) (by kernel_rfl) trivial ?_
    refine ⟨St.mk [(2, tp (u8 inh)), (3, tp (V.ptr 3 0)), (4, tp (V.ptr 4 0)), (6, tp (vb false)), (24, tp (i64 3))] [(3, Blk.mk [u8 f.a0, u8 f.a1, u8 (imax f.a2 1), u8 f.a3, u8 f.a4, u8 c.a0, u8 c.a1, u8 c.a2, u8 c.a3, u8 c.a4] true 10 none), (4, Blk.mk [u8 lv, i64 un, u8 ev] true 3 none)], by kernel_rfl, ?_⟩
    (exact ⟨2, (by omega), 3, ⟨f.a0, f.a1, imax f.a2 1, f.a3, f.a4⟩, rfl, ok_mk (by simp only [imax]; omega), (by omega), (by simp only [imax]; omega), (by omega)⟩)
  · refine AWP.seq ?_
    refine AWP.regionT tcok hmix [] [2, 3, 4, 6, 24, 25] [3, 4] (os := []) (s' := St.mk [(2, tp (u8 inh)), (3, tp (V.ptr 3 0)), (4, tp (V.ptr 4 0)), (6, tp (vb false)), (24, tp (i64 3)), (25, tp (vb true))] [(3, Blk.mk [u8 f.a0, u8 f.a1, u8 f.a2, u8 f.a3, u8 f.a4, u8 c.a0, u8 c.a1, u8 c.a2, u8 c.a3, u8 c.a4] true 10 none), (4, Blk.mk [u8 lv, i64 un, u8 ev] true 3 none)]) (by kernel_rfl) trivial ?_
    refine AWP.seq ?_
    refine AWP.cond (b := true) (by kernel_rfl) (fun _ => ?_) (fun h => by cases h)
    refine AWP.skip ?_
    refine AWP.seq ?_
    refine AWP.block ?_
    refine AWP.seq ?_
    refine AWP.regionT tcok hmix [] [2, 3, 4, 6, 7, 24] [3, 4] (os := []) (s' := St.mk [(2, tp (u8 inh)), (3, tp (V.ptr 3 0)), (4, tp (V.ptr 4 0)), (6, tp (vb false)), (7, tp (i64 3)), (24, tp (i64 3))] [(3, Blk.mk [u8 f.a0, u8 f.a1, u8 f.a2, u8 f.a3, u8 f.a4, u8 c.a0, u8 c.a1, u8 c.a2, u8 c.a3, u8 c.a4] true 10 none), (4, Blk.mk [u8 lv, i64 un, u8 ev] true 3 none)]) (by kernel_rfl) trivial ?_
    refine AWP.region tcok hmix [] (os := []) (sf := St.mk [(2, tp (u8 inh)), (3, tp (V.ptr 3 0)), (4, tp (V.ptr 4 0)), (6, tp (vb false)), (7, tp (i64 3)), (24, tp (i64 3)), (27, tp (i64 3)), (28, tp (i64 3)), (29, tp (V.ptr 3 0)), (30, tp (V.ptr 3 3)), (31, tp (u8 f.a3)), (32, tp (u8 (imax f.a3 1))), (33, tp (V.ptr 3 0)), (34, tp (V.ptr 3 3))] [(3, Blk.mk [u8 f.a0, u8 f.a1, u8 f.a2, u8 (imax f.a3 1), u8 f.a4, u8 c.a0, u8 c.a1, u8 c.a2, u8 c.a3, u8 c.a4] true 10 none), (4, Blk.mk [u8 lv, i64 un, u8 ev] true 3 none)]) (by kernel_rfl) trivial ?_
    refine AWP.keep' [2, 3, 4, 6, 24] [3, 4] (sf := St.mk [(2, tp (u8 inh)), (3, tp (V.ptr 3 0)), (4, tp (V.ptr 4 0)), (6, tp (vb false)), (24, tp (i64 3))] [(3, Blk.mk [u8 f.a0, u8 f.a1, u8 f.a2, u8 (imax f.a3 1), u8 f.a4, u8 c.a0, u8 c.a1, u8 c.a2, u8 c.a3, u8 c.a4] true 10 none), (4, Blk.mk [u8 lv, i64 un, u8 ev] true 3 none)]) (by kernel_rfl) ?_
    refine AWP.region tcok hmix [] (os := []) (sf := St.mk [(2, tp (u8 inh)), (3, tp (V.ptr 3 0)), (4, tp (V.ptr 4 0)), (6, tp (vb false)), (24, tp (i64 4)), (35, tp (i64 4))] [(3, Blk.mk [u8 f.a0, u8 f.a1, u8 f.a2, u8 (imax f.a3 1), u8 f.a4, u8 c.a0, u8 c.a1, u8 c.a2, u8 c.a3, u8 c.a4] true 10 none), (4, Blk.mk [u8 lv, i64 un, u8 ev] true 3 none)]) (by kernel_rfl) trivial ?_
    refine ⟨St.mk [(2, tp (u8 inh)), (3, tp (V.ptr 3 0)), (4, tp (V.ptr 4 0)), (6, tp (vb false)), (24, tp (i64 4))] [(3, Blk.mk [u8 f.a0, u8 f.a1, u8 f.a2, u8 (imax f.a3 1), u8 f.a4, u8 c.a0, u8 c.a1, u8 c.a2, u8 c.a3, u8 c.a4] true 10 none), (4, Blk.mk [u8 lv, i64 un, u8 ev] true 3 none)], by kernel_rfl, ?_⟩
    (exact ⟨1, (by omega), 4, ⟨f.a0, f.a1, f.a2, imax f.a3 1, f.a4⟩, rfl, ok_mk (by simp only [imax]; omega), (by omega), (by simp only [imax]; omega), (by omega)⟩)
  · refine AWP.seq ?_
    refine AWP.regionT tcok hmix [] [2, 3, 4, 6, 24, 25] [3, 4] (os := []) (s' := St.mk [(2, tp (u8 inh)), (3, tp (V.ptr 3 0)), (4, tp (V.ptr 4 0)), (6, tp (vb false)), (24, tp (i64 4)), (25, tp (vb true))] [(3, Blk.mk [u8 f.a0, u8 f.a1, u8 f.a2, u8 f.a3, u8 f.a4, u8 c.a0, u8 c.a1, u8 c.a2, u8 c.a3, u8 c.a4] true 10 none), (4, Blk.mk [u8 lv, i64 un, u8 ev] true 3 none)]) (by kernel_rfl) trivial ?_
    refine AWP.seq ?_
    refine AWP.cond (b := true) (by kernel_rfl) (fun _ => ?_) (fun h => by cases h)
    refine AWP.skip ?_
    refine AWP.seq ?_
    refine AWP.block ?_
    refine AWP.seq ?_
    refine AWP.regionT tcok hmix [] [2, 3, 4, 6, 7, 24] [3, 4] (os := []) (s' := St.mk [(2, tp (u8 inh)), (3, tp (V.ptr 3 0)), (4, tp (V.ptr 4 0)), (6, tp (vb false)), (7, tp (i64 4)), (24, tp (i64 4))] [(3, Blk.mk [u8 f.a0, u8 f.a1, u8 f.a2, u8 f.a3, u8 f.a4, u8 c.a0, u8 c.a1, u8 c.a2, u8 c.a3, u8 c.a4] true 10 none), (4, Blk.mk [u8 lv, i64 un, u8 ev] true 3 none)]) (by kernel_rfl) trivial ?_
    refine AWP.region tcok hmix [] (os := []) (sf := St.mk [(2, tp (u8 inh)), (3, tp (V.ptr 3 0)), (4, tp (V.ptr 4 0)), (6, tp (vb false)), (7, tp (i64 4)), (24, tp (i64 4)), (27, tp (i64 4)), (28, tp (i64 4)), (29, tp (V.ptr 3 0)), (30, tp (V.ptr 3 4)), (31, tp (u8 f.a4)), (32, tp (u8 (imax f.a4 1))), (33, tp (V.ptr 3 0)), (34, tp (V.ptr 3 4))] [(3, Blk.mk [u8 f.a0, u8 f.a1, u8 f.a2, u8 f.a3, u8 (imax f.a4 1), u8 c.a0, u8 c.a1, u8 c.a2, u8 c.a3, u8 c.a4] true 10 none), (4, Blk.mk [u8 lv, i64 un, u8 ev] true 3 none)]) (by kernel_rfl) trivial ?_
    refine AWP.keep' [2, 3, 4, 6, 24] [3, 4] (sf := St.mk [(2, tp (u8 inh)), (3, tp (V.ptr 3 0)), (4, tp (V.ptr 4 0)), (6, tp (vb false)), (24, tp (i64 4))] [(3, Blk.mk [u8 f.a0, u8 f.a1, u8 f.a2, u8 f.a3, u8 (imax f.a4 1), u8 c.a0, u8 c.a1, u8 c.a2, u8 c.a3, u8 c.a4] true 10 none), (4, Blk.mk [u8 lv, i64 un, u8 ev] true 3 none)]) (by kernel_rfl) ?_
    refine AWP.region tcok hmix [] (os := []) (sf := St.mk [(2, tp (u8 inh)), (3, tp (V.ptr 3 0)), (4, tp (V.ptr 4 0)), (6, tp (vb false)), (24, tp (i64 5)), (35, tp (i64 5))] [(3, Blk.mk [u8 f.a0, u8 f.a1, u8 f.a2, u8 f.a3, u8 (imax f.a4 1), u8 c.a0, u8 c.a1, u8 c.a2, u8 c.a3, u8 c.a4] true 10 none), (4, Blk.mk [u8 lv, i64 un, u8 ev] true 3 none)]) (by kernel_rfl) trivial ?_
    refine ⟨St.mk [(2, tp (u8 inh)), (3, tp (V.ptr 3 0)), (4, tp (V.ptr 4 0)), (6, tp (vb false)), (24, tp (i64 5))] [(3, Blk.mk [u8 f.a0, u8 f.a1, u8 f.a2, u8 f.a3, u8 (imax f.a4 1), u8 c.a0, u8 c.a1, u8 c.a2, u8 c.a3, u8 c.a4] true 10 none), (4, Blk.mk [u8 lv, i64 un, u8 ev] true 3 none)], by kernel_rfl, ?_⟩
    (exact ⟨0, (by omega), 5, ⟨f.a0, f.a1, f.a2, f.a3, imax f.a4 1⟩, rfl, ok_mk (by simp only [imax]; omega), (by omega), (by simp only [imax]; omega), (by omega)⟩)
  · have z : (F5.mk 0 0 0 0 0).ok := ok_mk (by omega)
    have r1 := con_free_0 0 f ⟨0, 0, 0, 0, 0⟩ (ev % 16) ev (by omega) z (by omega) rfl (by dsimp only; omega)
    have r2 := con_free_0 0 f ⟨0, 0, 0, 0, 0⟩ (ev % 16) ev (by omega) z (by omega) rfl (by dsimp only; omega)
    have r3 := con_full f c 0 (ev % 16) ev hc (by omega) (by omega)
    have r4 := con_raise_no inh f c 5 (ev % 16) ev rfl
    refine AWP.seq ?_
    refine AWP.regionT tcok hmix [] [2, 3, 4, 6, 24, 25] [3, 4] (os := []) (s' := St.mk [(2, tp (u8 inh)), (3, tp (V.ptr 3 0)), (4, tp (V.ptr 4 0)), (6, tp (vb false)), (24, tp (i64 5)), (25, tp (vb false))] [(3, Blk.mk [u8 f.a0, u8 f.a1, u8 f.a2, u8 f.a3, u8 f.a4, u8 c.a0, u8 c.a1, u8 c.a2, u8 c.a3, u8 c.a4] true 10 none), (4, Blk.mk [u8 lv, i64 un, u8 ev] true 3 none)]) (by kernel_rfl) trivial ?_
    refine AWP.seq ?_
    refine AWP.cond (b := false) (by kernel_rfl) (fun h => by cases h) (fun _ => ?_)
    refine AWP.exit ?_
    refine AWP.seq ?_
    refine AWP.regionT tcok hmix [(2, ⟨some (u8 0), none⟩), (5, ⟨some (u8 (ev % 16)), none⟩), (6, ⟨some (i64 (ev % 16)), none⟩)] [2, 3, 4, 6] [3, 4] (os := [(5 : Int) ≠ (0 : Int), u8 (Int.tmod lv 5) = u8 0, (16 : Int) ≠ (0 : Int), u8 (Int.tmod ev 16) = u8 (ev % 16), i64 (IntKind.wrap IntKind.i64 (ev % 16)) = i64 (ev % 16)]) (s' := St.mk [(2, tp (u8 inh)), (3, tp (V.ptr 3 0)), (4, tp (V.ptr 4 0)), (6, tp (vb false))] [(3, Blk.mk [u8 f.a0, u8 f.a1, u8 f.a2, u8 f.a3, u8 f.a4, u8 c.a0, u8 c.a1, u8 c.a2, u8 c.a3, u8 c.a4] true 10 none), (4, Blk.mk [u8 0, i64 (ev % 16), u8 ev] true 3 none)]) (by kernel_rfl) ⟨(by omega), (in_eq hk), (by omega), (tm_ (by omega)), (wr_i64 (by omega) (by omega)), trivial⟩ ?_
    refine AWP.seq ?_
    refine AWP.regionT tcok hmix [(1, ⟨none, some ⟨ladV f (F5.mk 0 0 0 0 0), [], []⟩⟩), (3, ⟨none, some ⟨V.tup [ladV f (F5.inc (F5.mk 0 0 0 0 0) 0), V.agg true [u8 0, i64 (ev % 16), u8 ev], vb true], [], []⟩⟩)] [2, 3, 4, 6, 9, 10] [3, 4, 9] (os := [Con Tryd.prog 18 [] [V.agg true [u8 f.a0, u8 f.a1, u8 f.a2, u8 f.a3, u8 f.a4, u8 c.a0, u8 c.a1, u8 c.a2, u8 c.a3, u8 c.a4]] [] (V.agg true [u8 f.a0, u8 f.a1, u8 f.a2, u8 f.a3, u8 f.a4, u8 0, u8 0, u8 0, u8 0, u8 0]), Con Tryd.prog 13 [] [V.agg true [u8 f.a0, u8 f.a1, u8 f.a2, u8 f.a3, u8 f.a4, u8 0, u8 0, u8 0, u8 0, u8 0], V.agg true [u8 0, i64 (ev % 16), u8 ev], u8 0] [] (V.tup [V.agg true [u8 f.a0, u8 f.a1, u8 f.a2, u8 f.a3, u8 f.a4, u8 1, u8 0, u8 0, u8 0, u8 0], V.agg true [u8 0, i64 (ev % 16), u8 ev], vb true])]) (s' := St.mk [(2, tp (u8 inh)), (3, tp (V.ptr 3 0)), (4, tp (V.ptr 4 0)), (6, tp (vb false)), (9, tp (V.ptr 9 0)), (10, tp (vb true))] [(3, Blk.mk [u8 f.a0, u8 f.a1, u8 f.a2, u8 f.a3, u8 f.a4, u8 c.a0, u8 c.a1, u8 c.a2, u8 c.a3, u8 c.a4] true 10 none), (4, Blk.mk [u8 0, i64 (ev % 16), u8 ev] true 3 none), (9, Blk.mk [u8 0, i64 (ev % 16), u8 ev] true 3 none)]) (by kernel_rfl) ⟨(con_calm (f) (c)), (r1 ), trivial⟩ ?_
    refine AWP.seq ?_
    refine AWP.regionT tcok hmix [(2, ⟨none, some ⟨V.tup [ladV f c, V.agg true [u8 0, i64 0, u8 0], vb false], [], []⟩⟩)] [2, 3, 4, 6, 9, 10, 13] [3, 4, 9] (os := [Con Tryd.prog 13 [] [V.agg true [u8 f.a0, u8 f.a1, u8 f.a2, u8 f.a3, u8 f.a4, u8 c.a0, u8 c.a1, u8 c.a2, u8 c.a3, u8 c.a4], V.agg true [u8 0, i64 (ev % 16), u8 ev], u8 31] [] (V.tup [V.agg true [u8 f.a0, u8 f.a1, u8 f.a2, u8 f.a3, u8 f.a4, u8 c.a0, u8 c.a1, u8 c.a2, u8 c.a3, u8 c.a4], V.agg true [u8 0, i64 0, u8 0], vb false])]) (s' := St.mk [(2, tp (u8 inh)), (3, tp (V.ptr 3 0)), (4, tp (V.ptr 4 0)), (6, tp (vb false)), (9, tp (V.ptr 9 0)), (10, tp (vb true)), (13, tp (vb false))] [(3, Blk.mk [u8 f.a0, u8 f.a1, u8 f.a2, u8 f.a3, u8 f.a4, u8 c.a0, u8 c.a1, u8 c.a2, u8 c.a3, u8 c.a4] true 10 none), (4, Blk.mk [u8 0, i64 (ev % 16), u8 ev] true 3 none), (9, Blk.mk [u8 0, i64 (ev % 16), u8 ev] true 3 none)]) (by kernel_rfl) ⟨(r3 ), trivial⟩ ?_
    refine AWP.seq ?_
    refine AWP.regionT tcok hmix [] [2, 3, 4, 6, 9, 10, 13, 14] [3, 4, 9] (os := []) (s' := St.mk [(2, tp (u8 inh)), (3, tp (V.ptr 3 0)), (4, tp (V.ptr 4 0)), (6, tp (vb false)), (9, tp (V.ptr 9 0)), (10, tp (vb true)), (13, tp (vb false)), (14, tp (u8 0))] [(3, Blk.mk [u8 f.a0, u8 f.a1, u8 f.a2, u8 f.a3, u8 f.a4, u8 c.a0, u8 c.a1, u8 c.a2, u8 c.a3, u8 c.a4] true 10 none), (4, Blk.mk [u8 0, i64 (ev % 16), u8 ev] true 3 none), (9, Blk.mk [u8 0, i64 (ev % 16), u8 ev] true 3 none)]) (by kernel_rfl) trivial ?_
    refine AWP.seq ?_
    refine AWP.regionT tcok hmix [(1, ⟨none, some ⟨ladV f (F5.mk 0 0 0 0 0), [], []⟩⟩), (4, ⟨none, some ⟨V.tup [ladV f (F5.inc (F5.mk 0 0 0 0 0) 0), V.agg true [u8 0, i64 (ev % 16), u8 ev], vb true], [], []⟩⟩)] [2, 3, 4, 6, 9, 10, 13, 16, 17] [3, 4, 9, 16] (os := [Con Tryd.prog 18 [] [V.agg true [u8 f.a0, u8 f.a1, u8 f.a2, u8 f.a3, u8 f.a4, u8 c.a0, u8 c.a1, u8 c.a2, u8 c.a3, u8 c.a4]] [] (V.agg true [u8 f.a0, u8 f.a1, u8 f.a2, u8 f.a3, u8 f.a4, u8 0, u8 0, u8 0, u8 0, u8 0]), Con Tryd.prog 13 [] [V.agg true [u8 f.a0, u8 f.a1, u8 f.a2, u8 f.a3, u8 f.a4, u8 0, u8 0, u8 0, u8 0, u8 0], V.agg true [u8 0, i64 (ev % 16), u8 ev], u8 0] [] (V.tup [V.agg true [u8 f.a0, u8 f.a1, u8 f.a2, u8 f.a3, u8 f.a4, u8 1, u8 0, u8 0, u8 0, u8 0], V.agg true [u8 0, i64 (ev % 16), u8 ev], vb true])]) (s' := St.mk [(2, tp (u8 inh)), (3, tp (V.ptr 3 0)), (4, tp (V.ptr 4 0)), (6, tp (vb false)), (9, tp (V.ptr 9 0)), (10, tp (vb true)), (13, tp (vb false)), (16, tp (V.ptr 16 0)), (17, tp (vb true))] [(3, Blk.mk [u8 f.a0, u8 f.a1, u8 f.a2, u8 f.a3, u8 f.a4, u8 c.a0, u8 c.a1, u8 c.a2, u8 c.a3, u8 c.a4] true 10 none), (4, Blk.mk [u8 0, i64 (ev % 16), u8 ev] true 3 none), (9, Blk.mk [u8 0, i64 (ev % 16), u8 ev] true 3 none), (16, Blk.mk [u8 0, i64 (ev % 16), u8 ev] true 3 none)]) (by kernel_rfl) ⟨(con_calm (f) (c)), (r1 ), trivial⟩ ?_
    refine AWP.seq ?_
    refine AWP.regionT tcok hmix [] [2, 3, 4, 6, 9, 10, 13, 16, 17, 18] [3, 4, 9, 16, 18] (os := []) (s' := St.mk [(2, tp (u8 inh)), (3, tp (V.ptr 3 0)), (4, tp (V.ptr 4 0)), (6, tp (vb false)), (9, tp (V.ptr 9 0)), (10, tp (vb true)), (13, tp (vb false)), (16, tp (V.ptr 16 0)), (17, tp (vb true)), (18, tp (V.ptr 18 0))] [(3, Blk.mk [u8 f.a0, u8 f.a1, u8 f.a2, u8 f.a3, u8 f.a4, u8 c.a0, u8 c.a1, u8 c.a2, u8 c.a3, u8 c.a4] true 10 none), (4, Blk.mk [u8 0, i64 (ev % 16), u8 ev] true 3 none), (9, Blk.mk [u8 0, i64 (ev % 16), u8 ev] true 3 none), (16, Blk.mk [u8 0, i64 (ev % 16), u8 ev] true 3 none), (18, Blk.mk [u8 0, i64 (ev % 16), u8 ev] true 3 none)]) (by kernel_rfl) trivial ?_
    refine AWP.seq ?_
    refine AWP.regionT tcok hmix [] [2, 3, 4, 6, 9, 10, 13, 16, 17, 18] [3, 4, 9, 16, 18] (os := []) (s' := St.mk [(2, tp (u8 inh)), (3, tp (V.ptr 3 0)), (4, tp (V.ptr 4 0)), (6, tp (vb false)), (9, tp (V.ptr 9 0)), (10, tp (vb true)), (13, tp (vb false)), (16, tp (V.ptr 16 0)), (17, tp (vb true)), (18, tp (V.ptr 18 0))] [(3, Blk.mk [u8 f.a0, u8 f.a1, u8 f.a2, u8 f.a3, u8 f.a4, u8 c.a0, u8 c.a1, u8 c.a2, u8 c.a3, u8 c.a4] true 10 none), (4, Blk.mk [u8 0, i64 (ev % 16), u8 ev] true 3 none), (9, Blk.mk [u8 0, i64 (ev % 16), u8 ev] true 3 none), (16, Blk.mk [u8 0, i64 (ev % 16), u8 ev] true 3 none), (18, Blk.mk [u8 5, i64 (ev % 16), u8 ev] true 3 none)]) (by kernel_rfl) trivial ?_
    refine AWP.seq ?_
    refine AWP.regionT tcok hmix [(3, ⟨none, some ⟨V.tup [ladV f c, V.agg true [u8 0, i64 0, u8 0], vb false], [], []⟩⟩)] [4, 6, 9, 10, 13, 16, 17, 21] [4, 9, 16] (os := [Con Tryd.prog 13 [] [V.agg true [u8 f.a0, u8 f.a1, u8 f.a2, u8 f.a3, u8 f.a4, u8 c.a0, u8 c.a1, u8 c.a2, u8 c.a3, u8 c.a4], V.agg true [u8 5, i64 (ev % 16), u8 ev], u8 inh] [] (V.tup [V.agg true [u8 f.a0, u8 f.a1, u8 f.a2, u8 f.a3, u8 f.a4, u8 c.a0, u8 c.a1, u8 c.a2, u8 c.a3, u8 c.a4], V.agg true [u8 0, i64 0, u8 0], vb false])]) (s' := St.mk [(4, tp (V.ptr 4 0)), (6, tp (vb false)), (9, tp (V.ptr 9 0)), (10, tp (vb true)), (13, tp (vb false)), (16, tp (V.ptr 16 0)), (17, tp (vb true)), (21, tp (vb false))] [(4, Blk.mk [u8 0, i64 (ev % 16), u8 ev] true 3 none), (9, Blk.mk [u8 0, i64 (ev % 16), u8 ev] true 3 none), (16, Blk.mk [u8 0, i64 (ev % 16), u8 ev] true 3 none)]) (by kernel_rfl) ⟨(r4 ), trivial⟩ ?_
    refine AWP.seq ?_
    refine AWP.regionT tcok hmix [] [6] [] (os := []) (s' := St.mk [(6, tp (vb (true && bl true (0 == 0 && (ev % 16 == ev % 16 && (ev == ev && true))) && true && true && bl true (0 == 0 && (ev % 16 == ev % 16 && (ev == ev && true))) && true)))] []) (by kernel_rfl) trivial ?_
    refine AWP.ret ?_
    refine ⟨Or.inr rfl, Eq.trans (b := some ([], vb (true && bl true (0 == 0 && (ev % 16 == ev % 16 && (ev == ev && true))) && true && true && bl true (0 == 0 && (ev % 16 == ev % 16 && (ev == ev && true))) && true))) (by kernel_rfl) ?_⟩
    first | rfl | (simp [bl]; done)
theorem law_rests_1 (inh : Int) (l c : F5) (lv un ev : Int) (hi : 0 ≤ inh ∧ inh < 256) (hl : l.ok) (hc : c.ok) (hlv : 0 ≤ lv ∧ lv < 256) (hev : 0 ≤ ev ∧ ev < 256) (hk : lv.tmod 5 = 1) :
    Con Tryd.prog 6 [] [ladV l c, .agg true [u8 lv, i64 un, u8 ev], u8 inh] [] (vb true) := by
  refine Con.of (C := ⟨Tryd.prog, tc, Tryd.f6.ntmps⟩) [] tcok Tryd.func6 rfl rfl (by kernel_rfl) (by kernel_rfl) ?_
  refine AWP.seq ?_
  refine AWP.regionT tcok hmix [] [2, 3, 4, 6] [3, 4] (os := []) (s' := St.mk [(2, tp (u8 inh)), (3, tp (V.ptr 3 0)), (4, tp (V.ptr 4 0)), (6, tp (vb false))] [(3, Blk.mk [u8 l.a0, u8 l.a1, u8 l.a2, u8 l.a3, u8 l.a4, u8 c.a0, u8 c.a1, u8 c.a2, u8 c.a3, u8 c.a4] true 10 none), (4, Blk.mk [u8 lv, i64 un, u8 ev] true 3 none)]) (by kernel_rfl) trivial ?_
  refine AWP.seq ?_
  refine AWP.seq ?_
  refine AWP.regionT tcok hmix [(0, ⟨none, some ⟨vb true, [], []⟩⟩)] [2, 3, 4, 6, 23] [3, 4] (os := [Con Tryd.prog 11 [] [] [] (vb true)]) (s' := St.mk [(2, tp (u8 inh)), (3, tp (V.ptr 3 0)), (4, tp (V.ptr 4 0)), (6, tp (vb false)), (23, tp (vb false))] [(3, Blk.mk [u8 l.a0, u8 l.a1, u8 l.a2, u8 l.a3, u8 l.a4, u8 c.a0, u8 c.a1, u8 c.a2, u8 c.a3, u8 c.a4] true 10 none), (4, Blk.mk [u8 lv, i64 un, u8 ev] true 3 none)]) (by kernel_rfl) ⟨(con_awake22 ), trivial⟩ ?_
  refine AWP.cond (b := false) (by kernel_rfl) (fun h => by cases h) (fun _ => ?_)
  refine AWP.skip ?_
  refine AWP.seq ?_
  refine AWP.seq ?_
  refine AWP.regionT tcok hmix [] [2, 3, 4, 6, 24] [3, 4] (os := []) (s' := St.mk [(2, tp (u8 inh)), (3, tp (V.ptr 3 0)), (4, tp (V.ptr 4 0)), (6, tp (vb false)), (24, tp (i64 0))] [(3, Blk.mk [u8 l.a0, u8 l.a1, u8 l.a2, u8 l.a3, u8 l.a4, u8 c.a0, u8 c.a1, u8 c.a2, u8 c.a3, u8 c.a4] true 10 none), (4, Blk.mk [u8 lv, i64 un, u8 ev] true 3 none)]) (by kernel_rfl) trivial ?_
  refine AWP.block ?_
  refine AWP.loopI [2, 3, 4, 6, 24] [3, 4] (fun N s' => ∃ (i : Int) (f : F5), s' = St.mk [(2, T.plain (u8 inh)), (3, T.plain (V.ptr 3 0)), (4, T.plain (V.ptr 4 0)), (6, T.plain (vb false)), (24, T.plain (i64 i))] [(3, Blk.mk [u8 f.a0, u8 f.a1, u8 f.a2, u8 f.a3, u8 f.a4, u8 c.a0, u8 c.a1, u8 c.a2, u8 c.a3, u8 c.a4] true 10 none), (4, Blk.mk [u8 lv, i64 un, u8 ev] true 3 none)] ∧ f.ok ∧ (0 ≤ i ∧ i ≤ 5) ∧ ((0 < i → 1 ≤ f.a0) ∧ (1 < i → 1 ≤ f.a1) ∧ (2 < i → 1 ≤ f.a2) ∧ (3 < i → 1 ≤ f.a3) ∧ (4 < i → 1 ≤ f.a4)) ∧ (N : Int) = 5 - i) 5 (s0 := St.mk [(2, T.plain (u8 inh)), (3, T.plain (V.ptr 3 0)), (4, T.plain (V.ptr 4 0)), (6, T.plain (vb false)), (24, T.plain (i64 0))] [(3, Blk.mk [u8 l.a0, u8 l.a1, u8 l.a2, u8 l.a3, u8 l.a4, u8 c.a0, u8 c.a1, u8 c.a2, u8 c.a3, u8 c.a4] true 10 none), (4, Blk.mk [u8 lv, i64 un, u8 ev] true 3 none)]) (by kernel_rfl) ?_ ?_
  · exact ⟨0, l, rfl, hl, by omega, by omega, by omega⟩
  rintro N s' ⟨i, f, rfl, hf, hi5, hg, hN⟩
  have hf' := hf
  obtain ⟨f1, f2, f3, f4, f5, f6, f7, f8, f9, f0⟩ := hf
  rcases (by omega : i = 0 ∨ i = 1 ∨ i = 2 ∨ i = 3 ∨ i = 4 ∨ i = 5) with rfl | rfl | rfl | rfl | rfl | rfl
  · refine AWP.seq ?_
    refine AWP.regionT tcok hmix [] [2, 3, 4, 6, 24, 25] [3, 4] (os := []) (s' := St.mk [(2, tp (u8 inh)), (3, tp (V.ptr 3 0)), (4, tp (V.ptr 4 0)), (6, tp (vb false)), (24, tp (i64 0)), (25, tp (vb true))] [(3, Blk.mk [u8 f.a0, u8 f.a1, u8 f.a2, u8 f.a3, u8 f.a4, u8 c.a0, u8 c.a1, u8 c.a2, u8 c.a3, u8 c.a4] true 10 none), (4, Blk.mk [u8 lv, i64 un, u8 ev] true 3 none)]) (by kernel_rfl) trivial ?_
    refine AWP.seq ?_
    refine AWP.cond (b := true) (by kernel_rfl) (fun _ => ?_) (fun h => by cases h)
    refine AWP.skip ?_
    refine AWP.seq ?_
    refine AWP.block ?_
    refine AWP.seq ?_
    refine AWP.regionT tcok hmix [] [2, 3, 4, 6, 7, 24] [3, 4] (os := []) (s' := St.mk [(2, tp (u8 inh)), (3, tp (V.ptr 3 0)), (4, tp (V.ptr 4 0)), (6, tp (vb false)), (7, tp (i64 0)), (24, tp (i64 0))] [(3, Blk.mk [u8 f.a0, u8 f.a1, u8 f.a2, u8 f.a3, u8 f.a4, u8 c.a0, u8 c.a1, u8 c.a2, u8 c.a3, u8 c.a4] true 10 none), (4, Blk.mk [u8 lv, i64 un, u8 ev] true 3 none)]) (by kernel_rfl) trivial ?_
    refine AWP.region tcok hmix [] (os := []) (sf := St.mk [(2, tp (u8 inh)), (3, tp (V.ptr 3 0)), (4, tp (V.ptr 4 0)), (6, tp (vb false)), (7, tp (i64 0)), (24, tp (i64 0)), (27, tp (i64 0)), (28, tp (i64 0)), (29, tp (V.ptr 3 0)), (30, tp (V.ptr 3 0)), (31, tp (u8 f.a0)), (32, tp (u8 (imax f.a0 1))), (33, tp (V.ptr 3 0)), (34, tp (V.ptr 3 0))] [(3, Blk.mk [u8 (imax f.a0 1), u8 f.a1, u8 f.a2, u8 f.a3, u8 f.a4, u8 c.a0, u8 c.a1, u8 c.a2, u8 c.a3, u8 c.a4] true 10 none), (4, Blk.mk [u8 lv, i64 un, u8 ev] true 3 none)]) (by kernel_rfl) trivial ?_
    refine AWP.keep' [2, 3, 4, 6, 24] [3, 4] (sf := St.mk [(2, tp (u8 inh)), (3, tp (V.ptr 3 0)), (4, tp (V.ptr 4 0)), (6, tp (vb false)), (24, tp (i64 0))] [(3, Blk.mk [u8 (imax f.a0 1), u8 f.a1, u8 f.a2, u8 f.a3, u8 f.a4, u8 c.a0, u8 c.a1, u8 c.a2, u8 c.a3, u8 c.a4] true 10 none), (4, Blk.mk [u8 lv, i64 un, u8 ev] true 3 none)]) (by kernel_rfl) ?_
    refine AWP.region tcok hmix [] (os := []) (sf := St.mk [(2, tp (u8 inh)), (3, tp (V.ptr 3 0)), (4, tp (V.ptr 4 0)), (6, tp (vb false)), (24, tp (i64 1)), (35, tp (i64 1))] [(3, Blk.mk [u8 (imax f.a0 1), u8 f.a1, u8 f.a2, u8 f.a3, u8 f.a4, u8 c.a0, u8 c.a1, u8 c.a2, u8 c.a3, u8 c.a4] true 10 none), (4, Blk.mk [u8 lv, i64 un, u8 ev] true 3 none)]) (by kernel_rfl) trivial ?_
    refine ⟨St.mk [(2, tp (u8 inh)), (3, tp (V.ptr 3 0)), (4, tp (V.ptr 4 0)), (6, tp (vb false)), (24, tp (i64 1))] [(3, Blk.mk [u8 (imax f.a0 1), u8 f.a1, u8 f.a2, u8 f.a3, u8 f.a4, u8 c.a0, u8 c.a1, u8 c.a2, u8 c.a3, u8 c.a4] true 10 none), (4, Blk.mk [u8 lv, i64 un, u8 ev] true 3 none)], by kernel_rfl, ?_⟩
    (exact ⟨4, (by omega), 1, ⟨imax f.a0 1, f.a1, f.a2, f.a3, f.a4⟩, rfl, ok_mk (by simp only [imax]; omega), (by omega), (by simp only [imax]; omega), (by omega)⟩)
  · refine AWP.seq ?_
    refine AWP.regionT tcok hmix [] [2, 3, 4, 6, 24, 25] [3, 4] (os := []) (s' := St.mk [(2, tp (u8 inh)), (3, tp (V.ptr 3 0)), (4, tp (V.ptr 4 0)), (6, tp (vb false)), (24, tp (i64 1)), (25, tp (vb true))] [(3, Blk.mk [u8 f.a0, u8 f.a1, u8 f.a2, u8 f.a3, u8 f.a4, u8 c.a0, u8 c.a1, u8 c.a2, u8 c.a3, u8 c.a4] true 10 none), (4, Blk.mk [u8 lv, i64 un, u8 ev] true 3 none)]) (by kernel_rfl) trivial ?_
    refine AWP.seq ?_
    refine AWP.cond (b := true) (by kernel_rfl) (fun _ => ?_) (fun h => by cases h)
    refine AWP.skip ?_
    refine AWP.seq ?_
    refine AWP.block ?_
    refine AWP.seq ?_
    refine AWP.regionT tcok hmix [] [2, 3, 4, 6, 7, 24] [3, 4] (os := []) (s' := St.mk [(2, tp (u8 inh)), (3, tp (V.ptr 3 0)), (4, tp (V.ptr 4 0)), (6, tp (vb false)), (7, tp (i64 1)), (24, tp (i64 1))] [(3, Blk.mk [u8 f.a0, u8 f.a1, u8 f.a2, u8 f.a3, u8 f.a4, u8 c.a0, u8 c.a1, u8 c.a2, u8 c.a3, u8 c.a4] true 10 none), (4, Blk.mk [u8 lv, i64 un, u8 ev] true 3 none)]) (by kernel_rfl) trivial ?_
    refine AWP.region tcok hmix [] (os := []) (sf := St.mk [(2, tp (u8 inh)), (3, tp (V.ptr 3 0)), (4, tp (V.ptr 4 0)), (6, tp (vb false)), (7, tp (i64 1)), (24, tp (i64 1)), (27, tp (i64 1)), (28, tp (i64 1)), (29, tp (V.ptr 3 0)), (30, tp (V.ptr 3 1)), (31, tp (u8 f.a1)), (32, tp (u8 (imax f.a1 1))), (33, tp (V.ptr 3 0)), (34, tp (V.ptr 3 1))] [(3, Blk.mk [u8 f.a0, u8 (imax f.a1 1), u8 f.a2, u8 f.a3, u8 f.a4, u8 c.a0, u8 c.a1, u8 c.a2, u8 c.a3, u8 c.a4] true 10 none), (4, Blk.mk [u8 lv, i64 un, u8 ev] true 3 none)]) (by kernel_rfl) trivial ?_
    refine AWP.keep' [2, 3, 4, 6, 24] [3, 4] (sf := St.mk [(2, tp (u8 inh)), (3, tp (V.ptr 3 0)), (4, tp (V.ptr 4 0)), (6, tp (vb false)), (24, tp (i64 1))] [(3, Blk.mk [u8 f.a0, u8 (imax f.a1 1), u8 f.a2, u8 f.a3, u8 f.a4, u8 c.a0, u8 c.a1, u8 c.a2, u8 c.a3, u8 c.a4] true 10 none), (4, Blk.mk [u8 lv, i64 un, u8 ev] true 3 none)]) (by kernel_rfl) ?_
    refine AWP.region tcok hmix [] (os := []) (sf := St.mk [(2, tp (u8 inh)), (3, tp (V.ptr 3 0)), (4, tp (V.ptr 4 0)), (6, tp (vb false)), (24, tp (i64 2)), (35, tp (i64 2))] [(3, Blk.mk [u8 f.a0, u8 (imax f.a1 1), u8 f.a2, u8 f.a3, u8 f.a4, u8 c.a0, u8 c.a1, u8 c.a2, u8 c.a3, u8 c.a4] true 10 none), (4, Blk.mk [u8 lv, i64 un, u8 ev] true 3 none)]) (by kernel_rfl) trivial ?_
    refine ⟨St.mk [(2, tp (u8 inh)), (3, tp (V.ptr 3 0)), (4, tp (V.ptr 4 0)), (6, tp (vb false)), (24, tp (i64 2))] [(3, Blk.mk [u8 f.a0, u8 (imax f.a1 1), u8 f.a2, u8 f.a3, u8 f.a4, u8 c.a0, u8 c.a1, u8 c.a2, u8 c.a3, u8 c.a4] true 10 none), (4, Blk.mk [u8 lv, i64 un, u8 ev] true 3 none)], by kernel_rfl, ?_⟩
    (exact ⟨3, (by omega), 2, ⟨f.a0, imax f.a1 1, f.a2, f.a3, f.a4⟩, rfl, ok_mk (by simp only [imax]; omega), (by omega), (by simp only [imax]; omega), (by omega)⟩)
  · refine AWP.seq ?_
    refine AWP.regionT tcok hmix [] [2, 3, 4, 6, 24, 25] [3, 4] (os := []) (s' := St.mk [(2, tp (u8 inh)), (3, tp (V.ptr 3 0)), (4, tp (V.ptr 4 0)), (6, tp (vb false)), (24, tp (i64 2)), (25, tp (vb true))] [(3, Blk.mk [u8 f.a0, u8 f.a1, u8 f.a2, u8 f.a3, u8 f.a4, u8 c.a0, u8 c.a1, u8 c.a2, u8 c.a3, u8 c.a4] true 10 none), (4, Blk.mk [u8 lv, i64 un, u8 ev] true 3 none)]) (by kernel_rfl) trivial ?_
    refine AWP.seq ?_
    refine AWP.cond (b := true) (by kernel_rfl) (fun _ => ?_) (fun h => by cases h)
    refine AWP.skip ?_
    refine AWP.seq ?_
    refine AWP.block ?_
    refine AWP.seq ?_
    refine AWP.regionT tcok hmix [] [2, 3, 4, 6, 7, 24] [3, 4] (os := []) (s' := St.mk [(2, tp (u8 inh)), (3, tp (V.ptr 3 0)), (4, tp (V.ptr 4 0)), (6, tp (vb false)), (7, tp (i64 2)), (24, tp (i64 2))] [(3, Blk.mk [u8 f.a0, u8 f.a1, u8 f.a2, u8 f.a3, u8 f.a4, u8 c.a0, u8 c.a1, u8 c.a2, u8 c.a3, u8 c.a4] true 10 none), (4, Blk.mk [u8 lv, i64 un, u8 ev] true 3 none)]) (by kernel_rfl) trivial ?_
    refine AWP.region tcok hmix [] (os := []) (sf := St.mk [(2, tp (u8 inh)), (3, tp (V.ptr 3 0)), (4, tp (V.ptr 4 0)), (6, tp (vb false)), (7, tp (i64 2)), (24, tp (i64 2)), (27, tp (i64 2)), (28, tp (i64 2)), (29, tp (V.ptr 3 0)), (30, tp (V.ptr 3 2)), (31, tp (u8 f.a2)), (32, tp (u8 (imax f.a2 1))), (33, tp (V.ptr 3 0)), (34, tp (V.ptr 3 2))] [(3, Blk.mk [u8 f.a0, u8 f.a1, u8 (imax f.a2 1), u8 f.a3, u8 f.a4, u8 c.a0, u8 c.a1, u8 c.a2, u8 c.a3, u8 c.a4] true 10 none), (4, Blk.mk [u8 lv, i64 un, u8 ev] true 3 none)]) (by kernel_rfl) trivial ?_
    refine AWP.keep' [2, 3, 4, 6, 24] [3, 4] (sf := St.mk [(2, tp (u8 inh)), (3, tp (V.ptr 3 0)), (4, tp (V.ptr 4 0)), (6, tp (vb false)), (24, tp (i64 2))] [(3, Blk.mk [u8 f.a0, u8 f.a1, u8 (imax f.a2 1), u8 f.a3, u8 f.a4, u8 c.a0, u8 c.a1, u8 c.a2, u8 c.a3, u8 c.a4] true 10 none), (4, Blk.mk [u8 lv, i64 un, u8 ev] true 3 none)]) (by kernel_rfl) ?_
    refine AWP.region tcok hmix [] (os := []) (sf := St.mk [(2, tp (u8 inh)), (3, tp (V.ptr 3 0)), (4, tp (V.ptr 4 0)), (6, tp (vb false)), (24, tp (i64 3)), (35, tp (i64 3))] [(3, Blk.mk [u8 f.a0, u8 f.a1, u8 (imax f.a2 1), u8 f.a3, u8 f.a4, u8 c.a0, u8 c.a1, u8 c.a2, u8 c.a3, u8 c.a4] true 10 none), (4, Blk.mk [u8 lv, i64 un, u8 ev] true 3 none)]) (by kernel_rfl) trivial ?_
    refine ⟨St.mk [(2, tp (u8 inh)), (3, tp (V.ptr 3 0)), (4, tp (V.ptr 4 0)), (6, tp (vb false)), (24, tp (i64 3))] [(3, Blk.mk [u8 f.a0, u8 f.a1, u8 (imax f.a2 1), u8 f.a3, u8 f.a4, u8 c.a0, u8 c.a1, u8 c.a2, u8 c.a3, u8 c.a4] true 10 none), (4, Blk.mk [u8 lv, i64 un, u8 ev] true 3 none)], by kernel_rfl, ?_⟩
    (exact ⟨2, (by omega), 3, ⟨f.a0, f.a1, imax f.a2 1, f.a3, f.a4⟩, rfl, ok_mk (by simp only [imax]; omega), (by omega), (by simp only [imax]; omega), (by omega)⟩)
  · refine AWP.seq ?_
    refine AWP.regionT tcok hmix [] [2, 3, 4, 6, 24, 25] [3, 4] (os := []) (s' := St.mk [(2, tp (u8 inh)), (3, tp (V.ptr 3 0)), (4, tp (V.ptr 4 0)), (6, tp (vb false)), (24, tp (i64 3)), (25, tp (vb true))] [(3, Blk.mk [u8 f.a0, u8 f.a1, u8 f.a2, u8 f.a3, u8 f.a4, u8 c.a0, u8 c.a1, u8 c.a2, u8 c.a3, u8 c.a4] true 10 none), (4, Blk.mk [u8 lv, i64 un, u8 ev] true 3 none)]) (by kernel_rfl) trivial ?_
    refine AWP.seq ?_
    refine AWP.cond (b := true) (by kernel_rfl) (fun _ => ?_) (fun h => by cases h)
    refine AWP.skip ?_
    refine AWP.seq ?_
    refine AWP.block ?_
    refine AWP.seq ?_
    refine AWP.regionT tcok hmix [] [2, 3, 4, 6, 7, 24] [3, 4] (os := []) (s' := St.mk [(2, tp (u8 inh)), (3, tp (V.ptr 3 0)), (4, tp (V.ptr 4 0)), (6, tp (vb false)), (7, tp (i64 3)), (24, tp (i64 3))] [(3, Blk.mk [u8 f.a0, u8 f.a1, u8 f.a2, u8 f.a3, u8 f.a4, u8 c.a0, u8 c.a1, u8 c.a2, u8 c.a3, u8 c.a4] true 10 none), (4, Blk.mk [u8 lv, i64 un, u8 ev] true 3 none)]) (by kernel_rfl) trivial ?_
    refine AWP.region tcok hmix [] (os := []) (sf := St.mk [(2, tp (u8 inh)), (3, tp (V.ptr 3 0)), (4, tp (V.ptr 4 0)), (6, tp (vb false)), (7, tp (i64 3)), (24, tp (i64 3)), (27, tp (i64 3)), (28, tp (i64 3)), (29, tp (V.ptr 3 0)), (30, tp (V.ptr 3 3)), (31, tp (u8 f.a3)), (32, tp (u8 (imax f.a3 1))), (33, tp (V.ptr 3 0)), (34, tp (V.ptr 3 3))] [(3, Blk.mk [u8 f.a0, u8 f.a1, u8 f.a2, u8 (imax f.a3 1), u8 f.a4, u8 c.a0, u8 c.a1, u8 c.a2, u8 c.a3, u8 c.a4] true 10 none), (4, Blk.mk [u8 lv, i64 un, u8 ev] true 3 none)]) (by kernel_rfl) trivial ?_
    refine AWP.keep' [2, 3, 4, 6, 24] [3, 4] (sf := St.mk [(2, tp (u8 inh)), (3, tp (V.ptr 3 0)), (4, tp (V.ptr 4 0)), (6, tp (vb false)), (24, tp (i64 3))] [(3, Blk.mk [u8 f.a0, u8 f.a1, u8 f.a2, u8 (imax f.a3 1), u8 f.a4, u8 c.a0, u8 c.a1, u8 c.a2, u8 c.a3, u8 c.a4] true 10 none), (4, Blk.mk [u8 lv, i64 un, u8 ev] true 3 none)]) (by kernel_rfl) ?_
    refine AWP.region tcok hmix [] (os := []) (sf := St.mk [(2, tp (u8 inh)), (3, tp (V.ptr 3 0)), (4, tp (V.ptr 4 0)), (6, tp (vb false)), (24, tp (i64 4)), (35, tp (i64 4))] [(3, Blk.mk [u8 f.a0, u8 f.a1, u8 f.a2, u8 (imax f.a3 1), u8 f.a4, u8 c.a0, u8 c.a1, u8 c.a2, u8 c.a3, u8 c.a4] true 10 none), (4, Blk.mk [u8 lv, i64 un, u8 ev] true 3 none)]) (by kernel_rfl) trivial ?_
    refine ⟨St.mk [(2, tp (u8 inh)), (3, tp (V.ptr 3 0)), (4, tp (V.ptr 4 0)), (6, tp (vb false)), (24, tp (i64 4))] [(3, Blk.mk [u8 f.a0, u8 f.a1, u8 f.a2, u8 (imax f.a3 1), u8 f.a4, u8 c.a0, u8 c.a1, u8 c.a2, u8 c.a3, u8 c.a4] true 10 none), (4, Blk.mk [u8 lv, i64 un, u8 ev] true 3 none)], by kernel_rfl, ?_⟩
    (exact ⟨1, (by omega), 4, ⟨f.a0, f.a1, f.a2, imax f.a3 1, f.a4⟩, rfl, ok_mk (by simp only [imax]; omega), (by omega), (by simp only [imax]; omega), (by omega)⟩)
  · refine AWP.seq ?_
    refine AWP.regionT tcok hmix [] [2, 3, 4, 6, 24, 25] [3, 4] (os := []) (s' := St.mk [(2, tp (u8 inh)), (3, tp (V.ptr 3 0)), (4, tp (V.ptr 4 0)), (6, tp (vb false)), (24, tp (i64 4)), (25, tp (vb true))] [(3, Blk.mk [u8 f.a0, u8 f.a1, u8 f.a2, u8 f.a3, u8 f.a4, u8 c.a0, u8 c.a1, u8 c.a2, u8 c.a3, u8 c.a4] true 10 none), (4, Blk.mk [u8 lv, i64 un, u8 ev] true 3 none)]) (by kernel_rfl) trivial ?_
    refine AWP.seq ?_
    refine AWP.cond (b := true) (by kernel_rfl) (fun _ => ?_) (fun h => by cases h)
    refine AWP.skip ?_
    refine AWP.seq ?_
    refine AWP.block ?_
    refine AWP.seq ?_
    refine AWP.regionT tcok hmix [] [2, 3, 4, 6, 7, 24] [3, 4] (os := []) (s' := St.mk [(2, tp (u8 inh)), (3, tp (V.ptr 3 0)), (4, tp (V.ptr 4 0)), (6, tp (vb false)), (7, tp (i64 4)), (24, tp (i64 4))] [(3, Blk.mk [u8 f.a0, u8 f.a1, u8 f.a2, u8 f.a3, u8 f.a4, u8 c.a0, u8 c.a1, u8 c.a2, u8 c.a3, u8 c.a4] true 10 none), (4, Blk.mk [u8 lv, i64 un, u8 ev] true 3 none)]) (by kernel_rfl) trivial ?_
    refine AWP.region tcok hmix [] (os := []) (sf := St.mk [(2, tp (u8 inh)), (3, tp (V.ptr 3 0)), (4, tp (V.ptr 4 0)), (6, tp (vb false)), (7, tp (i64 4)), (24, tp (i64 4)), (27, tp (i64 4)), (28, tp (i64 4)), (29, tp (V.ptr 3 0)), (30, tp (V.ptr 3 4)), (31, tp (u8 f.a4)), (32, tp (u8 (imax f.a4 1))), (33, tp (V.ptr 3 0)), (34, tp (V.ptr 3 4))] [(3, Blk.mk [u8 f.a0, u8 f.a1, u8 f.a2, u8 f.a3, u8 (imax f.a4 1), u8 c.a0, u8 c.a1, u8 c.a2, u8 c.a3, u8 c.a4] true 10 none), (4, Blk.mk [u8 lv, i64 un, u8 ev] true 3 none)]) (by kernel_rfl) trivial ?_
    refine AWP.keep' [2, 3, 4, 6, 24] [3, 4] (sf := St.mk [(2, tp (u8 inh)), (3, tp (V.ptr 3 0)), (4, tp (V.ptr 4 0)), (6, tp (vb false)), (24, tp (i64 4))] [(3, Blk.mk [u8 f.a0, u8 f.a1, u8 f.a2, u8 f.a3, u8 (imax f.a4 1), u8 c.a0, u8 c.a1, u8 c.a2, u8 c.a3, u8 c.a4] true 10 none), (4, Blk.mk [u8 lv, i64 un, u8 ev] true 3 none)]) (by kernel_rfl) ?_
    refine AWP.region tcok hmix [] (os := []) (sf := St.mk [(2, tp (u8 inh)), (3, tp (V.ptr 3 0)), (4, tp (V.ptr 4 0)), (6, tp (vb false)), (24, tp (i64 5)), (35, tp (i64 5))] [(3, Blk.mk [u8 f.a0, u8 f.a1, u8 f.a2, u8 f.a3, u8 (imax f.a4 1), u8 c.a0, u8 c.a1, u8 c.a2, u8 c.a3, u8 c.a4] true 10 none), (4, Blk.mk [u8 lv, i64 un, u8 ev] true 3 none)]) (by kernel_rfl) trivial ?_
    refine ⟨St.mk [(2, tp (u8 inh)), (3, tp (V.ptr 3 0)), (4, tp (V.ptr 4 0)), (6, tp (vb false)), (24, tp (i64 5))] [(3, Blk.mk [u8 f.a0, u8 f.a1, u8 f.a2, u8 f.a3, u8 (imax f.a4 1), u8 c.a0, u8 c.a1, u8 c.a2, u8 c.a3, u8 c.a4] true 10 none), (4, Blk.mk [u8 lv, i64 un, u8 ev] true 3 none)], by kernel_rfl, ?_⟩
    (exact ⟨0, (by omega), 5, ⟨f.a0, f.a1, f.a2, f.a3, imax f.a4 1⟩, rfl, ok_mk (by simp only [imax]; omega), (by omega), (by simp only [imax]; omega), (by omega)⟩)
  · have z : (F5.mk 0 0 0 0 0).ok := ok_mk (by omega)
    have r1 := con_free_1 0 f ⟨0, 0, 0, 0, 0⟩ (ev % 16) ev (by omega) z (by omega) rfl (by dsimp only; omega)
    have r2 := con_free_1 1 f ⟨0, 0, 0, 0, 0⟩ (ev % 16) ev (by omega) z (by omega) rfl (by dsimp only; omega)
    have r3 := con_full f c 1 (ev % 16) ev hc (by omega) (by omega)
    have r4 := con_raise_no inh f c 6 (ev % 16) ev rfl
    refine AWP.seq ?_
    refine AWP.regionT tcok hmix [] [2, 3, 4, 6, 24, 25] [3, 4] (os := []) (s' := St.mk [(2, tp (u8 inh)), (3, tp (V.ptr 3 0)), (4, tp (V.ptr 4 0)), (6, tp (vb false)), (24, tp (i64 5)), (25, tp (vb false))] [(3, Blk.mk [u8 f.a0, u8 f.a1, u8 f.a2, u8 f.a3, u8 f.a4, u8 c.a0, u8 c.a1, u8 c.a2, u8 c.a3, u8 c.a4] true 10 none), (4, Blk.mk [u8 lv, i64 un, u8 ev] true 3 none)]) (by kernel_rfl) trivial ?_
    refine AWP.seq ?_
    refine AWP.cond (b := false) (by kernel_rfl) (fun h => by cases h) (fun _ => ?_)
    refine AWP.exit ?_
    refine AWP.seq ?_
    refine AWP.regionT tcok hmix [(2, ⟨some (u8 1), none⟩), (5, ⟨some (u8 (ev % 16)), none⟩), (6, ⟨some (i64 (ev % 16)), none⟩)] [2, 3, 4, 6] [3, 4] (os := [(5 : Int) ≠ (0 : Int), u8 (Int.tmod lv 5) = u8 1, (16 : Int) ≠ (0 : Int), u8 (Int.tmod ev 16) = u8 (ev % 16), i64 (IntKind.wrap IntKind.i64 (ev % 16)) = i64 (ev % 16)]) (s' := St.mk [(2, tp (u8 inh)), (3, tp (V.ptr 3 0)), (4, tp (V.ptr 4 0)), (6, tp (vb false))] [(3, Blk.mk [u8 f.a0, u8 f.a1, u8 f.a2, u8 f.a3, u8 f.a4, u8 c.a0, u8 c.a1, u8 c.a2, u8 c.a3, u8 c.a4] true 10 none), (4, Blk.mk [u8 1, i64 (ev % 16), u8 ev] true 3 none)]) (by kernel_rfl) ⟨(by omega), (in_eq hk), (by omega), (tm_ (by omega)), (wr_i64 (by omega) (by omega)), trivial⟩ ?_
    refine AWP.seq ?_
    refine AWP.regionT tcok hmix [(1, ⟨none, some ⟨ladV f (F5.mk 0 0 0 0 0), [], []⟩⟩), (3, ⟨none, some ⟨V.tup [ladV f (F5.inc (F5.mk 0 0 0 0 0) 1), V.agg true [u8 1, i64 (ev % 16), u8 ev], vb true], [], []⟩⟩)] [2, 3, 4, 6, 9, 10] [3, 4, 9] (os := [Con Tryd.prog 18 [] [V.agg true [u8 f.a0, u8 f.a1, u8 f.a2, u8 f.a3, u8 f.a4, u8 c.a0, u8 c.a1, u8 c.a2, u8 c.a3, u8 c.a4]] [] (V.agg true [u8 f.a0, u8 f.a1, u8 f.a2, u8 f.a3, u8 f.a4, u8 0, u8 0, u8 0, u8 0, u8 0]), Con Tryd.prog 13 [] [V.agg true [u8 f.a0, u8 f.a1, u8 f.a2, u8 f.a3, u8 f.a4, u8 0, u8 0, u8 0, u8 0, u8 0], V.agg true [u8 1, i64 (ev % 16), u8 ev], u8 0] [] (V.tup [V.agg true [u8 f.a0, u8 f.a1, u8 f.a2, u8 f.a3, u8 f.a4, u8 0, u8 1, u8 0, u8 0, u8 0], V.agg true [u8 1, i64 (ev % 16), u8 ev], vb true])]) (s' := St.mk [(2, tp (u8 inh)), (3, tp (V.ptr 3 0)), (4, tp (V.ptr 4 0)), (6, tp (vb false)), (9, tp (V.ptr 9 0)), (10, tp (vb true))] [(3, Blk.mk [u8 f.a0, u8 f.a1, u8 f.a2, u8 f.a3, u8 f.a4, u8 c.a0, u8 c.a1, u8 c.a2, u8 c.a3, u8 c.a4] true 10 none), (4, Blk.mk [u8 1, i64 (ev % 16), u8 ev] true 3 none), (9, Blk.mk [u8 1, i64 (ev % 16), u8 ev] true 3 none)]) (by kernel_rfl) ⟨(con_calm (f) (c)), (r1 ), trivial⟩ ?_
    refine AWP.seq ?_
    refine AWP.regionT tcok hmix [(2, ⟨none, some ⟨V.tup [ladV f c, V.agg true [u8 0, i64 0, u8 0], vb false], [], []⟩⟩)] [2, 3, 4, 6, 9, 10, 13] [3, 4, 9] (os := [Con Tryd.prog 13 [] [V.agg true [u8 f.a0, u8 f.a1, u8 f.a2, u8 f.a3, u8 f.a4, u8 c.a0, u8 c.a1, u8 c.a2, u8 c.a3, u8 c.a4], V.agg true [u8 1, i64 (ev % 16), u8 ev], u8 31] [] (V.tup [V.agg true [u8 f.a0, u8 f.a1, u8 f.a2, u8 f.a3, u8 f.a4, u8 c.a0, u8 c.a1, u8 c.a2, u8 c.a3, u8 c.a4], V.agg true [u8 0, i64 0, u8 0], vb false])]) (s' := St.mk [(2, tp (u8 inh)), (3, tp (V.ptr 3 0)), (4, tp (V.ptr 4 0)), (6, tp (vb false)), (9, tp (V.ptr 9 0)), (10, tp (vb true)), (13, tp (vb false))] [(3, Blk.mk [u8 f.a0, u8 f.a1, u8 f.a2, u8 f.a3, u8 f.a4, u8 c.a0, u8 c.a1, u8 c.a2, u8 c.a3, u8 c.a4] true 10 none), (4, Blk.mk [u8 1, i64 (ev % 16), u8 ev] true 3 none), (9, Blk.mk [u8 1, i64 (ev % 16), u8 ev] true 3 none)]) (by kernel_rfl) ⟨(r3 ), trivial⟩ ?_
    refine AWP.seq ?_
    refine AWP.regionT tcok hmix [] [2, 3, 4, 6, 9, 10, 13, 14] [3, 4, 9] (os := []) (s' := St.mk [(2, tp (u8 inh)), (3, tp (V.ptr 3 0)), (4, tp (V.ptr 4 0)), (6, tp (vb false)), (9, tp (V.ptr 9 0)), (10, tp (vb true)), (13, tp (vb false)), (14, tp (u8 1))] [(3, Blk.mk [u8 f.a0, u8 f.a1, u8 f.a2, u8 f.a3, u8 f.a4, u8 c.a0, u8 c.a1, u8 c.a2, u8 c.a3, u8 c.a4] true 10 none), (4, Blk.mk [u8 1, i64 (ev % 16), u8 ev] true 3 none), (9, Blk.mk [u8 1, i64 (ev % 16), u8 ev] true 3 none)]) (by kernel_rfl) trivial ?_
    refine AWP.seq ?_
    refine AWP.regionT tcok hmix [(1, ⟨none, some ⟨ladV f (F5.mk 0 0 0 0 0), [], []⟩⟩), (4, ⟨none, some ⟨V.tup [ladV f (F5.inc (F5.mk 0 0 0 0 0) 1), V.agg true [u8 1, i64 (ev % 16), u8 ev], vb true], [], []⟩⟩)] [2, 3, 4, 6, 9, 10, 13, 16, 17] [3, 4, 9, 16] (os := [Con Tryd.prog 18 [] [V.agg true [u8 f.a0, u8 f.a1, u8 f.a2, u8 f.a3, u8 f.a4, u8 c.a0, u8 c.a1, u8 c.a2, u8 c.a3, u8 c.a4]] [] (V.agg true [u8 f.a0, u8 f.a1, u8 f.a2, u8 f.a3, u8 f.a4, u8 0, u8 0, u8 0, u8 0, u8 0]), Con Tryd.prog 13 [] [V.agg true [u8 f.a0, u8 f.a1, u8 f.a2, u8 f.a3, u8 f.a4, u8 0, u8 0, u8 0, u8 0, u8 0], V.agg true [u8 1, i64 (ev % 16), u8 ev], u8 1] [] (V.tup [V.agg true [u8 f.a0, u8 f.a1, u8 f.a2, u8 f.a3, u8 f.a4, u8 0, u8 1, u8 0, u8 0, u8 0], V.agg true [u8 1, i64 (ev % 16), u8 ev], vb true])]) (s' := St.mk [(2, tp (u8 inh)), (3, tp (V.ptr 3 0)), (4, tp (V.ptr 4 0)), (6, tp (vb false)), (9, tp (V.ptr 9 0)), (10, tp (vb true)), (13, tp (vb false)), (16, tp (V.ptr 16 0)), (17, tp (vb true))] [(3, Blk.mk [u8 f.a0, u8 f.a1, u8 f.a2, u8 f.a3, u8 f.a4, u8 c.a0, u8 c.a1, u8 c.a2, u8 c.a3, u8 c.a4] true 10 none), (4, Blk.mk [u8 1, i64 (ev % 16), u8 ev] true 3 none), (9, Blk.mk [u8 1, i64 (ev % 16), u8 ev] true 3 none), (16, Blk.mk [u8 1, i64 (ev % 16), u8 ev] true 3 none)]) (by kernel_rfl) ⟨(con_calm (f) (c)), (r2 ), trivial⟩ ?_
    refine AWP.seq ?_
    refine AWP.regionT tcok hmix [] [2, 3, 4, 6, 9, 10, 13, 16, 17, 18] [3, 4, 9, 16, 18] (os := []) (s' := St.mk [(2, tp (u8 inh)), (3, tp (V.ptr 3 0)), (4, tp (V.ptr 4 0)), (6, tp (vb false)), (9, tp (V.ptr 9 0)), (10, tp (vb true)), (13, tp (vb false)), (16, tp (V.ptr 16 0)), (17, tp (vb true)), (18, tp (V.ptr 18 0))] [(3, Blk.mk [u8 f.a0, u8 f.a1, u8 f.a2, u8 f.a3, u8 f.a4, u8 c.a0, u8 c.a1, u8 c.a2, u8 c.a3, u8 c.a4] true 10 none), (4, Blk.mk [u8 1, i64 (ev % 16), u8 ev] true 3 none), (9, Blk.mk [u8 1, i64 (ev % 16), u8 ev] true 3 none), (16, Blk.mk [u8 1, i64 (ev % 16), u8 ev] true 3 none), (18, Blk.mk [u8 1, i64 (ev % 16), u8 ev] true 3 none)]) (by kernel_rfl) trivial ?_
    refine AWP.seq ?_
    refine AWP.regionT tcok hmix [] [2, 3, 4, 6, 9, 10, 13, 16, 17, 18] [3, 4, 9, 16, 18] (os := []) (s' := St.mk [(2, tp (u8 inh)), (3, tp (V.ptr 3 0)), (4, tp (V.ptr 4 0)), (6, tp (vb false)), (9, tp (V.ptr 9 0)), (10, tp (vb true)), (13, tp (vb false)), (16, tp (V.ptr 16 0)), (17, tp (vb true)), (18, tp (V.ptr 18 0))] [(3, Blk.mk [u8 f.a0, u8 f.a1, u8 f.a2, u8 f.a3, u8 f.a4, u8 c.a0, u8 c.a1, u8 c.a2, u8 c.a3, u8 c.a4] true 10 none), (4, Blk.mk [u8 1, i64 (ev % 16), u8 ev] true 3 none), (9, Blk.mk [u8 1, i64 (ev % 16), u8 ev] true 3 none), (16, Blk.mk [u8 1, i64 (ev % 16), u8 ev] true 3 none), (18, Blk.mk [u8 6, i64 (ev % 16), u8 ev] true 3 none)]) (by kernel_rfl) trivial ?_
    refine AWP.seq ?_
    refine AWP.regionT tcok hmix [(3, ⟨none, some ⟨V.tup [ladV f c, V.agg true [u8 0, i64 0, u8 0], vb false], [], []⟩⟩)] [4, 6, 9, 10, 13, 16, 17, 21] [4, 9, 16] (os := [Con Tryd.prog 13 [] [V.agg true [u8 f.a0, u8 f.a1, u8 f.a2, u8 f.a3, u8 f.a4, u8 c.a0, u8 c.a1, u8 c.a2, u8 c.a3, u8 c.a4], V.agg true [u8 6, i64 (ev % 16), u8 ev], u8 inh] [] (V.tup [V.agg true [u8 f.a0, u8 f.a1, u8 f.a2, u8 f.a3, u8 f.a4, u8 c.a0, u8 c.a1, u8 c.a2, u8 c.a3, u8 c.a4], V.agg true [u8 0, i64 0, u8 0], vb false])]) (s' := St.mk [(4, tp (V.ptr 4 0)), (6, tp (vb false)), (9, tp (V.ptr 9 0)), (10, tp (vb true)), (13, tp (vb false)), (16, tp (V.ptr 16 0)), (17, tp (vb true)), (21, tp (vb false))] [(4, Blk.mk [u8 1, i64 (ev % 16), u8 ev] true 3 none), (9, Blk.mk [u8 1, i64 (ev % 16), u8 ev] true 3 none), (16, Blk.mk [u8 1, i64 (ev % 16), u8 ev] true 3 none)]) (by kernel_rfl) ⟨(r4 ), trivial⟩ ?_
    refine AWP.seq ?_
    refine AWP.regionT tcok hmix [] [6] [] (os := []) (s' := St.mk [(6, tp (vb (true && bl true (1 == 1 && (ev % 16 == ev % 16 && (ev == ev && true))) && true && true && bl true (1 == 1 && (ev % 16 == ev % 16 && (ev == ev && true))) && true)))] []) (by kernel_rfl) trivial ?_
    refine AWP.ret ?_
    refine ⟨Or.inr rfl, Eq.trans (b := some ([], vb (true && bl true (1 == 1 && (ev % 16 == ev % 16 && (ev == ev && true))) && true && true && bl true (1 == 1 && (ev % 16 == ev % 16 && (ev == ev && true))) && true))) (by kernel_rfl) ?_⟩
    first | rfl | (simp [bl]; done)
theorem law_rests_2 (inh : Int) (l c : F5) (lv un ev : Int) (hi : 0 ≤ inh ∧ inh < 256) (hl : l.ok) (hc : c.ok) (hlv : 0 ≤ lv ∧ lv < 256) (hev : 0 ≤ ev ∧ ev < 256) (hk : lv.tmod 5 = 2) :
    Con Tryd.prog 6 [] [ladV l c, .agg true [u8 lv, i64 un, u8 ev], u8 inh] [] (vb true) := by
  refine Con.of (C := ⟨Tryd.prog, tc, Tryd.f6.ntmps⟩) [] tcok Tryd.func6 rfl rfl (by kernel_rfl) (by kernel_rfl) ?_
  refine AWP.seq ?_
  refine AWP.regionT tcok hmix [] [2, 3, 4, 6] [3, 4] (os := []) (s' := St.mk [(2, tp (u8 inh)), (3, tp (V.ptr 3 0)), (4, tp (V.ptr 4 0)), (6, tp (vb false))] [(3, Blk.mk [u8 l.a0, u8 l.a1, u8 l.a2, u8 l.a3, u8 l.a4, u8 c.a0, u8 c.a1, u8 c.a2, u8 c.a3, u8 c.a4] true 10 none), (4, Blk.mk [u8 lv, i64 un, u8 ev] true 3 none)]) (by kernel_rfl) trivial ?_
  refine AWP.seq ?_
  refine AWP.seq ?_
  refine AWP.regionT tcok hmix [(0, ⟨none, some ⟨vb true, [], []⟩⟩)] [2, 3, 4, 6, 23] [3, 4] (os := [Con Tryd.prog 11 [] [] [] (vb true)]) (s' := St.mk [(2, tp (u8 inh)), (3, tp (V.ptr 3 0)), (4, tp (V.ptr 4 0)), (6, tp (vb false)), (23, tp (vb false))] [(3, Blk.mk [u8 l.a0, u8 l.a1, u8 l.a2, u8 l.a3, u8 l.a4, u8 c.a0, u8 c.a1, u8 c.a2, u8 c.a3, u8 c.a4] true 10 none), (4, Blk.mk [u8 lv, i64 un, u8 ev] true 3 none)]) (by kernel_rfl) ⟨(con_awake22 ), trivial⟩ ?_
  refine AWP.cond (b := false) (by kernel_rfl) (fun h => by cases h) (fun _ => ?_)
  refine AWP.skip ?_
  refine AWP.seq ?_
  refine AWP.seq ?_
  refine AWP.regionT tcok hmix [] [2, 3, 4, 6, 24] [3, 4] (os := []) (s' := St.mk [(2, tp (u8 inh)), (3, tp (V.ptr 3 0)), (4, tp (V.ptr 4 0)), (6, tp (vb false)), (24, tp (i64 0))] [(3, Blk.mk [u8 l.a0, u8 l.a1, u8 l.a2, u8 l.a3, u8 l.a4, u8 c.a0, u8 c.a1, u8 c.a2, u8 c.a3, u8 c.a4] true 10 none), (4, Blk.mk [u8 lv, i64 un, u8 ev] true 3 none)]) (by kernel_rfl) trivial ?_
  refine AWP.block ?_
  refine AWP.loopI [2, 3, 4, 6, 24] [3, 4] (fun N s' => ∃ (i : Int) (f : F5), s' = St.mk [(2, T.plain (u8 inh)), (3, T.plain (V.ptr 3 0)), (4, T.plain (V.ptr 4 0)), (6, T.plain (vb false)), (24, T.plain (i64 i))] [(3, Blk.mk [u8 f.a0, u8 f.a1, u8 f.a2, u8 f.a3, u8 f.a4, u8 c.a0, u8 c.a1, u8 c.a2, u8 c.a3, u8 c.a4] true 10 none), (4, Blk.mk [u8 lv, i64 un, u8 ev] true 3 none)] ∧ f.ok ∧ (0 ≤ i ∧ i ≤ 5) ∧ ((0 < i → 1 ≤ f.a0) ∧ (1 < i → 1 ≤ f.a1) ∧ (2 < i → 1 ≤ f.a2) ∧ (3 < i → 1 ≤ f.a3) ∧ (4 < i → 1 ≤ f.a4)) ∧ (N : Int) = 5 - i) 5 (s0 := St.mk [(2, T.plain (u8 inh)), (3, T.plain (V.ptr 3 0)), (4, T.plain (V.ptr 4 0)), (6, T.plain (vb false)), (24, T.plain (i64 0))] [(3, Blk.mk [u8 l.a0, u8 l.a1, u8 l.a2, u8 l.a3, u8 l.a4, u8 c.a0, u8 c.a1, u8 c.a2, u8 c.a3, u8 c.a4] true 10 none), (4, Blk.mk [u8 lv, i64 un, u8 ev] true 3 none)]) (by kernel_rfl) ?_ ?_
  · exact ⟨0, l, rfl, hl, by omega, by omega, by omega⟩
  rintro N s' ⟨i, f, rfl, hf, hi5, hg, hN⟩
  have hf' := hf
  obtain ⟨f1, f2, f3, f4, f5, f6, f7, f8, f9, f0⟩ := hf
  rcases (by omega : i = 0 ∨ i = 1 ∨ i = 2 ∨ i = 3 ∨ i = 4 ∨ i = 5) with rfl | rfl | rfl | rfl | rfl | rfl
  · refine AWP.seq ?_
    refine AWP.regionT tcok hmix [] [2, 3, 4, 6, 24, 25] [3, 4] (os := []) (s' := St.mk [(2, tp (u8 inh)), (3, tp (V.ptr 3 0)), (4, tp (V.ptr 4 0)), (6, tp (vb false)), (24, tp (i64 0)), (25, tp (vb true))] [(3, Blk.mk [u8 f.a0, u8 f.a1, u8 f.a2, u8 f.a3, u8 f.a4, u8 c.a0, u8 c.a1, u8 c.a2, u8 c.a3, u8 c.a4] true 10 none), (4, Blk.mk [u8 lv, i64 un, u8 ev] true 3 none)]) (by kernel_rfl) trivial ?_
    refine AWP.seq ?_
    refine AWP.cond (b := true) (by kernel_rfl) (fun _ => ?_) (fun h => by cases h)
    refine AWP.skip ?_
    refine AWP.seq ?_
    refine AWP.block ?_
    refine AWP.seq ?_
    refine AWP.regionT tcok hmix [] [2, 3, 4, 6, 7, 24] [3, 4] (os := []) (s' := St.mk [(2, tp (u8 inh)), (3, tp (V.ptr 3 0)), (4, tp (V.ptr 4 0)), (6, tp (vb false)), (7, tp (i64 0)), (24, tp (i64 0))] [(3, Blk.mk [u8 f.a0, u8 f.a1, u8 f.a2, u8 f.a3, u8 f.a4, u8 c.a0, u8 c.a1, u8 c.a2, u8 c.a3, u8 c.a4] true 10 none), (4, Blk.mk [u8 lv, i64 un, u8 ev] true 3 none)]) (by kernel_rfl) trivial ?_
    refine AWP.region tcok hmix [] (os := []) (sf := St.mk [(2, tp (u8 inh)), (3, tp (V.ptr 3 0)), (4, tp (V.ptr 4 0)), (6, tp (vb false)), (7, tp (i64 0)), (24, tp (i64 0)), (27, tp (i64 0)), (28, tp (i64 0)), (29, tp (V.ptr 3 0)), (30, tp (V.ptr 3 0)), (31, tp (u8 f.a0)), (32, tp (u8 (imax f.a0 1))), (33, tp (V.ptr 3 0)), (34, tp (V.ptr 3 0))] [(3, Blk.mk [u8 (imax f.a0 1), u8 f.a1, u8 f.a2, u8 f.a3, u8 f.a4, u8 c.a0, u8 c.a1, u8 c.a2, u8 c.a3, u8 c.a4] true 10 none), (4, Blk.mk [u8 lv, i64 un, u8 ev] true 3 none)]) (by kernel_rfl) trivial ?_
    refine AWP.keep' [2, 3, 4, 6, 24] [3, 4] (sf := St.mk [(2, tp (u8 inh)), (3, tp (V.ptr 3 0)), (4, tp (V.ptr 4 0)), (6, tp (vb false)), (24, tp (i64 0))] [(3, Blk.mk [u8 (imax f.a0 1), u8 f.a1, u8 f.a2, u8 f.a3, u8 f.a4, u8 c.a0, u8 c.a1, u8 c.a2, u8 c.a3, u8 c.a4] true 10 none), (4, Blk.mk [u8 lv, i64 un, u8 ev] true 3 none)]) (by kernel_rfl) ?_
    refine AWP.region tcok hmix [] (os := []) (sf := St.mk [(2, tp (u8 inh)), (3, tp (V.ptr 3 0)), (4, tp (V.ptr 4 0)), (6, tp (vb false)), (24, tp (i64 1)), (35, tp (i64 1))] [(3, Blk.mk [u8 (imax f.a0 1), u8 f.a1, u8 f.a2, u8 f.a3, u8 f.a4, u8 c.a0, u8 c.a1, u8 c.a2, u8 c.a3, u8 c.a4] true 10 none), (4, Blk.mk [u8 lv, i64 un, u8 ev] true 3 none)]) (by kernel_rfl) trivial ?_
    refine ⟨St.mk [(2, tp (u8 inh)), (3, tp (V.ptr 3 0)), (4, tp (V.ptr 4 0)), (6, tp (vb false)), (24, tp (i64 1))] [(3, Blk.mk [u8 (imax f.a0 1), u8 f.a1, u8 f.a2, u8 f.a3, u8 f.a4, u8 c.a0, u8 c.a1, u8 c.a2, u8 c.a3, u8 c.a4] true 10 none), (4, Blk.mk [u8 lv, i64 un, u8 ev] true 3 none)], by kernel_rfl, ?_⟩
    (exact ⟨4, (by omega), 1, ⟨imax f.a0 1, f.a1, f.a2, f.a3, f.a4⟩, rfl, ok_mk (by simp only [imax]; omega), (by omega), (by simp only [imax]; omega), (by omega)⟩)
  · refine AWP.seq ?_
    refine AWP.regionT tcok hmix [] [2, 3, 4, 6, 24, 25] [3, 4] (os := []) (s' := St.mk [(2, tp (u8 inh)), (3, tp (V.ptr 3 0)), (4, tp (V.ptr 4 0)), (6, tp (vb false)), (24, tp (i64 1)), (25, tp (vb true))] [(3, Blk.mk [u8 f.a0, u8 f.a1, u8 f.a2, u8 f.a3, u8 f.a4, u8 c.a0, u8 c.a1, u8 c.a2, u8 c.a3, u8 c.a4] true 10 none), (4, Blk.mk [u8 lv, i64 un, u8 ev] true 3 none)]) (by kernel_rfl) trivial ?_
    refine AWP.seq ?_
    refine AWP.cond (b := true) (by kernel_rfl) (fun _ => ?_) (fun h => by cases h)
    refine AWP.skip ?_
    refine AWP.seq ?_
    refine AWP.block ?_
    refine AWP.seq ?_
    refine AWP.regionT tcok hmix [] [2, 3, 4, 6, 7, 24] [3, 4] (os := []) (s' := St.mk [(2, tp (u8 inh)), (3, tp (V.ptr 3 0)), (4, tp (V.ptr 4 0)), (6, tp (vb false)), (7, tp (i64 1)), (24, tp (i64 1))] [(3, Blk.mk [u8 f.a0, u8 f.a1, u8 f.a2, u8 f.a3, u8 f.a4, u8 c.a0, u8 c.a1, u8 c.a2, u8 c.a3, u8 c.a4] true 10 none), (4, Blk.mk [u8 lv, i64 un, u8 ev] true 3 none)]) (by kernel_rfl) trivial ?_
    refine AWP.region tcok hmix [] (os := []) (sf := St.mk [(2, tp (u8 inh)), (3, tp (V.ptr 3 0)), (4, tp (V.ptr 4 0)), (6, tp (vb false)), (7, tp (i64 1)), (24, tp (i64 1)), (27, tp (i64 1)), (28, tp (i64 1)), (29, tp (V.ptr 3 0)), (30, tp (V.ptr 3 1)), (31, tp (u8 f.a1)), (32, tp (u8 (imax f.a1 1))), (33, tp (V.ptr 3 0)), (34, tp (V.ptr 3 1))] [(3, Blk.mk [u8 f.a0, u8 (imax f.a1 1), u8 f.a2, u8 f.a3, u8 f.a4, u8 c.a0, u8 c.a1, u8 c.a2, u8 c.a3, u8 c.a4] true 10 none), (4, Blk.mk [u8 lv, i64 un, u8 ev] true 3 none)]) (by kernel_rfl) trivial ?_
    refine AWP.keep' [2, 3, 4, 6, 24] [3, 4] (sf := St.mk [(2, tp (u8 inh)), (3, tp (V.ptr 3 0)), (4, tp (V.ptr 4 0)), (6, tp (vb false)), (24, tp (i64 1))] [(3, Blk.mk [u8 f.a0, u8 (imax f.a1 1), u8 f.a2, u8 f.a3, u8 f.a4, u8 c.a0, u8 c.a1, u8 c.a2, u8 c.a3, u8 c.a4] true 10 none), (4, Blk.mk [u8 lv, i64 un, u8 ev] true 3 none)]) (by kernel_rfl) ?_
    refine AWP.region tcok hmix [] (os := []) (sf := St.mk [(2, tp (u8 inh)), (3, tp (V.ptr 3 0)), (4, tp (V.ptr 4 0)), (6, tp (vb false)), (24, tp (i64 2)), (35, tp (i64 2))] [(3, Blk.mk [u8 f.a0, u8 (imax f.a1 1), u8 f.a2, u8 f.a3, u8 f.a4, u8 c.a0, u8 c.a1, u8 c.a2, u8 c.a3, u8 c.a4] true 10 none), (4, Blk.mk [u8 lv, i64 un, u8 ev] true 3 none)]) (by kernel_rfl) trivial ?_
    refine ⟨St.mk [(2, tp (u8 inh)), (3, tp (V.ptr 3 0)), (4, tp (V.ptr 4 0)), (6, tp (vb false)), (24, tp (i64 2))] [(3, Blk.mk [u8 f.a0, u8 (imax f.a1 1), u8 f.a2, u8 f.a3, u8 f.a4, u8 c.a0, u8 c.a1, u8 c.a2, u8 c.a3, u8 c.a4] true 10 none), (4, Blk.mk [u8 lv, i64 un, u8 ev] true 3 none)], by kernel_rfl, ?_⟩
    (exact ⟨3, (by omega), 2, ⟨f.a0, imax f.a1 1, f.a2, f.a3, f.a4⟩, rfl, ok_mk (by simp only [imax]; omega), (by omega), (by simp only [imax]; omega), (by omega)⟩)
  · refine AWP.seq ?_
    refine AWP.regionT tcok hmix [] [2, 3, 4, 6, 24, 25] [3, 4] (os := []) (s' := St.mk [(2, tp (u8 inh)), (3, tp (V.ptr 3 0)), (4, tp (V.ptr 4 0)), (6, tp (vb false)), (24, tp (i64 2)), (25, tp (vb true))] [(3, Blk.mk [u8 f.a0, u8 f.a1, u8 f.a2, u8 f.a3, u8 f.a4, u8 c.a0, u8 c.a1, u8 c.a2, u8 c.a3, u8 c.a4] true 10 none), (4, Blk.mk [u8 lv, i64 un, u8 ev] true 3 none)]) (by kernel_rfl) trivial ?_
    refine AWP.seq ?_
    refine AWP.cond (b := true) (by kernel_rfl) (fun _ => ?_) (fun h => by cases h)
    refine AWP.skip ?_
    refine AWP.seq ?_
    refine AWP.block ?_
    refine AWP.seq ?_
    refine AWP.regionT tcok hmix [] [2, 3, 4, 6, 7, 24] [3, 4] (os := []) (s' := St.mk [(2, tp (u8 inh)), (3, tp (V.ptr 3 0)), (4, tp (V.ptr 4 0)), (6, tp (vb false)), (7, tp (i64 2)), (24, tp (i64 2))] [(3, Blk.mk [u8 f.a0, u8 f.a1, u8 f.a2, u8 f.a3, u8 f.a4, u8 c.a0, u8 c.a1, u8 c.a2, u8 c.a3, u8 c.a4] true 10 none), (4, Blk.mk [u8 lv, i64 un, u8 ev] true 3 none)]) (by kernel_rfl) trivial ?_
    refine AWP.region tcok hmix [] (os := []) (sf := St.mk [(2, tp (u8 inh)), (3, tp (V.ptr 3 0)), (4, tp (V.ptr 4 0)), (6, tp (vb false)), (7, tp (i64 2)), (24, tp (i64 2)), (27, tp (i64 2)), (28, tp (i64 2)), (29, tp (V.ptr 3 0)), (30, tp (V.ptr 3 2)), (31, tp (u8 f.a2)), (32, tp (u8 (imax f.a2 1))), (33, tp (V.ptr 3 0)), (34, tp (V.ptr 3 2))] [(3, Blk.mk [u8 f.a0, u8 f.a1, u8 (imax f.a2 1), u8 f.a3, u8 f.a4, u8 c.a0, u8 c.a1, u8 c.a2, u8 c.a3, u8 c.a4] true 10 none), (4, Blk.mk [u8 lv, i64 un, u8 ev] true 3 none)]) (by kernel_rfl) trivial ?_
    refine AWP.keep' [2, 3, 4, 6, 24] [3, 4] (sf := St.mk [(2, tp (u8 inh)), (3, tp (V.ptr 3 0)), (4, tp (V.ptr 4 0)), (6, tp (vb false)), (24, tp (i64 2))] [(3, Blk.mk [u8 f.a0, u8 f.a1, u8 (imax f.a2 1), u8 f.a3, u8 f.a4, u8 c.a0, u8 c.a1, u8 c.a2, u8 c.a3, u8 c.a4] true 10 none), (4, Blk.mk [u8 lv, i64 un, u8 ev] true 3 none)]) (by kernel_rfl) ?_
    refine AWP.region tcok hmix [] (os := []) (sf := St.mk [(2, tp (u8 inh)), (3, tp (V.ptr 3 0)), (4, tp (V.ptr 4 0)), (6, tp (vb false)), (24, tp (i64 3)), (35, tp (i64 3))] [(3, Blk.mk [u8 f.a0, u8 f.a1, u8 (imax f.a2 1), u8 f.a3, u8 f.a4, u8 c.a0, u8 c.a1, u8 c.a2, u8 c.a3, u8 c.a4] true 10 none), (4, Blk.mk [u8 lv, i64 un, u8 ev] true 3 none)]) (by kernel_rfl) trivial ?_
    refine ⟨St.mk [(2, tp (u8 inh)), (3, tp (V.ptr 3 0)), (4, tp (V.ptr 4 0)), (6, tp (vb false)), (24, tp (i64 3))] [(3, Blk.mk [u8 f.a0, u8 f.a1, u8 (imax f.a2 1), u8 f.a3, u8 f.a4, u8 c.a0, u8 c.a1, u8 c.a2, u8 c.a3, u8 c.a4] true 10 none), (4, Blk.mk [u8 lv, i64 un, u8 ev] true 3 none)], by kernel_rfl, ?_⟩
    (exact ⟨2, (by omega), 3, ⟨f.a0, f.a1, imax f.a2 1, f.a3, f.a4⟩, rfl, ok_mk (by simp only [imax]; omega), (by omega), (by simp only [imax]; omega), (by omega)⟩)
  · refine AWP.seq ?_
    refine AWP.regionT tcok hmix [] [2, 3, 4, 6, 24, 25] [3, 4] (os := []) (s' := St.mk [(2, tp (u8 inh)), (3, tp (V.ptr 3 0)), (4, tp (V.ptr 4 0)), (6, tp (vb false)), (24, tp (i64 3)), (25, tp (vb true))] [(3, Blk.mk [u8 f.a0, u8 f.a1, u8 f.a2, u8 f.a3, u8 f.a4, u8 c.a0, u8 c.a1, u8 c.a2, u8 c.a3, u8 c.a4] true 10 none), (4, Blk.mk [u8 lv, i64 un, u8 ev] true 3 none)]) (by kernel_rfl) trivial ?_
    refine AWP.seq ?_
    refine AWP.cond (b := true) (by kernel_rfl) (fun _ => ?_) (fun h => by cases h)
    refine AWP.skip ?_
    refine AWP.seq ?_
    refine AWP.block ?_
    refine AWP.seq ?_
    refine AWP.regionT tcok hmix [] [2, 3, 4, 6, 7, 24] [3, 4] (os := []) (s' := St.mk [(2, tp (u8 inh)), (3, tp (V.ptr 3 0)), (4, tp (V.ptr 4 0)), (6, tp (vb false)), (7, tp (i64 3)), (24, tp (i64 3))] [(3, Blk.mk [u8 f.a0, u8 f.a1, u8 f.a2, u8 f.a3, u8 f.a4, u8 c.a0, u8 c.a1, u8 c.a2, u8 c.a3, u8 c.a4] true 10 none), (4, Blk.mk [u8 lv, i64 un, u8 ev] true 3 none)]) (by kernel_rfl) trivial ?_
    refine AWP.region tcok hmix [] (os := []) (sf := St.mk [(2, tp (u8 inh)), (3, tp (V.ptr 3 0)), (4, tp (V.ptr 4 0)), (6, tp (vb false)), (7, tp (i64 3)), (24, tp (i64 3)), (27, tp (i64 3)), (28, tp (i64 3)), (29, tp (V.ptr 3 0)), (30, tp (V.ptr 3 3)), (31, tp (u8 f.a3)), (32, tp (u8 (imax f.a3 1))), (33, tp (V.ptr 3 0)), (34, tp (V.ptr 3 3))] [(3, Blk.mk [u8 f.a0, u8 f.a1, u8 f.a2, u8 (imax f.a3 1), u8 f.a4, u8 c.a0, u8 c.a1, u8 c.a2, u8 c.a3, u8 c.a4] true 10 none), (4, Blk.mk [u8 lv, i64 un, u8 ev] true 3 none)]) (by kernel_rfl) trivial ?_
    refine AWP.keep' [2, 3, 4, 6, 24] [3, 4] (sf := St.mk [(2, tp (u8 inh)), (3, tp (V.ptr 3 0)), (4, tp (V.ptr 4 0)), (6, tp (vb false)), (24, tp (i64 3))] [(3, Blk.mk [u8 f.a0, u8 f.a1, u8 f.a2, u8 (imax f.a3 1), u8 f.a4, u8 c.a0, u8 c.a1, u8 c.a2, u8 c.a3, u8 c.a4] true 10 none), (4, Blk.mk [u8 lv, i64 un, u8 ev] true 3 none)]) (by kernel_rfl) ?_
    refine AWP.region tcok hmix [] (os := []) (sf := St.mk [(2, tp (u8 inh)), (3, tp (V.ptr 3 0)), (4, tp (V.ptr 4 0)), (6, tp (vb false)), (24, tp (i64 4)), (35, tp (i64 4))] [(3, Blk.mk [u8 f.a0, u8 f.a1, u8 f.a2, u8 (imax f.a3 1), u8 f.a4, u8 c.a0, u8 c.a1, u8 c.a2, u8 c.a3, u8 c.a4] true 10 none), (4, Blk.mk [u8 lv, i64 un, u8 ev] true 3 none)]) (by kernel_rfl) trivial ?_
    refine ⟨St.mk [(2, tp (u8 inh)), (3, tp (V.ptr 3 0)), (4, tp (V.ptr 4 0)), (6, tp (vb false)), (24, tp (i64 4))] [(3, Blk.mk [u8 f.a0, u8 f.a1, u8 f.a2, u8 (imax f.a3 1), u8 f.a4, u8 c.a0, u8 c.a1, u8 c.a2, u8 c.a3, u8 c.a4] true 10 none), (4, Blk.mk [u8 lv, i64 un, u8 ev] true 3 none)], by kernel_rfl, ?_⟩
    (exact ⟨1, (by omega), 4, ⟨f.a0, f.a1, f.a2, imax f.a3 1, f.a4⟩, rfl, ok_mk (by simp only [imax]; omega), (by omega), (by simp only [imax]; omega), (by omega)⟩)
  · refine AWP.seq ?_
    refine AWP.regionT tcok hmix [] [2, 3, 4, 6, 24, 25] [3, 4] (os := []) (s' := St.mk [(2, tp (u8 inh)), (3, tp (V.ptr 3 0)), (4, tp (V.ptr 4 0)), (6, tp (vb false)), (24, tp (i64 4)), (25, tp (vb true))] [(3, Blk.mk [u8 f.a0, u8 f.a1, u8 f.a2, u8 f.a3, u8 f.a4, u8 c.a0, u8 c.a1, u8 c.a2, u8 c.a3, u8 c.a4] true 10 none), (4, Blk.mk [u8 lv, i64 un, u8 ev] true 3 none)]) (by kernel_rfl) trivial ?_
    refine AWP.seq ?_
    refine AWP.cond (b := true) (by kernel_rfl) (fun _ => ?_) (fun h => by cases h)
    refine AWP.skip ?_
    refine AWP.seq ?_
    refine AWP.block ?_
    refine AWP.seq ?_
    refine AWP.regionT tcok hmix [] [2, 3, 4, 6, 7, 24] [3, 4] (os := []) (s' := St.mk [(2, tp (u8 inh)), (3, tp (V.ptr 3 0)), (4, tp (V.ptr 4 0)), (6, tp (vb false)), (7, tp (i64 4)), (24, tp (i64 4))] [(3, Blk.mk [u8 f.a0, u8 f.a1, u8 f.a2, u8 f.a3, u8 f.a4, u8 c.a0, u8 c.a1, u8 c.a2, u8 c.a3, u8 c.a4] true 10 none), (4, Blk.mk [u8 lv, i64 un, u8 ev] true 3 none)]) (by kernel_rfl) trivial ?_
    refine AWP.region tcok hmix [] (os := []) (sf := St.mk [(2, tp (u8 inh)), (3, tp (V.ptr 3 0)), (4, tp (V.ptr 4 0)), (6, tp (vb false)), (7, tp (i64 4)), (24, tp (i64 4)), (27, tp (i64 4)), (28, tp (i64 4)), (29, tp (V.ptr 3 0)), (30, tp (V.ptr 3 4)), (31, tp (u8 f.a4)), (32, tp (u8 (imax f.a4 1))), (33, tp (V.ptr 3 0)), (34, tp (V.ptr 3 4))] [(3, Blk.mk [u8 f.a0, u8 f.a1, u8 f.a2, u8 f.a3, u8 (imax f.a4 1), u8 c.a0, u8 c.a1, u8 c.a2, u8 c.a3, u8 c.a4] true 10 none), (4, Blk.mk [u8 lv, i64 un, u8 ev] true 3 none)]) (by kernel_rfl) trivial ?_
    refine AWP.keep' [2, 3, 4, 6, 24] [3, 4] (sf := St.mk [(2, tp (u8 inh)), (3, tp (V.ptr 3 0)), (4, tp (V.ptr 4 0)), (6, tp (vb false)), (24, tp (i64 4))] [(3, Blk.mk [u8 f.a0, u8 f.a1, u8 f.a2, u8 f.a3, u8 (imax f.a4 1), u8 c.a0, u8 c.a1, u8 c.a2, u8 c.a3, u8 c.a4] true 10 none), (4, Blk.mk [u8 lv, i64 un, u8 ev] true 3 none)]) (by kernel_rfl) ?_
    refine AWP.region tcok hmix [] (os := []) (sf := St.mk [(2, tp (u8 inh)), (3, tp (V.ptr 3 0)), (4, tp (V.ptr 4 0)), (6, tp (vb false)), (24, tp (i64 5)), (35, tp (i64 5))] [(3, Blk.mk [u8 f.a0, u8 f.a1, u8 f.a2, u8 f.a3, u8 (imax f.a4 1), u8 c.a0, u8 c.a1, u8 c.a2, u8 c.a3, u8 c.a4] true 10 none), (4, Blk.mk [u8 lv, i64 un, u8 ev] true 3 none)]) (by kernel_rfl) trivial ?_
    refine ⟨St.mk [(2, tp (u8 inh)), (3, tp (V.ptr 3 0)), (4, tp (V.ptr 4 0)), (6, tp (vb false)), (24, tp (i64 5))] [(3, Blk.mk [u8 f.a0, u8 f.a1, u8 f.a2, u8 f.a3, u8 (imax f.a4 1), u8 c.a0, u8 c.a1, u8 c.a2, u8 c.a3, u8 c.a4] true 10 none), (4, Blk.mk [u8 lv, i64 un, u8 ev] true 3 none)], by kernel_rfl, ?_⟩
    (exact ⟨0, (by omega), 5, ⟨f.a0, f.a1, f.a2, f.a3, imax f.a4 1⟩, rfl, ok_mk (by simp only [imax]; omega), (by omega), (by simp only [imax]; omega), (by omega)⟩)
  · have z : (F5.mk 0 0 0 0 0).ok := ok_mk (by omega)
    have r1 := con_free_2 0 f ⟨0, 0, 0, 0, 0⟩ (ev % 16) ev (by omega) z (by omega) rfl (by dsimp only; omega)
    have r2 := con_free_2 3 f ⟨0, 0, 0, 0, 0⟩ (ev % 16) ev (by omega) z (by omega) rfl (by dsimp only; omega)
    have r3 := con_full f c 2 (ev % 16) ev hc (by omega) (by omega)
    have r4 := con_raise_no inh f c 7 (ev % 16) ev rfl
    refine AWP.seq ?_
    refine AWP.regionT tcok hmix [] [2, 3, 4, 6, 24, 25] [3, 4] (os := []) (s' := St.mk [(2, tp (u8 inh)), (3, tp (V.ptr 3 0)), (4, tp (V.ptr 4 0)), (6, tp (vb false)), (24, tp (i64 5)), (25, tp (vb false))] [(3, Blk.mk [u8 f.a0, u8 f.a1, u8 f.a2, u8 f.a3, u8 f.a4, u8 c.a0, u8 c.a1, u8 c.a2, u8 c.a3, u8 c.a4] true 10 none), (4, Blk.mk [u8 lv, i64 un, u8 ev] true 3 none)]) (by kernel_rfl) trivial ?_
    refine AWP.seq ?_
    refine AWP.cond (b := false) (by kernel_rfl) (fun h => by cases h) (fun _ => ?_)
    refine AWP.exit ?_
    refine AWP.seq ?_
    refine AWP.regionT tcok hmix [(2, ⟨some (u8 2), none⟩), (5, ⟨some (u8 (ev % 16)), none⟩), (6, ⟨some (i64 (ev % 16)), none⟩)] [2, 3, 4, 6] [3, 4] (os := [(5 : Int) ≠ (0 : Int), u8 (Int.tmod lv 5) = u8 2, (16 : Int) ≠ (0 : Int), u8 (Int.tmod ev 16) = u8 (ev % 16), i64 (IntKind.wrap IntKind.i64 (ev % 16)) = i64 (ev % 16)]) (s' := St.mk [(2, tp (u8 inh)), (3, tp (V.ptr 3 0)), (4, tp (V.ptr 4 0)), (6, tp (vb false))] [(3, Blk.mk [u8 f.a0, u8 f.a1, u8 f.a2, u8 f.a3, u8 f.a4, u8 c.a0, u8 c.a1, u8 c.a2, u8 c.a3, u8 c.a4] true 10 none), (4, Blk.mk [u8 2, i64 (ev % 16), u8 ev] true 3 none)]) (by kernel_rfl) ⟨(by omega), (in_eq hk), (by omega), (tm_ (by omega)), (wr_i64 (by omega) (by omega)), trivial⟩ ?_
    refine AWP.seq ?_
    refine AWP.regionT tcok hmix [(1, ⟨none, some ⟨ladV f (F5.mk 0 0 0 0 0), [], []⟩⟩), (3, ⟨none, some ⟨V.tup [ladV f (F5.inc (F5.mk 0 0 0 0 0) 2), V.agg true [u8 2, i64 (ev % 16), u8 ev], vb true], [], []⟩⟩)] [2, 3, 4, 6, 9, 10] [3, 4, 9] (os := [Con Tryd.prog 18 [] [V.agg true [u8 f.a0, u8 f.a1, u8 f.a2, u8 f.a3, u8 f.a4, u8 c.a0, u8 c.a1, u8 c.a2, u8 c.a3, u8 c.a4]] [] (V.agg true [u8 f.a0, u8 f.a1, u8 f.a2, u8 f.a3, u8 f.a4, u8 0, u8 0, u8 0, u8 0, u8 0]), Con Tryd.prog 13 [] [V.agg true [u8 f.a0, u8 f.a1, u8 f.a2, u8 f.a3, u8 f.a4, u8 0, u8 0, u8 0, u8 0, u8 0], V.agg true [u8 2, i64 (ev % 16), u8 ev], u8 0] [] (V.tup [V.agg true [u8 f.a0, u8 f.a1, u8 f.a2, u8 f.a3, u8 f.a4, u8 0, u8 0, u8 1, u8 0, u8 0], V.agg true [u8 2, i64 (ev % 16), u8 ev], vb true])]) (s' := St.mk [(2, tp (u8 inh)), (3, tp (V.ptr 3 0)), (4, tp (V.ptr 4 0)), (6, tp (vb false)), (9, tp (V.ptr 9 0)), (10, tp (vb true))] [(3, Blk.mk [u8 f.a0, u8 f.a1, u8 f.a2, u8 f.a3, u8 f.a4, u8 c.a0, u8 c.a1, u8 c.a2, u8 c.a3, u8 c.a4] true 10 none), (4, Blk.mk [u8 2, i64 (ev % 16), u8 ev] true 3 none), (9, Blk.mk [u8 2, i64 (ev % 16), u8 ev] true 3 none)]) (by kernel_rfl) ⟨(con_calm (f) (c)), (r1 ), trivial⟩ ?_
    refine AWP.seq ?_
    refine AWP.regionT tcok hmix [(2, ⟨none, some ⟨V.tup [ladV f c, V.agg true [u8 0, i64 0, u8 0], vb false], [], []⟩⟩)] [2, 3, 4, 6, 9, 10, 13] [3, 4, 9] (os := [Con Tryd.prog 13 [] [V.agg true [u8 f.a0, u8 f.a1, u8 f.a2, u8 f.a3, u8 f.a4, u8 c.a0, u8 c.a1, u8 c.a2, u8 c.a3, u8 c.a4], V.agg true [u8 2, i64 (ev % 16), u8 ev], u8 31] [] (V.tup [V.agg true [u8 f.a0, u8 f.a1, u8 f.a2, u8 f.a3, u8 f.a4, u8 c.a0, u8 c.a1, u8 c.a2, u8 c.a3, u8 c.a4], V.agg true [u8 0, i64 0, u8 0], vb false])]) (s' := St.mk [(2, tp (u8 inh)), (3, tp (V.ptr 3 0)), (4, tp (V.ptr 4 0)), (6, tp (vb false)), (9, tp (V.ptr 9 0)), (10, tp (vb true)), (13, tp (vb false))] [(3, Blk.mk [u8 f.a0, u8 f.a1, u8 f.a2, u8 f.a3, u8 f.a4, u8 c.a0, u8 c.a1, u8 c.a2, u8 c.a3, u8 c.a4] true 10 none), (4, Blk.mk [u8 2, i64 (ev % 16), u8 ev] true 3 none), (9, Blk.mk [u8 2, i64 (ev % 16), u8 ev] true 3 none)]) (by kernel_rfl) ⟨(r3 ), trivial⟩ ?_
    refine AWP.seq ?_
    refine AWP.regionT tcok hmix [] [2, 3, 4, 6, 9, 10, 13, 14] [3, 4, 9] (os := []) (s' := St.mk [(2, tp (u8 inh)), (3, tp (V.ptr 3 0)), (4, tp (V.ptr 4 0)), (6, tp (vb false)), (9, tp (V.ptr 9 0)), (10, tp (vb true)), (13, tp (vb false)), (14, tp (u8 3))] [(3, Blk.mk [u8 f.a0, u8 f.a1, u8 f.a2, u8 f.a3, u8 f.a4, u8 c.a0, u8 c.a1, u8 c.a2, u8 c.a3, u8 c.a4] true 10 none), (4, Blk.mk [u8 2, i64 (ev % 16), u8 ev] true 3 none), (9, Blk.mk [u8 2, i64 (ev % 16), u8 ev] true 3 none)]) (by kernel_rfl) trivial ?_
    refine AWP.seq ?_
    refine AWP.regionT tcok hmix [(1, ⟨none, some ⟨ladV f (F5.mk 0 0 0 0 0), [], []⟩⟩), (4, ⟨none, some ⟨V.tup [ladV f (F5.inc (F5.mk 0 0 0 0 0) 2), V.agg true [u8 2, i64 (ev % 16), u8 ev], vb true], [], []⟩⟩)] [2, 3, 4, 6, 9, 10, 13, 16, 17] [3, 4, 9, 16] (os := [Con Tryd.prog 18 [] [V.agg true [u8 f.a0, u8 f.a1, u8 f.a2, u8 f.a3, u8 f.a4, u8 c.a0, u8 c.a1, u8 c.a2, u8 c.a3, u8 c.a4]] [] (V.agg true [u8 f.a0, u8 f.a1, u8 f.a2, u8 f.a3, u8 f.a4, u8 0, u8 0, u8 0, u8 0, u8 0]), Con Tryd.prog 13 [] [V.agg true [u8 f.a0, u8 f.a1, u8 f.a2, u8 f.a3, u8 f.a4, u8 0, u8 0, u8 0, u8 0, u8 0], V.agg true [u8 2, i64 (ev % 16), u8 ev], u8 3] [] (V.tup [V.agg true [u8 f.a0, u8 f.a1, u8 f.a2, u8 f.a3, u8 f.a4, u8 0, u8 0, u8 1, u8 0, u8 0], V.agg true [u8 2, i64 (ev % 16), u8 ev], vb true])]) (s' := St.mk [(2, tp (u8 inh)), (3, tp (V.ptr 3 0)), (4, tp (V.ptr 4 0)), (6, tp (vb false)), (9, tp (V.ptr 9 0)), (10, tp (vb true)), (13, tp (vb false)), (16, tp (V.ptr 16 0)), (17, tp (vb true))] [(3, Blk.mk [u8 f.a0, u8 f.a1, u8 f.a2, u8 f.a3, u8 f.a4, u8 c.a0, u8 c.a1, u8 c.a2, u8 c.a3, u8 c.a4] true 10 none), (4, Blk.mk [u8 2, i64 (ev % 16), u8 ev] true 3 none), (9, Blk.mk [u8 2, i64 (ev % 16), u8 ev] true 3 none), (16, Blk.mk [u8 2, i64 (ev % 16), u8 ev] true 3 none)]) (by kernel_rfl) ⟨(con_calm (f) (c)), (r2 ), trivial⟩ ?_
    refine AWP.seq ?_
    refine AWP.regionT tcok hmix [] [2, 3, 4, 6, 9, 10, 13, 16, 17, 18] [3, 4, 9, 16, 18] (os := []) (s' := St.mk [(2, tp (u8 inh)), (3, tp (V.ptr 3 0)), (4, tp (V.ptr 4 0)), (6, tp (vb false)), (9, tp (V.ptr 9 0)), (10, tp (vb true)), (13, tp (vb false)), (16, tp (V.ptr 16 0)), (17, tp (vb true)), (18, tp (V.ptr 18 0))] [(3, Blk.mk [u8 f.a0, u8 f.a1, u8 f.a2, u8 f.a3, u8 f.a4, u8 c.a0, u8 c.a1, u8 c.a2, u8 c.a3, u8 c.a4] true 10 none), (4, Blk.mk [u8 2, i64 (ev % 16), u8 ev] true 3 none), (9, Blk.mk [u8 2, i64 (ev % 16), u8 ev] true 3 none), (16, Blk.mk [u8 2, i64 (ev % 16), u8 ev] true 3 none), (18, Blk.mk [u8 2, i64 (ev % 16), u8 ev] true 3 none)]) (by kernel_rfl) trivial ?_
    refine AWP.seq ?_
    refine AWP.regionT tcok hmix [] [2, 3, 4, 6, 9, 10, 13, 16, 17, 18] [3, 4, 9, 16, 18] (os := []) (s' := St.mk [(2, tp (u8 inh)), (3, tp (V.ptr 3 0)), (4, tp (V.ptr 4 0)), (6, tp (vb false)), (9, tp (V.ptr 9 0)), (10, tp (vb true)), (13, tp (vb false)), (16, tp (V.ptr 16 0)), (17, tp (vb true)), (18, tp (V.ptr 18 0))] [(3, Blk.mk [u8 f.a0, u8 f.a1, u8 f.a2, u8 f.a3, u8 f.a4, u8 c.a0, u8 c.a1, u8 c.a2, u8 c.a3, u8 c.a4] true 10 none), (4, Blk.mk [u8 2, i64 (ev % 16), u8 ev] true 3 none), (9, Blk.mk [u8 2, i64 (ev % 16), u8 ev] true 3 none), (16, Blk.mk [u8 2, i64 (ev % 16), u8 ev] true 3 none), (18, Blk.mk [u8 7, i64 (ev % 16), u8 ev] true 3 none)]) (by kernel_rfl) trivial ?_
    refine AWP.seq ?_
    refine AWP.regionT tcok hmix [(3, ⟨none, some ⟨V.tup [ladV f c, V.agg true [u8 0, i64 0, u8 0], vb false], [], []⟩⟩)] [4, 6, 9, 10, 13, 16, 17, 21] [4, 9, 16] (os := [Con Tryd.prog 13 [] [V.agg true [u8 f.a0, u8 f.a1, u8 f.a2, u8 f.a3, u8 f.a4, u8 c.a0, u8 c.a1, u8 c.a2, u8 c.a3, u8 c.a4], V.agg true [u8 7, i64 (ev % 16), u8 ev], u8 inh] [] (V.tup [V.agg true [u8 f.a0, u8 f.a1, u8 f.a2, u8 f.a3, u8 f.a4, u8 c.a0, u8 c.a1, u8 c.a2, u8 c.a3, u8 c.a4], V.agg true [u8 0, i64 0, u8 0], vb false])]) (s' := St.mk [(4, tp (V.ptr 4 0)), (6, tp (vb false)), (9, tp (V.ptr 9 0)), (10, tp (vb true)), (13, tp (vb false)), (16, tp (V.ptr 16 0)), (17, tp (vb true)), (21, tp (vb false))] [(4, Blk.mk [u8 2, i64 (ev % 16), u8 ev] true 3 none), (9, Blk.mk [u8 2, i64 (ev % 16), u8 ev] true 3 none), (16, Blk.mk [u8 2, i64 (ev % 16), u8 ev] true 3 none)]) (by kernel_rfl) ⟨(r4 ), trivial⟩ ?_
    refine AWP.seq ?_
    refine AWP.regionT tcok hmix [] [6] [] (os := []) (s' := St.mk [(6, tp (vb (true && bl true (2 == 2 && (ev % 16 == ev % 16 && (ev == ev && true))) && true && true && bl true (2 == 2 && (ev % 16 == ev % 16 && (ev == ev && true))) && true)))] []) (by kernel_rfl) trivial ?_
    refine AWP.ret ?_
    refine ⟨Or.inr rfl, Eq.trans (b := some ([], vb (true && bl true (2 == 2 && (ev % 16 == ev % 16 && (ev == ev && true))) && true && true && bl true (2 == 2 && (ev % 16 == ev % 16 && (ev == ev && true))) && true))) (by kernel_rfl) ?_⟩
    first | rfl | (simp [bl]; done)
theorem law_rests_3 (inh : Int) (l c : F5) (lv un ev : Int) (hi : 0 ≤ inh ∧ inh < 256) (hl : l.ok) (hc : c.ok) (hlv : 0 ≤ lv ∧ lv < 256) (hev : 0 ≤ ev ∧ ev < 256) (hk : lv.tmod 5 = 3) :
    Con Tryd.prog 6 [] [ladV l c, .agg true [u8 lv, i64 un, u8 ev], u8 inh] [] (vb true) := by
  refine Con.of (C := ⟨Tryd.prog, tc, Tryd.f6.ntmps⟩) [] tcok Tryd.func6 rfl rfl (by kernel_rfl) (by kernel_rfl) ?_
  refine AWP.seq ?_
  refine AWP.regionT tcok hmix [] [2, 3, 4, 6] [3, 4] (os := []) (s' := St.mk [(2, tp (u8 inh)), (3, tp (V.ptr 3 0)), (4, tp (V.ptr 4 0)), (6, tp (vb false))] [(3, Blk.mk [u8 l.a0, u8 l.a1, u8 l.a2, u8 l.a3, u8 l.a4, u8 c.a0, u8 c.a1, u8 c.a2, u8 c.a3, u8 c.a4] true 10 none), (4, Blk.mk [u8 lv, i64 un, u8 ev] true 3 none)]) (by kernel_rfl) trivial ?_
  refine AWP.seq ?_
  refine AWP.seq ?_
  refine AWP.regionT tcok hmix [(0, ⟨none, some ⟨vb true, [], []⟩⟩)] [2, 3, 4, 6, 23] [3, 4] (os := [Con Tryd.prog 11 [] [] [] (vb true)]) (s' := St.mk [(2, tp (u8 inh)), (3, tp (V.ptr 3 0)), (4, tp (V.ptr 4 0)), (6, tp (vb false)), (23, tp (vb false))] [(3, Blk.mk [u8 l.a0, u8 l.a1, u8 l.a2, u8 l.a3, u8 l.a4, u8 c.a0, u8 c.a1, u8 c.a2, u8 c.a3, u8 c.a4] true 10 none), (4, Blk.mk [u8 lv, i64 un, u8 ev] true 3 none)]) (by kernel_rfl) ⟨(con_awake22 ), trivial⟩ ?_
  refine AWP.cond (b := false) (by kernel_rfl) (fun h => by cases h) (fun _ => ?_)
  refine AWP.skip ?_
  refine AWP.seq ?_
  refine AWP.seq ?_
  refine AWP.regionT tcok hmix [] [2, 3, 4, 6, 24] [3, 4] (os := []) (s' := St.mk [(2, tp (u8 inh)), (3, tp (V.ptr 3 0)), (4, tp (V.ptr 4 0)), (6, tp (vb false)), (24, tp (i64 0))] [(3, Blk.mk [u8 l.a0, u8 l.a1, u8 l.a2, u8 l.a3, u8 l.a4, u8 c.a0, u8 c.a1, u8 c.a2, u8 c.a3, u8 c.a4] true 10 none), (4, Blk.mk [u8 lv, i64 un, u8 ev] true 3 none)]) (by kernel_rfl) trivial ?_
  refine AWP.block ?_
  refine AWP.loopI [2, 3, 4, 6, 24] [3, 4] (fun N s' => ∃ (i : Int) (f : F5), s' = St.mk [(2, T.plain (u8 inh)), (3, T.plain (V.ptr 3 0)), (4, T.plain (V.ptr 4 0)), (6, T.plain (vb false)), (24, T.plain (i64 i))] [(3, Blk.mk [u8 f.a0, u8 f.a1, u8 f.a2, u8 f.a3, u8 f.a4, u8 c.a0, u8 c.a1, u8 c.a2, u8 c.a3, u8 c.a4] true 10 none), (4, Blk.mk [u8 lv, i64 un, u8 ev] true 3 none)] ∧ f.ok ∧ (0 ≤ i ∧ i ≤ 5) ∧ ((0 < i → 1 ≤ f.a0) ∧ (1 < i → 1 ≤ f.a1) ∧ (2 < i → 1 ≤ f.a2) ∧ (3 < i → 1 ≤ f.a3) ∧ (4 < i → 1 ≤ f.a4)) ∧ (N : Int) = 5 - i) 5 (s0 := St.mk [(2, T.plain (u8 inh)), (3, T.plain (V.ptr 3 0)), (4, T.plain (V.ptr 4 0)), (6, T.plain (vb false)), (24, T.plain (i64 0))] [(3, Blk.mk [u8 l.a0, u8 l.a1, u8 l.a2, u8 l.a3, u8 l.a4, u8 c.a0, u8 c.a1, u8 c.a2, u8 c.a3, u8 c.a4] true 10 none), (4, Blk.mk [u8 lv, i64 un, u8 ev] true 3 none)]) (by kernel_rfl) ?_ ?_
  · exact ⟨0, l, rfl, hl, by omega, by omega, by omega⟩
  rintro N s' ⟨i, f, rfl, hf, hi5, hg, hN⟩
  have hf' := hf
  obtain ⟨f1, f2, f3, f4, f5, f6, f7, f8, f9, f0⟩ := hf
  rcases (by omega : i = 0 ∨ i = 1 ∨ i = 2 ∨ i = 3 ∨ i = 4 ∨ i = 5) with rfl | rfl | rfl | rfl | rfl | rfl
  · refine AWP.seq ?_
    refine AWP.regionT tcok hmix [] [2, 3, 4, 6, 24, 25] [3, 4] (os := []) (s' := St.mk [(2, tp (u8 inh)), (3, tp (V.ptr 3 0)), (4, tp (V.ptr 4 0)), (6, tp (vb false)), (24, tp (i64 0)), (25, tp (vb true))] [(3, Blk.mk [u8 f.a0, u8 f.a1, u8 f.a2, u8 f.a3, u8 f.a4, u8 c.a0, u8 c.a1, u8 c.a2, u8 c.a3, u8 c.a4] true 10 none), (4, Blk.mk [u8 lv, i64 un, u8 ev] true 3 none)]) (by kernel_rfl) trivial ?_
    refine AWP.seq ?_
    refine AWP.cond (b := true) (by kernel_rfl) (fun _ => ?_) (fun h => by cases h)
    refine AWP.skip ?_
    refine AWP.seq ?_
    refine AWP.block ?_
    refine AWP.seq ?_
    refine AWP.regionT tcok hmix [] [2, 3, 4, 6, 7, 24] [3, 4] (os := []) (s' := St.mk [(2, tp (u8 inh)), (3, tp (V.ptr 3 0)), (4, tp (V.ptr 4 0)), (6, tp (vb false)), (7, tp (i64 0)), (24, tp (i64 0))] [(3, Blk.mk [u8 f.a0, u8 f.a1, u8 f.a2, u8 f.a3, u8 f.a4, u8 c.a0, u8 c.a1, u8 c.a2, u8 c.a3, u8 c.a4] true 10 none), (4, Blk.mk [u8 lv, i64 un, u8 ev] true 3 none)]) (by kernel_rfl) trivial ?_
    refine AWP.region tcok hmix [] (os := []) (sf := St.mk [(2, tp (u8 inh)), (3, tp (V.ptr 3 0)), (4, tp (V.ptr 4 0)), (6, tp (vb false)), (7, tp (i64 0)), (24, tp (i64 0)), (27, tp (i64 0)), (28, tp (i64 0)), (29, tp (V.ptr 3 0)), (30, tp (V.ptr 3 0)), (31, tp (u8 f.a0)), (32, tp (u8 (imax f.a0 1))), (33, tp (V.ptr 3 0)), (34, tp (V.ptr 3 0))] [(3, Blk.mk [u8 (imax f.a0 1), u8 f.a1, u8 f.a2, u8 f.a3, u8 f.a4, u8 c.a0, u8 c.a1, u8 c.a2, u8 c.a3, u8 c.a4] true 10 none), (4, Blk.mk [u8 lv, i64 un, u8 ev] true 3 none)]) (by kernel_rfl) trivial ?_
    refine AWP.keep' [2, 3, 4, 6, 24] [3, 4] (sf := St.mk [(2, tp (u8 inh)), (3, tp (V.ptr 3 0)), (4, tp (V.ptr 4 0)), (6, tp (vb false)), (24, tp (i64 0))] [(3, Blk.mk [u8 (imax f.a0 1), u8 f.a1, u8 f.a2, u8 f.a3, u8 f.a4, u8 c.a0, u8 c.a1, u8 c.a2, u8 c.a3, u8 c.a4] true 10 none), (4, Blk.mk [u8 lv, i64 un, u8 ev] true 3 none)]) (by kernel_rfl) ?_
    refine AWP.region tcok hmix [] (os := []) (sf := St.mk [(2, tp (u8 inh)), (3, tp (V.ptr 3 0)), (4, tp (V.ptr 4 0)), (6, tp (vb false)), (24, tp (i64 1)), (35, tp (i64 1))] [(3, Blk.mk [u8 (imax f.a0 1), u8 f.a1, u8 f.a2, u8 f.a3, u8 f.a4, u8 c.a0, u8 c.a1, u8 c.a2, u8 c.a3, u8 c.a4] true 10 none), (4, Blk.mk [u8 lv, i64 un, u8 ev] true 3 none)]) (by kernel_rfl) trivial ?_
    refine ⟨St.mk [(2, tp (u8 inh)), (3, tp (V.ptr 3 0)), (4, tp (V.ptr 4 0)), (6, tp (vb false)), (24, tp (i64 1))] [(3, Blk.mk [u8 (imax f.a0 1), u8 f.a1, u8 f.a2, u8 f.a3, u8 f.a4, u8 c.a0, u8 c.a1, u8 c.a2, u8 c.a3, u8 c.a4] true 10 none), (4, Blk.mk [u8 lv, i64 un, u8 ev] true 3 none)], by kernel_rfl, ?_⟩
    (exact ⟨4, (by omega), 1, ⟨imax f.a0 1, f.a1, f.a2, f.a3, f.a4⟩, rfl, ok_mk (by simp only [imax]; omega), (by omega), (by simp only [imax]; omega), (by omega)⟩)
  · refine AWP.seq ?_
    refine AWP.regionT tcok hmix [] [2, 3, 4, 6, 24, 25] [3, 4] (os := []) (s' := St.mk [(2, tp (u8 inh)), (3, tp (V.ptr 3 0)), (4, tp (V.ptr 4 0)), (6, tp (vb false)), (24, tp (i64 1)), (25, tp (vb true))] [(3, Blk.mk [u8 f.a0, u8 f.a1, u8 f.a2, u8 f.a3, u8 f.a4, u8 c.a0, u8 c.a1, u8 c.a2, u8 c.a3, u8 c.a4] true 10 none), (4, Blk.mk [u8 lv, i64 un, u8 ev] true 3 none)]) (by kernel_rfl) trivial ?_
    refine AWP.seq ?_
    refine AWP.cond (b := true) (by kernel_rfl) (fun _ => ?_) (fun h => by cases h)
    refine AWP.skip ?_
    refine AWP.seq ?_
    refine AWP.block ?_
    refine AWP.seq ?_
    refine AWP.regionT tcok hmix [] [2, 3, 4, 6, 7, 24] [3, 4] (os := []) (s' := St.mk [(2, tp (u8 inh)), (3, tp (V.ptr 3 0)), (4, tp (V.ptr 4 0)), (6, tp (vb false)), (7, tp (i64 1)), (24, tp (i64 1))] [(3, Blk.mk [u8 f.a0, u8 f.a1, u8 f.a2, u8 f.a3, u8 f.a4, u8 c.a0, u8 c.a1, u8 c.a2, u8 c.a3, u8 c.a4] true 10 none), (4, Blk.mk [u8 lv, i64 un, u8 ev] true 3 none)]) (by kernel_rfl) trivial ?_
    refine AWP.region tcok hmix [] (os := []) (sf := St.mk [(2, tp (u8 inh)), (3, tp (V.ptr 3 0)), (4, tp (V.ptr 4 0)), (6, tp (vb false)), (7, tp (i64 1)), (24, tp (i64 1)), (27, tp (i64 1)), (28, tp (i64 1)), (29, tp (V.ptr 3 0)), (30, tp (V.ptr 3 1)), (31, tp (u8 f.a1)), (32, tp (u8 (imax f.a1 1))), (33, tp (V.ptr 3 0)), (34, tp (V.ptr 3 1))] [(3, Blk.mk [u8 f.a0, u8 (imax f.a1 1), u8 f.a2, u8 f.a3, u8 f.a4, u8 c.a0, u8 c.a1, u8 c.a2, u8 c.a3, u8 c.a4] true 10 none), (4, Blk.mk [u8 lv, i64 un, u8 ev] true 3 none)]) (by kernel_rfl) trivial ?_
    refine AWP.keep' [2, 3, 4, 6, 24] [3, 4] (sf := St.mk [(2, tp (u8 inh)), (3, tp (V.ptr 3 0)), (4, tp (V.ptr 4 0)), (6, tp (vb false)), (24, tp (i64 1))] [(3, Blk.mk [u8 f.a0, u8 (imax f.a1 1), u8 f.a2, u8 f.a3, u8 f.a4, u8 c.a0, u8 c.a1, u8 c.a2, u8 c.a3, u8 c.a4] true 10 none), (4, Blk.mk [u8 lv, i64 un, u8 ev] true 3 none)]) (by kernel_rfl) ?_
    refine AWP.region tcok hmix [] (os := []) (sf := St.mk [(2, tp (u8 inh)), (3, tp (V.ptr 3 0)), (4, tp (V.ptr 4 0)), (6, tp (vb false)), (24, tp (i64 2)), (35, tp (i64 2))] [(3, Blk.mk [u8 f.a0, u8 (imax f.a1 1), u8 f.a2, u8 f.a3, u8 f.a4, u8 c.a0, u8 c.a1, u8 c.a2, u8 c.a3, u8 c.a4] true 10 none), (4, Blk.mk [u8 lv, i64 un, u8 ev] true 3 none)]) (by kernel_rfl) trivial ?_
    refine ⟨St.mk [(2, tp (u8 inh)), (3, tp (V.ptr 3 0)), (4, tp (V.ptr 4 0)), (6, tp (vb false)), (24, tp (i64 2))] [(3, Blk.mk [u8 f.a0, u8 (imax f.a1 1), u8 f.a2, u8 f.a3, u8 f.a4, u8 c.a0, u8 c.a1, u8 c.a2, u8 c.a3, u8 c.a4] true 10 none), (4, Blk.mk [u8 lv, i64 un, u8 ev] true 3 none)], by kernel_rfl, ?_⟩
    (exact ⟨3, (by omega), 2, ⟨f.a0, imax f.a1 1, f.a2, f.a3, f.a4⟩, rfl, ok_mk (by simp only [imax]; omega), (by omega), (by simp only [imax]; omega), (by omega)⟩)
  · refine AWP.seq ?_
    refine AWP.regionT tcok hmix [] [2, 3, 4, 6, 24, 25] [3, 4] (os := []) (s' := St.mk [(2, tp (u8 inh)), (3, tp (V.ptr 3 0)), (4, tp (V.ptr 4 0)), (6, tp (vb false)), (24, tp (i64 2)), (25, tp (vb true))] [(3, Blk.mk [u8 f.a0, u8 f.a1, u8 f.a2, u8 f.a3, u8 f.a4, u8 c.a0, u8 c.a1, u8 c.a2, u8 c.a3, u8 c.a4] true 10 none), (4, Blk.mk [u8 lv, i64 un, u8 ev] true 3 none)]) (by kernel_rfl) trivial ?_
    refine AWP.seq ?_
    refine AWP.cond (b := true) (by kernel_rfl) (fun _ => ?_) (fun h => by cases h)
    refine AWP.skip ?_
    refine AWP.seq ?_
    refine AWP.block ?_
    refine AWP.seq ?_
    refine AWP.regionT tcok hmix [] [2, 3, 4, 6, 7, 24] [3, 4] (os := []) (s' := St.mk [(2, tp (u8 inh)), (3, tp (V.ptr 3 0)), (4, tp (V.ptr 4 0)), (6, tp (vb false)), (7, tp (i64 2)), (24, tp (i64 2))] [(3, Blk.mk [u8 f.a0, u8 f.a1, u8 f.a2, u8 f.a3, u8 f.a4, u8 c.a0, u8 c.a1, u8 c.a2, u8 c.a3, u8 c.a4] true 10 none), (4, Blk.mk [u8 lv, i64 un, u8 ev] true 3 none)]) (by kernel_rfl) trivial ?_
    refine AWP.region tcok hmix [] (os := []) (sf := St.mk [(2, tp (u8 inh)), (3, tp (V.ptr 3 0)), (4, tp (V.ptr 4 0)), (6, tp (vb false)), (7, tp (i64 2)), (24, tp (i64 2)), (27, tp (i64 2)), (28, tp (i64 2)), (29, tp (V.ptr 3 0)), (30, tp (V.ptr 3 2)), (31, tp (u8 f.a2)), (32, tp (u8 (imax f.a2 1))), (33, tp (V.ptr 3 0)), (34, tp (V.ptr 3 2))] [(3, Blk.mk [u8 f.a0, u8 f.a1, u8 (imax f.a2 1), u8 f.a3, u8 f.a4, u8 c.a0, u8 c.a1, u8 c.a2, u8 c.a3, u8 c.a4] true 10 none), (4, Blk.mk [u8 lv, i64 un, u8 ev] true 3 none)]) (by kernel_rfl) trivial ?_
    refine AWP.keep' [2, 3, 4, 6, 24] [3, 4] (sf := St.mk [(2, tp (u8 inh)), (3, tp (V.ptr 3 0)), (4, tp (V.ptr 4 0)), (6, tp (vb false)), (24, tp (i64 2))] [(3, Blk.mk [u8 f.a0, u8 f.a1, u8 (imax f.a2 1), u8 f.a3, u8 f.a4, u8 c.a0, u8 c.a1, u8 c.a2, u8 c.a3, u8 c.a4] true 10 none), (4, Blk.mk [u8 lv, i64 un, u8 ev] true 3 none)]) (by kernel_rfl) ?_
    refine AWP.region tcok hmix [] (os := []) (sf := St.mk [(2, tp (u8 inh)), (3, tp (V.ptr 3 0)), (4, tp (V.ptr 4 0)), (6, tp (vb false)), (24, tp (i64 3)), (35, tp (i64 3))] [(3, Blk.mk [u8 f.a0, u8 f.a1, u8 (imax f.a2 1), u8 f.a3, u8 f.a4, u8 c.a0, u8 c.a1, u8 c.a2, u8 c.a3, u8 c.a4] true 10 none), (4, Blk.mk [u8 lv, i64 un, u8 ev] true 3 none)]) (by kernel_rfl) trivial ?_
    refine ⟨St.mk [(2, tp (u8 inh)), (3, tp (V.ptr 3 0)), (4, tp (V.ptr 4 0)), (6, tp (vb false)), (24, tp (i64 3))] [(3, Blk.mk [u8 f.a0, u8 f.a1, u8 (imax f.a2 1), u8 f.a3, u8 f.a4, u8 c.a0, u8 c.a1, u8 c.a2, u8 c.a3, u8 c.a4] true 10 none), (4, Blk.mk [u8 lv, i64 un, u8 ev] true 3 none)], by kernel_rfl, ?_⟩
    (exact ⟨2, (by omega), 3, ⟨f.a0, f.a1, imax f.a2 1, f.a3, f.a4⟩, rfl, ok_mk (by simp only [imax]; omega), (by omega), (by simp only [imax]; omega), (by omega)⟩)
  · refine AWP.seq ?_
    refine AWP.regionT tcok hmix [] [2, 3, 4, 6, 24, 25] [3, 4] (os := []) (s' := St.mk [(2, tp (u8 inh)), (3, tp (V.ptr 3 0)), (4, tp (V.ptr 4 0)), (6, tp (vb false)), (24, tp (i64 3)), (25, tp (vb true))] [(3, Blk.mk [u8 f.a0, u8 f.a1, u8 f.a2, u8 f.a3, u8 f.a4, u8 c.a0, u8 c.a1, u8 c.a2, u8 c.a3, u8 c.a4] true 10 none), (4, Blk.mk [u8 lv, i64 un, u8 ev] true 3 none)]) (by kernel_rfl) trivial ?_
    refine AWP.seq ?_
    refine AWP.cond (b := true) (by kernel_rfl) (fun _ => ?_) (fun h => by cases h)
    refine AWP.skip ?_
    refine AWP.seq ?_
    refine AWP.block ?_
    refine AWP.seq ?_
    refine AWP.regionT tcok hmix [] [2, 3, 4, 6, 7, 24] [3, 4] (os := []) (s' := St.mk [(2, tp (u8 inh)), (3, tp (V.ptr 3 0)), (4, tp (V.ptr 4 0)), (6, tp (vb false)), (7, tp (i64 3)), (24, tp (i64 3))] [(3, Blk.mk [u8 f.a0, u8 f.a1, u8 f.a2, u8 f.a3, u8 f.a4, u8 c.a0, u8 c.a1, u8 c.a2, u8 c.a3, u8 c.a4] true 10 none), (4, Blk.mk [u8 lv, i64 un, u8 ev] true 3 none)]) (by kernel_rfl) trivial ?_
    refine AWP.region tcok hmix [] (os := []) (sf := St.mk [(2, tp (u8 inh)), (3, tp (V.ptr 3 0)), (4, tp (V.ptr 4 0)), (6, tp (vb false)), (7, tp (i64 3)), (24, tp (i64 3)), (27, tp (i64 3)), (28, tp (i64 3)), (29, tp (V.ptr 3 0)), (30, tp (V.ptr 3 3)), (31, tp (u8 f.a3)), (32, tp (u8 (imax f.a3 1))), (33, tp (V.ptr 3 0)), (34, tp (V.ptr 3 3))] [(3, Blk.mk [u8 f.a0, u8 f.a1, u8 f.a2, u8 (imax f.a3 1), u8 f.a4, u8 c.a0, u8 c.a1, u8 c.a2, u8 c.a3, u8 c.a4] true 10 none), (4, Blk.mk [u8 lv, i64 un, u8 ev] true 3 none)]) (by kernel_rfl) trivial ?_
    refine AWP.keep' [2, 3, 4, 6, 24] [3, 4] (sf := St.mk [(2, tp (u8 inh)), (3, tp (V.ptr 3 0)), (4, tp (V.ptr 4 0)), (6, tp (vb false)), (24, tp (i64 3))] [(3, Blk.mk [u8 f.a0, u8 f.a1, u8 f.a2, u8 (imax f.a3 1), u8 f.a4, u8 c.a0, u8 c.a1, u8 c.a2, u8 c.a3, u8 c.a4] true 10 none), (4, Blk.mk [u8 lv, i64 un, u8 ev] true 3 none)]) (by kernel_rfl) ?_
    refine AWP.region tcok hmix [] (os := []) (sf := St.mk [(2, tp (u8 inh)), (3, tp (V.ptr 3 0)), (4, tp (V.ptr 4 0)), (6, tp (vb false)), (24, tp (i64 4)), (35, tp (i64 4))] [(3, Blk.mk [u8 f.a0, u8 f.a1, u8 f.a2, u8 (imax f.a3 1), u8 f.a4, u8 c.a0, u8 c.a1, u8 c.a2, u8 c.a3, u8 c.a4] true 10 none), (4, Blk.mk [u8 lv, i64 un, u8 ev] true 3 none)]) (by kernel_rfl) trivial ?_
    refine ⟨St.mk [(2, tp (u8 inh)), (3, tp (V.ptr 3 0)), (4, tp (V.ptr 4 0)), (6, tp (vb false)), (24, tp (i64 4))] [(3, Blk.mk [u8 f.a0, u8 f.a1, u8 f.a2, u8 (imax f.a3 1), u8 f.a4, u8 c.a0, u8 c.a1, u8 c.a2, u8 c.a3, u8 c.a4] true 10 none), (4, Blk.mk [u8 lv, i64 un, u8 ev] true 3 none)], by kernel_rfl, ?_⟩
    (exact ⟨1, (by omega), 4, ⟨f.a0, f.a1, f.a2, imax f.a3 1, f.a4⟩, rfl, ok_mk (by simp only [imax]; omega), (by omega), (by simp only [imax]; omega), (by omega)⟩)
  · refine AWP.seq ?_
    refine AWP.regionT tcok hmix [] [2, 3, 4, 6, 24, 25] [3, 4] (os := []) (s' := St.mk [(2, tp (u8 inh)), (3, tp (V.ptr 3 0)), (4, tp (V.ptr 4 0)), (6, tp (vb false)), (24, tp (i64 4)), (25, tp (vb true))] [(3, Blk.mk [u8 f.a0, u8 f.a1, u8 f.a2, u8 f.a3, u8 f.a4, u8 c.a0, u8 c.a1, u8 c.a2, u8 c.a3, u8 c.a4] true 10 none), (4, Blk.mk [u8 lv, i64 un, u8 ev] true 3 none)]) (by kernel_rfl) trivial ?_
    refine AWP.seq ?_
    refine AWP.cond (b := true) (by kernel_rfl) (fun _ => ?_) (fun h => by cases h)
    refine AWP.skip ?_
    refine AWP.seq ?_
    refine AWP.block ?_
    refine AWP.seq ?_
    refine AWP.regionT tcok hmix [] [2, 3, 4, 6, 7, 24] [3, 4] (os := []) (s' := St.mk [(2, tp (u8 inh)), (3, tp (V.ptr 3 0)), (4, tp (V.ptr 4 0)), (6, tp (vb false)), (7, tp (i64 4)), (24, tp (i64 4))] [(3, Blk.mk [u8 f.a0, u8 f.a1, u8 f.a2, u8 f.a3, u8 f.a4, u8 c.a0, u8 c.a1, u8 c.a2, u8 c.a3, u8 c.a4] true 10 none), (4, Blk.mk [u8 lv, i64 un, u8 ev] true 3 none)]) (by kernel_rfl) trivial ?_
    refine AWP.region tcok hmix [] (os := []) (sf := St.mk [(2, tp (u8 inh)), (3, tp (V.ptr 3 0)), (4, tp (V.ptr 4 0)), (6, tp (vb false)), (7, tp (i64 4)), (24, tp (i64 4)), (27, tp (i64 4)), (28, tp (i64 4)), (29, tp (V.ptr 3 0)), (30, tp (V.ptr 3 4)), (31, tp (u8 f.a4)), (32, tp (u8 (imax f.a4 1))), (33, tp (V.ptr 3 0)), (34, tp (V.ptr 3 4))] [(3, Blk.mk [u8 f.a0, u8 f.a1, u8 f.a2, u8 f.a3, u8 (imax f.a4 1), u8 c.a0, u8 c.a1, u8 c.a2, u8 c.a3, u8 c.a4] true 10 none), (4, Blk.mk [u8 lv, i64 un, u8 ev] true 3 none)]) (by kernel_rfl) trivial ?_
    refine AWP.keep' [2, 3, 4, 6, 24] [3, 4] (sf := St.mk [(2, tp (u8 inh)), (3, tp (V.ptr 3 0)), (4, tp (V.ptr 4 0)), (6, tp (vb false)), (24, tp (i64 4))] [(3, Blk.mk [u8 f.a0, u8 f.a1, u8 f.a2, u8 f.a3, u8 (imax f.a4 1), u8 c.a0, u8 c.a1, u8 c.a2, u8 c.a3, u8 c.a4] true 10 none), (4, Blk.mk [u8 lv, i64 un, u8 ev] true 3 none)]) (by kernel_rfl) ?_
    refine AWP.region tcok hmix [] (os := []) (sf := St.mk [(2, tp (u8 inh)), (3, tp (V.ptr 3 0)), (4, tp (V.ptr 4 0)), (6, tp (vb false)), (24, tp (i64 5)), (35, tp (i64 5))] [(3, Blk.mk [u8 f.a0, u8 f.a1, u8 f.a2, u8 f.a3, u8 (imax f.a4 1), u8 c.a0, u8 c.a1, u8 c.a2, u8 c.a3, u8 c.a4] true 10 none), (4, Blk.mk [u8 lv, i64 un, u8 ev] true 3 none)]) (by kernel_rfl) trivial ?_
    refine ⟨St.mk [(2, tp (u8 inh)), (3, tp (V.ptr 3 0)), (4, tp (V.ptr 4 0)), (6, tp (vb false)), (24, tp (i64 5))] [(3, Blk.mk [u8 f.a0, u8 f.a1, u8 f.a2, u8 f.a3, u8 (imax f.a4 1), u8 c.a0, u8 c.a1, u8 c.a2, u8 c.a3, u8 c.a4] true 10 none), (4, Blk.mk [u8 lv, i64 un, u8 ev] true 3 none)], by kernel_rfl, ?_⟩
    (exact ⟨0, (by omega), 5, ⟨f.a0, f.a1, f.a2, f.a3, imax f.a4 1⟩, rfl, ok_mk (by simp only [imax]; omega), (by omega), (by simp only [imax]; omega), (by omega)⟩)
  · have z : (F5.mk 0 0 0 0 0).ok := ok_mk (by omega)
    have r1 := con_free_3 0 f ⟨0, 0, 0, 0, 0⟩ (ev % 16) ev (by omega) z (by omega) rfl (by dsimp only; omega)
    have r2 := con_free_3 7 f ⟨0, 0, 0, 0, 0⟩ (ev % 16) ev (by omega) z (by omega) rfl (by dsimp only; omega)
    have r3 := con_full f c 3 (ev % 16) ev hc (by omega) (by omega)
    have r4 := con_raise_no inh f c 8 (ev % 16) ev rfl
    refine AWP.seq ?_
    refine AWP.regionT tcok hmix [] [2, 3, 4, 6, 24, 25] [3, 4] (os := []) (s' := St.mk [(2, tp (u8 inh)), (3, tp (V.ptr 3 0)), (4, tp (V.ptr 4 0)), (6, tp (vb false)), (24, tp (i64 5)), (25, tp (vb false))] [(3, Blk.mk [u8 f.a0, u8 f.a1, u8 f.a2, u8 f.a3, u8 f.a4, u8 c.a0, u8 c.a1, u8 c.a2, u8 c.a3, u8 c.a4] true 10 none), (4, Blk.mk [u8 lv, i64 un, u8 ev] true 3 none)]) (by kernel_rfl) trivial ?_
    refine AWP.seq ?_
    refine AWP.cond (b := false) (by kernel_rfl) (fun h => by cases h) (fun _ => ?_)
    refine AWP.exit ?_
    refine AWP.seq ?_
    refine AWP.regionT tcok hmix [(2, ⟨some (u8 3), none⟩), (5, ⟨some (u8 (ev % 16)), none⟩), (6, ⟨some (i64 (ev % 16)), none⟩)] [2, 3, 4, 6] [3, 4] (os := [(5 : Int) ≠ (0 : Int), u8 (Int.tmod lv 5) = u8 3, (16 : Int) ≠ (0 : Int), u8 (Int.tmod ev 16) = u8 (ev % 16), i64 (IntKind.wrap IntKind.i64 (ev % 16)) = i64 (ev % 16)]) (s' := St.mk [(2, tp (u8 inh)), (3, tp (V.ptr 3 0)), (4, tp (V.ptr 4 0)), (6, tp (vb false))] [(3, Blk.mk [u8 f.a0, u8 f.a1, u8 f.a2, u8 f.a3, u8 f.a4, u8 c.a0, u8 c.a1, u8 c.a2, u8 c.a3, u8 c.a4] true 10 none), (4, Blk.mk [u8 3, i64 (ev % 16), u8 ev] true 3 none)]) (by kernel_rfl) ⟨(by omega), (in_eq hk), (by omega), (tm_ (by omega)), (wr_i64 (by omega) (by omega)), trivial⟩ ?_
    refine AWP.seq ?_
    refine AWP.regionT tcok hmix [(1, ⟨none, some ⟨ladV f (F5.mk 0 0 0 0 0), [], []⟩⟩), (3, ⟨none, some ⟨V.tup [ladV f (F5.inc (F5.mk 0 0 0 0 0) 3), V.agg true [u8 3, i64 (ev % 16), u8 ev], vb true], [], []⟩⟩)] [2, 3, 4, 6, 9, 10] [3, 4, 9] (os := [Con Tryd.prog 18 [] [V.agg true [u8 f.a0, u8 f.a1, u8 f.a2, u8 f.a3, u8 f.a4, u8 c.a0, u8 c.a1, u8 c.a2, u8 c.a3, u8 c.a4]] [] (V.agg true [u8 f.a0, u8 f.a1, u8 f.a2, u8 f.a3, u8 f.a4, u8 0, u8 0, u8 0, u8 0, u8 0]), Con Tryd.prog 13 [] [V.agg true [u8 f.a0, u8 f.a1, u8 f.a2, u8 f.a3, u8 f.a4, u8 0, u8 0, u8 0, u8 0, u8 0], V.agg true [u8 3, i64 (ev % 16), u8 ev], u8 0] [] (V.tup [V.agg true [u8 f.a0, u8 f.a1, u8 f.a2, u8 f.a3, u8 f.a4, u8 0, u8 0, u8 0, u8 1, u8 0], V.agg true [u8 3, i64 (ev % 16), u8 ev], vb true])]) (s' := St.mk [(2, tp (u8 inh)), (3, tp (V.ptr 3 0)), (4, tp (V.ptr 4 0)), (6, tp (vb false)), (9, tp (V.ptr 9 0)), (10, tp (vb true))] [(3, Blk.mk [u8 f.a0, u8 f.a1, u8 f.a2, u8 f.a3, u8 f.a4, u8 c.a0, u8 c.a1, u8 c.a2, u8 c.a3, u8 c.a4] true 10 none), (4, Blk.mk [u8 3, i64 (ev % 16), u8 ev] true 3 none), (9, Blk.mk [u8 3, i64 (ev % 16), u8 ev] true 3 none)]) (by kernel_rfl) ⟨(con_calm (f) (c)), (r1 ), trivial⟩ ?_
    refine AWP.seq ?_
    refine AWP.regionT tcok hmix [(2, ⟨none, some ⟨V.tup [ladV f c, V.agg true [u8 0, i64 0, u8 0], vb false], [], []⟩⟩)] [2, 3, 4, 6, 9, 10, 13] [3, 4, 9] (os := [Con Tryd.prog 13 [] [V.agg true [u8 f.a0, u8 f.a1, u8 f.a2, u8 f.a3, u8 f.a4, u8 c.a0, u8 c.a1, u8 c.a2, u8 c.a3, u8 c.a4], V.agg true [u8 3, i64 (ev % 16), u8 ev], u8 31] [] (V.tup [V.agg true [u8 f.a0, u8 f.a1, u8 f.a2, u8 f.a3, u8 f.a4, u8 c.a0, u8 c.a1, u8 c.a2, u8 c.a3, u8 c.a4], V.agg true [u8 0, i64 0, u8 0], vb false])]) (s' := St.mk [(2, tp (u8 inh)), (3, tp (V.ptr 3 0)), (4, tp (V.ptr 4 0)), (6, tp (vb false)), (9, tp (V.ptr 9 0)), (10, tp (vb true)), (13, tp (vb false))] [(3, Blk.mk [u8 f.a0, u8 f.a1, u8 f.a2, u8 f.a3, u8 f.a4, u8 c.a0, u8 c.a1, u8 c.a2, u8 c.a3, u8 c.a4] true 10 none), (4, Blk.mk [u8 3, i64 (ev % 16), u8 ev] true 3 none), (9, Blk.mk [u8 3, i64 (ev % 16), u8 ev] true 3 none)]) (by kernel_rfl) ⟨(r3 ), trivial⟩ ?_
    refine AWP.seq ?_
    refine AWP.regionT tcok hmix [] [2, 3, 4, 6, 9, 10, 13, 14] [3, 4, 9] (os := []) (s' := St.mk [(2, tp (u8 inh)), (3, tp (V.ptr 3 0)), (4, tp (V.ptr 4 0)), (6, tp (vb false)), (9, tp (V.ptr 9 0)), (10, tp (vb true)), (13, tp (vb false)), (14, tp (u8 7))] [(3, Blk.mk [u8 f.a0, u8 f.a1, u8 f.a2, u8 f.a3, u8 f.a4, u8 c.a0, u8 c.a1, u8 c.a2, u8 c.a3, u8 c.a4] true 10 none), (4, Blk.mk [u8 3, i64 (ev % 16), u8 ev] true 3 none), (9, Blk.mk [u8 3, i64 (ev % 16), u8 ev] true 3 none)]) (by kernel_rfl) trivial ?_
    refine AWP.seq ?_
    refine AWP.regionT tcok hmix [(1, ⟨none, some ⟨ladV f (F5.mk 0 0 0 0 0), [], []⟩⟩), (4, ⟨none, some ⟨V.tup [ladV f (F5.inc (F5.mk 0 0 0 0 0) 3), V.agg true [u8 3, i64 (ev % 16), u8 ev], vb true], [], []⟩⟩)] [2, 3, 4, 6, 9, 10, 13, 16, 17] [3, 4, 9, 16] (os := [Con Tryd.prog 18 [] [V.agg true [u8 f.a0, u8 f.a1, u8 f.a2, u8 f.a3, u8 f.a4, u8 c.a0, u8 c.a1, u8 c.a2, u8 c.a3, u8 c.a4]] [] (V.agg true [u8 f.a0, u8 f.a1, u8 f.a2, u8 f.a3, u8 f.a4, u8 0, u8 0, u8 0, u8 0, u8 0]), Con Tryd.prog 13 [] [V.agg true [u8 f.a0, u8 f.a1, u8 f.a2, u8 f.a3, u8 f.a4, u8 0, u8 0, u8 0, u8 0, u8 0], V.agg true [u8 3, i64 (ev % 16), u8 ev], u8 7] [] (V.tup [V.agg true [u8 f.a0, u8 f.a1, u8 f.a2, u8 f.a3, u8 f.a4, u8 0, u8 0, u8 0, u8 1, u8 0], V.agg true [u8 3, i64 (ev % 16), u8 ev], vb true])]) (s' := St.mk [(2, tp (u8 inh)), (3, tp (V.ptr 3 0)), (4, tp (V.ptr 4 0)), (6, tp (vb false)), (9, tp (V.ptr 9 0)), (10, tp (vb true)), (13, tp (vb false)), (16, tp (V.ptr 16 0)), (17, tp (vb true))] [(3, Blk.mk [u8 f.a0, u8 f.a1, u8 f.a2, u8 f.a3, u8 f.a4, u8 c.a0, u8 c.a1, u8 c.a2, u8 c.a3, u8 c.a4] true 10 none), (4, Blk.mk [u8 3, i64 (ev % 16), u8 ev] true 3 none), (9, Blk.mk [u8 3, i64 (ev % 16), u8 ev] true 3 none), (16, Blk.mk [u8 3, i64 (ev % 16), u8 ev] true 3 none)]) (by kernel_rfl) ⟨(con_calm (f) (c)), (r2 ), trivial⟩ ?_
    refine AWP.seq ?_
    refine AWP.regionT tcok hmix [] [2, 3, 4, 6, 9, 10, 13, 16, 17, 18] [3, 4, 9, 16, 18] (os := []) (s' := St.mk [(2, tp (u8 inh)), (3, tp (V.ptr 3 0)), (4, tp (V.ptr 4 0)), (6, tp (vb false)), (9, tp (V.ptr 9 0)), (10, tp (vb true)), (13, tp (vb false)), (16, tp (V.ptr 16 0)), (17, tp (vb true)), (18, tp (V.ptr 18 0))] [(3, Blk.mk [u8 f.a0, u8 f.a1, u8 f.a2, u8 f.a3, u8 f.a4, u8 c.a0, u8 c.a1, u8 c.a2, u8 c.a3, u8 c.a4] true 10 none), (4, Blk.mk [u8 3, i64 (ev % 16), u8 ev] true 3 none), (9, Blk.mk [u8 3, i64 (ev % 16), u8 ev] true 3 none), (16, Blk.mk [u8 3, i64 (ev % 16), u8 ev] true 3 none), (18, Blk.mk [u8 3, i64 (ev % 16), u8 ev] true 3 none)]) (by kernel_rfl) trivial ?_
    refine AWP.seq ?_
    refine AWP.regionT tcok hmix [] [2, 3, 4, 6, 9, 10, 13, 16, 17, 18] [3, 4, 9, 16, 18] (os := []) (s' := St.mk [(2, tp (u8 inh)), (3, tp (V.ptr 3 0)), (4, tp (V.ptr 4 0)), (6, tp (vb false)), (9, tp (V.ptr 9 0)), (10, tp (vb true)), (13, tp (vb false)), (16, tp (V.ptr 16 0)), (17, tp (vb true)), (18, tp (V.ptr 18 0))] [(3, Blk.mk [u8 f.a0, u8 f.a1, u8 f.a2, u8 f.a3, u8 f.a4, u8 c.a0, u8 c.a1, u8 c.a2, u8 c.a3, u8 c.a4] true 10 none), (4, Blk.mk [u8 3, i64 (ev % 16), u8 ev] true 3 none), (9, Blk.mk [u8 3, i64 (ev % 16), u8 ev] true 3 none), (16, Blk.mk [u8 3, i64 (ev % 16), u8 ev] true 3 none), (18, Blk.mk [u8 8, i64 (ev % 16), u8 ev] true 3 none)]) (by kernel_rfl) trivial ?_
    refine AWP.seq ?_
    refine AWP.regionT tcok hmix [(3, ⟨none, some ⟨V.tup [ladV f c, V.agg true [u8 0, i64 0, u8 0], vb false], [], []⟩⟩)] [4, 6, 9, 10, 13, 16, 17, 21] [4, 9, 16] (os := [Con Tryd.prog 13 [] [V.agg true [u8 f.a0, u8 f.a1, u8 f.a2, u8 f.a3, u8 f.a4, u8 c.a0, u8 c.a1, u8 c.a2, u8 c.a3, u8 c.a4], V.agg true [u8 8, i64 (ev % 16), u8 ev], u8 inh] [] (V.tup [V.agg true [u8 f.a0, u8 f.a1, u8 f.a2, u8 f.a3, u8 f.a4, u8 c.a0, u8 c.a1, u8 c.a2, u8 c.a3, u8 c.a4], V.agg true [u8 0, i64 0, u8 0], vb false])]) (s' := St.mk [(4, tp (V.ptr 4 0)), (6, tp (vb false)), (9, tp (V.ptr 9 0)), (10, tp (vb true)), (13, tp (vb false)), (16, tp (V.ptr 16 0)), (17, tp (vb true)), (21, tp (vb false))] [(4, Blk.mk [u8 3, i64 (ev % 16), u8 ev] true 3 none), (9, Blk.mk [u8 3, i64 (ev % 16), u8 ev] true 3 none), (16, Blk.mk [u8 3, i64 (ev % 16), u8 ev] true 3 none)]) (by kernel_rfl) ⟨(r4 ), trivial⟩ ?_
    refine AWP.seq ?_
    refine AWP.regionT tcok hmix [] [6] [] (os := []) (s' := St.mk [(6, tp (vb (true && bl true (3 == 3 && (ev % 16 == ev % 16 && (ev == ev && true))) && true && true && bl true (3 == 3 && (ev % 16 == ev % 16 && (ev == ev && true))) && true)))] []) (by kernel_rfl) trivial ?_
    refine AWP.ret ?_
    refine ⟨Or.inr rfl, Eq.trans (b := some ([], vb (true && bl true (3 == 3 && (ev % 16 == ev % 16 && (ev == ev && true))) && true && true && bl true (3 == 3 && (ev % 16 == ev % 16 && (ev == ev && true))) && true))) (by kernel_rfl) ?_⟩
    first | rfl | (simp [bl]; done)
theorem law_rests_4 (inh : Int) (l c : F5) (lv un ev : Int) (hi : 0 ≤ inh ∧ inh < 256) (hl : l.ok) (hc : c.ok) (hlv : 0 ≤ lv ∧ lv < 256) (hev : 0 ≤ ev ∧ ev < 256) (hk : lv.tmod 5 = 4) :
    Con Tryd.prog 6 [] [ladV l c, .agg true [u8 lv, i64 un, u8 ev], u8 inh] [] (vb true) := by
  refine Con.of (C := ⟨Tryd.prog, tc, Tryd.f6.ntmps⟩) [] tcok Tryd.func6 rfl rfl (by kernel_rfl) (by kernel_rfl) ?_
  refine AWP.seq ?_
  refine AWP.regionT tcok hmix [] [2, 3, 4, 6] [3, 4] (os := []) (s' := St.mk [(2, tp (u8 inh)), (3, tp (V.ptr 3 0)), (4, tp (V.ptr 4 0)), (6, tp (vb false))] [(3, Blk.mk [u8 l.a0, u8 l.a1, u8 l.a2, u8 l.a3, u8 l.a4, u8 c.a0, u8 c.a1, u8 c.a2, u8 c.a3, u8 c.a4] true 10 none), (4, Blk.mk [u8 lv, i64 un, u8 ev] true 3 none)]) (by kernel_rfl) trivial ?_
  refine AWP.seq ?_
  refine AWP.seq ?_
  refine AWP.regionT tcok hmix [(0, ⟨none, some ⟨vb true, [], []⟩⟩)] [2, 3, 4, 6, 23] [3, 4] (os := [Con Tryd.prog 11 [] [] [] (vb true)]) (s' := St.mk [(2, tp (u8 inh)), (3, tp (V.ptr 3 0)), (4, tp (V.ptr 4 0)), (6, tp (vb false)), (23, tp (vb false))] [(3, Blk.mk [u8 l.a0, u8 l.a1, u8 l.a2, u8 l.a3, u8 l.a4, u8 c.a0, u8 c.a1, u8 c.a2, u8 c.a3, u8 c.a4] true 10 none), (4, Blk.mk [u8 lv, i64 un, u8 ev] true 3 none)]) (by kernel_rfl) ⟨(con_awake22 ), trivial⟩ ?_
  refine AWP.cond (b := false) (by kernel_rfl) (fun h => by cases h) (fun _ => ?_)
  refine AWP.skip ?_
  refine AWP.seq ?_
  refine AWP.seq ?_
  refine AWP.regionT tcok hmix [] [2, 3, 4, 6, 24] [3, 4] (os := []) (s' := St.mk [(2, tp (u8 inh)), (3, tp (V.ptr 3 0)), (4, tp (V.ptr 4 0)), (6, tp (vb false)), (24, tp (i64 0))] [(3, Blk.mk [u8 l.a0, u8 l.a1, u8 l.a2, u8 l.a3, u8 l.a4, u8 c.a0, u8 c.a1, u8 c.a2, u8 c.a3, u8 c.a4] true 10 none), (4, Blk.mk [u8 lv, i64 un, u8 ev] true 3 none)]) (by kernel_rfl) trivial ?_
  refine AWP.block ?_
  refine AWP.loopI [2, 3, 4, 6, 24] [3, 4] (fun N s' => ∃ (i : Int) (f : F5), s' = St.mk [(2, T.plain (u8 inh)), (3, T.plain (V.ptr 3 0)), (4, T.plain (V.ptr 4 0)), (6, T.plain (vb false)), (24, T.plain (i64 i))] [(3, Blk.mk [u8 f.a0, u8 f.a1, u8 f.a2, u8 f.a3, u8 f.a4, u8 c.a0, u8 c.a1, u8 c.a2, u8 c.a3, u8 c.a4] true 10 none), (4, Blk.mk [u8 lv, i64 un, u8 ev] true 3 none)] ∧ f.ok ∧ (0 ≤ i ∧ i ≤ 5) ∧ ((0 < i → 1 ≤ f.a0) ∧ (1 < i → 1 ≤ f.a1) ∧ (2 < i → 1 ≤ f.a2) ∧ (3 < i → 1 ≤ f.a3) ∧ (4 < i → 1 ≤ f.a4)) ∧ (N : Int) = 5 - i) 5 (s0 := St.mk [(2, T.plain (u8 inh)), (3, T.plain (V.ptr 3 0)), (4, T.plain (V.ptr 4 0)), (6, T.plain (vb false)), (24, T.plain (i64 0))] [(3, Blk.mk [u8 l.a0, u8 l.a1, u8 l.a2, u8 l.a3, u8 l.a4, u8 c.a0, u8 c.a1, u8 c.a2, u8 c.a3, u8 c.a4] true 10 none), (4, Blk.mk [u8 lv, i64 un, u8 ev] true 3 none)]) (by kernel_rfl) ?_ ?_
  · exact ⟨0, l, rfl, hl, by omega, by omega, by omega⟩
  rintro N s' ⟨i, f, rfl, hf, hi5, hg, hN⟩
  have hf' := hf
  obtain ⟨f1, f2, f3, f4, f5, f6, f7, f8, f9, f0⟩ := hf
  rcases (by omega : i = 0 ∨ i = 1 ∨ i = 2 ∨ i = 3 ∨ i = 4 ∨ i = 5) with rfl | rfl | rfl | rfl | rfl | rfl
  · refine AWP.seq ?_
    refine AWP.regionT tcok hmix [] [2, 3, 4, 6, 24, 25] [3, 4] (os := []) (s' := St.mk [(2, tp (u8 inh)), (3, tp (V.ptr 3 0)), (4, tp (V.ptr 4 0)), (6, tp (vb false)), (24, tp (i64 0)), (25, tp (vb true))] [(3, Blk.mk [u8 f.a0, u8 f.a1, u8 f.a2, u8 f.a3, u8 f.a4, u8 c.a0, u8 c.a1, u8 c.a2, u8 c.a3, u8 c.a4] true 10 none), (4, Blk.mk [u8 lv, i64 un, u8 ev] true 3 none)]) (by kernel_rfl) trivial ?_
    refine AWP.seq ?_
    refine AWP.cond (b := true) (by kernel_rfl) (fun _ => ?_) (fun h => by cases h)
    refine AWP.skip ?_
    refine AWP.seq ?_
    refine AWP.block ?_
    refine AWP.seq ?_
    refine AWP.regionT tcok hmix [] [2, 3, 4, 6, 7, 24] [3, 4] (os := []) (s' := St.mk [(2, tp (u8 inh)), (3, tp (V.ptr 3 0)), (4, tp (V.ptr 4 0)), (6, tp (vb false)), (7, tp (i64 0)), (24, tp (i64 0))] [(3, Blk.mk [u8 f.a0, u8 f.a1, u8 f.a2, u8 f.a3, u8 f.a4, u8 c.a0, u8 c.a1, u8 c.a2, u8 c.a3, u8 c.a4] true 10 none), (4, Blk.mk [u8 lv, i64 un, u8 ev] true 3 none)]) (by kernel_rfl) trivial ?_
    refine AWP.region tcok hmix [] (os := []) (sf := St.mk [(2, tp (u8 inh)), (3, tp (V.ptr 3 0)), (4, tp (V.ptr 4 0)), (6, tp (vb false)), (7, tp (i64 0)), (24, tp (i64 0)), (27, tp (i64 0)), (28, tp (i64 0)), (29, tp (V.ptr 3 0)), (30, tp (V.ptr 3 0)), (31, tp (u8 f.a0)), (32, tp (u8 (imax f.a0 1))), (33, tp (V.ptr 3 0)), (34, tp (V.ptr 3 0))] [(3, Blk.mk [u8 (imax f.a0 1), u8 f.a1, u8 f.a2, u8 f.a3, u8 f.a4, u8 c.a0, u8 c.a1, u8 c.a2, u8 c.a3, u8 c.a4] true 10 none), (4, Blk.mk [u8 lv, i64 un, u8 ev] true 3 none)]) (by kernel_rfl) trivial ?_
    refine AWP.keep' [2, 3, 4, 6, 24] [3, 4] (sf := St.mk [(2, tp (u8 inh)), (3, tp (V.ptr 3 0)), (4, tp (V.ptr 4 0)), (6, tp (vb false)), (24, tp (i64 0))] [(3, Blk.mk [u8 (imax f.a0 1), u8 f.a1, u8 f.a2, u8 f.a3, u8 f.a4, u8 c.a0, u8 c.a1, u8 c.a2, u8 c.a3, u8 c.a4] true 10 none), (4, Blk.mk [u8 lv, i64 un, u8 ev] true 3 none)]) (by kernel_rfl) ?_
    refine AWP.region tcok hmix [] (os := []) (sf := St.mk [(2, tp (u8 inh)), (3, tp (V.ptr 3 0)), (4, tp (V.ptr 4 0)), (6, tp (vb false)), (24, tp (i64 1)), (35, tp (i64 1))] [(3, Blk.mk [u8 (imax f.a0 1), u8 f.a1, u8 f.a2, u8 f.a3, u8 f.a4, u8 c.a0, u8 c.a1, u8 c.a2, u8 c.a3, u8 c.a4] true 10 none), (4, Blk.mk [u8 lv, i64 un, u8 ev] true 3 none)]) (by kernel_rfl) trivial ?_
    refine ⟨St.mk [(2, tp (u8 inh)), (3, tp (V.ptr 3 0)), (4, tp (V.ptr 4 0)), (6, tp (vb false)), (24, tp (i64 1))] [(3, Blk.mk [u8 (imax f.a0 1), u8 f.a1, u8 f.a2, u8 f.a3, u8 f.a4, u8 c.a0, u8 c.a1, u8 c.a2, u8 c.a3, u8 c.a4] true 10 none), (4, Blk.mk [u8 lv, i64 un, u8 ev] true 3 none)], by kernel_rfl, ?_⟩
    (exact ⟨4, (by omega), 1, ⟨imax f.a0 1, f.a1, f.a2, f.a3, f.a4⟩, rfl, ok_mk (by simp only [imax]; omega), (by omega), (by simp only [imax]; omega), (by omega)⟩)
  · refine AWP.seq ?_
    refine AWP.regionT tcok hmix [] [2, 3, 4, 6, 24, 25] [3, 4] (os := []) (s' := St.mk [(2, tp (u8 inh)), (3, tp (V.ptr 3 0)), (4, tp (V.ptr 4 0)), (6, tp (vb false)), (24, tp (i64 1)), (25, tp (vb true))] [(3, Blk.mk [u8 f.a0, u8 f.a1, u8 f.a2, u8 f.a3, u8 f.a4, u8 c.a0, u8 c.a1, u8 c.a2, u8 c.a3, u8 c.a4] true 10 none), (4, Blk.mk [u8 lv, i64 un, u8 ev] true 3 none)]) (by kernel_rfl) trivial ?_
    refine AWP.seq ?_
    refine AWP.cond (b := true) (by kernel_rfl) (fun _ => ?_) (fun h => by cases h)
    refine AWP.skip ?_
    refine AWP.seq ?_
    refine AWP.block ?_
    refine AWP.seq ?_
    refine AWP.regionT tcok hmix [] [2, 3, 4, 6, 7, 24] [3, 4] (os := []) (s' := St.mk [(2, tp (u8 inh)), (3, tp (V.ptr 3 0)), (4, tp (V.ptr 4 0)), (6, tp (vb false)), (7, tp (i64 1)), (24, tp (i64 1))] [(3, Blk.mk [u8 f.a0, u8 f.a1, u8 f.a2, u8 f.a3, u8 f.a4, u8 c.a0, u8 c.a1, u8 c.a2, u8 c.a3, u8 c.a4] true 10 none), (4, Blk.mk [u8 lv, i64 un, u8 ev] true 3 none)]) (by kernel_rfl) trivial ?_
    refine AWP.region tcok hmix [] (os := []) (sf := St.mk [(2, tp (u8 inh)), (3, tp (V.ptr 3 0)), (4, tp (V.ptr 4 0)), (6, tp (vb false)), (7, tp (i64 1)), (24, tp (i64 1)), (27, tp (i64 1)), (28, tp (i64 1)), (29, tp (V.ptr 3 0)), (30, tp (V.ptr 3 1)), (31, tp (u8 f.a1)), (32, tp (u8 (imax f.a1 1))), (33, tp (V.ptr 3 0)), (34, tp (V.ptr 3 1))] [(3, Blk.mk [u8 f.a0, u8 (imax f.a1 1), u8 f.a2, u8 f.a3, u8 f.a4, u8 c.a0, u8 c.a1, u8 c.a2, u8 c.a3, u8 c.a4] true 10 none), (4, Blk.mk [u8 lv, i64 un, u8 ev] true 3 none)]) (by kernel_rfl) trivial ?_
    refine AWP.keep' [2, 3, 4, 6, 24] [3, 4] (sf := St.mk [(2, tp (u8 inh)), (3, tp (V.ptr 3 0)), (4, tp (V.ptr 4 0)), (6, tp (vb false)), (24, tp (i64 1))] [(3, Blk.mk [u8 f.a0, u8 (imax f.a1 1), u8 f.a2, u8 f.a3, u8 f.a4, u8 c.a0, u8 c.a1, u8 c.a2, u8 c.a3, u8 c.a4] true 10 none), (4, Blk.mk [u8 lv, i64 un, u8 ev] true 3 none)]) (by kernel_rfl) ?_
    refine AWP.region tcok hmix [] (os := []) (sf := St.mk [(2, tp (u8 inh)), (3, tp (V.ptr 3 0)), (4, tp (V.ptr 4 0)), (6, tp (vb false)), (24, tp (i64 2)), (35, tp (i64 2))] [(3, Blk.mk [u8 f.a0, u8 (imax f.a1 1), u8 f.a2, u8 f.a3, u8 f.a4, u8 c.a0, u8 c.a1, u8 c.a2, u8 c.a3, u8 c.a4] true 10 none), (4, Blk.mk [u8 lv, i64 un, u8 ev] true 3 none)]) (by kernel_rfl) trivial ?_
    refine ⟨St.mk [(2, tp (u8 inh)), (3, tp (V.ptr 3 0)), (4, tp (V.ptr 4 0)), (6, tp (vb false)), (24, tp (i64 2))] [(3, Blk.mk [u8 f.a0, u8 (imax f.a1 1), u8 f.a2, u8 f.a3, u8 f.a4, u8 c.a0, u8 c.a1, u8 c.a2, u8 c.a3, u8 c.a4] true 10 none), (4, Blk.mk [u8 lv, i64 un, u8 ev] true 3 none)], by kernel_rfl, ?_⟩
    (exact ⟨3, (by omega), 2, ⟨f.a0, imax f.a1 1, f.a2, f.a3, f.a4⟩, rfl, ok_mk (by simp only [imax]; omega), (by omega), (by simp only [imax]; omega), (by omega)⟩)
  · refine AWP.seq ?_
    refine AWP.regionT tcok hmix [] [2, 3, 4, 6, 24, 25] [3, 4] (os := []) (s' := St.mk [(2, tp (u8 inh)), (3, tp (V.ptr 3 0)), (4, tp (V.ptr 4 0)), (6, tp (vb false)), (24, tp (i64 2)), (25, tp (vb true))] [(3, Blk.mk [u8 f.a0, u8 f.a1, u8 f.a2, u8 f.a3, u8 f.a4, u8 c.a0, u8 c.a1, u8 c.a2, u8 c.a3, u8 c.a4] true 10 none), (4, Blk.mk [u8 lv, i64 un, u8 ev] true 3 none)]) (by kernel_rfl) trivial ?_
    refine AWP.seq ?_
    refine AWP.cond (b := true) (by kernel_rfl) (fun _ => ?_) (fun h => by cases h)
    refine AWP.skip ?_
    refine AWP.seq ?_
    refine AWP.block ?_
    refine AWP.seq ?_
    refine AWP.regionT tcok hmix [] [2, 3, 4, 6, 7, 24] [3, 4] (os := []) (s' := St.mk [(2, tp (u8 inh)), (3, tp (V.ptr 3 0)), (4, tp (V.ptr 4 0)), (6, tp (vb false)), (7, tp (i64 2)), (24, tp (i64 2))] [(3, Blk.mk [u8 f.a0, u8 f.a1, u8 f.a2, u8 f.a3, u8 f.a4, u8 c.a0, u8 c.a1, u8 c.a2, u8 c.a3, u8 c.a4] true 10 none), (4, Blk.mk [u8 lv, i64 un, u8 ev] true 3 none)]) (by kernel_rfl) trivial ?_
    refine AWP.region tcok hmix [] (os := []) (sf := St.mk [(2, tp (u8 inh)), (3, tp (V.ptr 3 0)), (4, tp (V.ptr 4 0)), (6, tp (vb false)), (7, tp (i64 2)), (24, tp (i64 2)), (27, tp (i64 2)), (28, tp (i64 2)), (29, tp (V.ptr 3 0)), (30, tp (V.ptr 3 2)), (31, tp (u8 f.a2)), (32, tp (u8 (imax f.a2 1))), (33, tp (V.ptr 3 0)), (34, tp (V.ptr 3 2))] [(3, Blk.mk [u8 f.a0, u8 f.a1, u8 (imax f.a2 1), u8 f.a3, u8 f.a4, u8 c.a0, u8 c.a1, u8 c.a2, u8 c.a3, u8 c.a4] true 10 none), (4, Blk.mk [u8 lv, i64 un, u8 ev] true 3 none)]) (by kernel_rfl) trivial ?_
    refine AWP.keep' [2, 3, 4, 6, 24] [3, 4] (sf := St.mk [(2, tp (u8 inh)), (3, tp (V.ptr 3 0)), (4, tp (V.ptr 4 0)), (6, tp (vb false)), (24, tp (i64 2))] [(3, Blk.mk [u8 f.a0, u8 f.a1, u8 (imax f.a2 1), u8 f.a3, u8 f.a4, u8 c.a0, u8 c.a1, u8 c.a2, u8 c.a3, u8 c.a4] true 10 none), (4, Blk.mk [u8 lv, i64 un, u8 ev] true 3 none)]) (by kernel_rfl) ?_
    refine AWP.region tcok hmix [] (os := []) (sf := St.mk [(2, tp (u8 inh)), (3, tp (V.ptr 3 0)), (4, tp (V.ptr 4 0)), (6, tp (vb false)), (24, tp (i64 3)), (35, tp (i64 3))] [(3, Blk.mk [u8 f.a0, u8 f.a1, u8 (imax f.a2 1), u8 f.a3, u8 f.a4, u8 c.a0, u8 c.a1, u8 c.a2, u8 c.a3, u8 c.a4] true 10 none), (4, Blk.mk [u8 lv, i64 un, u8 ev] true 3 none)]) (by kernel_rfl) trivial ?_
    refine ⟨St.mk [(2, tp (u8 inh)), (3, tp (V.ptr 3 0)), (4, tp (V.ptr 4 0)), (6, tp (vb false)), (24, tp (i64 3))] [(3, Blk.mk [u8 f.a0, u8 f.a1, u8 (imax f.a2 1), u8 f.a3, u8 f.a4, u8 c.a0, u8 c.a1, u8 c.a2, u8 c.a3, u8 c.a4] true 10 none), (4, Blk.mk [u8 lv, i64 un, u8 ev] true 3 none)], by kernel_rfl, ?_⟩
    (exact ⟨2, (by omega), 3, ⟨f.a0, f.a1, imax f.a2 1, f.a3, f.a4⟩, rfl, ok_mk (by simp only [imax]; omega), (by omega), (by simp only [imax]; omega), (by omega)⟩)
  · refine AWP.seq ?_
    refine AWP.regionT tcok hmix [] [2, 3, 4, 6, 24, 25] [3, 4] (os := []) (s' := St.mk [(2, tp (u8 inh)), (3, tp (V.ptr 3 0)), (4, tp (V.ptr 4 0)), (6, tp (vb false)), (24, tp (i64 3)), (25, tp (vb true))] [(3, Blk.mk [u8 f.a0, u8 f.a1, u8 f.a2, u8 f.a3, u8 f.a4, u8 c.a0, u8 c.a1, u8 c.a2, u8 c.a3, u8 c.a4] true 10 none), (4, Blk.mk [u8 lv, i64 un, u8 ev] true 3 none)]) (by kernel_rfl) trivial ?_
    refine AWP.seq ?_
    refine AWP.cond (b := true) (by kernel_rfl) (fun _ => ?_) (fun h => by cases h)
    refine AWP.skip ?_
    refine AWP.seq ?_
    refine AWP.block ?_
    refine AWP.seq ?_
    refine AWP.regionT tcok hmix [] [2, 3, 4, 6, 7, 24] [3, 4] (os := []) (s' := St.mk [(2, tp (u8 inh)), (3, tp (V.ptr 3 0)), (4, tp (V.ptr 4 0)), (6, tp (vb false)), (7, tp (i64 3)), (24, tp (i64 3))] [(3, Blk.mk [u8 f.a0, u8 f.a1, u8 f.a2, u8 f.a3, u8 f.a4, u8 c.a0, u8 c.a1, u8 c.a2, u8 c.a3, u8 c.a4] true 10 none), (4, Blk.mk [u8 lv, i64 un, u8 ev] true 3 none)]) (by kernel_rfl) trivial ?_
    refine AWP.region tcok hmix [] (os := []) (sf := St.mk [(2, tp (u8 inh)), (3, tp (V.ptr 3 0)), (4, tp (V.ptr 4 0)), (6, tp (vb false)), (7, tp (i64 3)), (24, tp (i64 3)), (27, tp (i64 3)), (28, tp (i64 3)), (29, tp (V.ptr 3 0)), (30, tp (V.ptr 3 3)), (31, tp (u8 f.a3)), (32, tp (u8 (imax f.a3 1))), (33, tp (V.ptr 3 0)), (34, tp (V.ptr 3 3))] [(3, Blk.mk [u8 f.a0, u8 f.a1, u8 f.a2, u8 (imax f.a3 1), u8 f.a4, u8 c.a0, u8 c.a1, u8 c.a2, u8 c.a3, u8 c.a4] true 10 none), (4, Blk.mk [u8 lv, i64 un, u8 ev] true 3 none)]) (by kernel_rfl) trivial ?_
    refine AWP.keep' [2, 3, 4, 6, 24] [3, 4] (sf := St.mk [(2, tp (u8 inh)), (3, tp (V.ptr 3 0)), (4, tp (V.ptr 4 0)), (6, tp (vb false)), (24, tp (i64 3))] [(3, Blk.mk [u8 f.a0, u8 f.a1, u8 f.a2, u8 (imax f.a3 1), u8 f.a4, u8 c.a0, u8 c.a1, u8 c.a2, u8 c.a3, u8 c.a4] true 10 none), (4, Blk.mk [u8 lv, i64 un, u8 ev] true 3 none)]) (by kernel_rfl) ?_
    refine AWP.region tcok hmix [] (os := []) (sf := St.mk [(2, tp (u8 inh)), (3, tp (V.ptr 3 0)), (4, tp (V.ptr 4 0)), (6, tp (vb false)), (24, tp (i64 4)), (35, tp (i64 4))] [(3, Blk.mk [u8 f.a0, u8 f.a1, u8 f.a2, u8 (imax f.a3 1), u8 f.a4, u8 c.a0, u8 c.a1, u8 c.a2, u8 c.a3, u8 c.a4] true 10 none), (4, Blk.mk [u8 lv, i64 un, u8 ev] true 3 none)]) (by kernel_rfl) trivial ?_
    refine ⟨St.mk [(2, tp (u8 inh)), (3, tp (V.ptr 3 0)), (4, tp (V.ptr 4 0)), (6, tp (vb false)), (24, tp (i64 4))] [(3, Blk.mk [u8 f.a0, u8 f.a1, u8 f.a2, u8 (imax f.a3 1), u8 f.a4, u8 c.a0, u8 c.a1, u8 c.a2, u8 c.a3, u8 c.a4] true 10 none), (4, Blk.mk [u8 lv, i64 un, u8 ev] true 3 none)], by kernel_rfl, ?_⟩
    (exact ⟨1, (by omega), 4, ⟨f.a0, f.a1, f.a2, imax f.a3 1, f.a4⟩, rfl, ok_mk (by simp only [imax]; omega), (by omega), (by simp only [imax]; omega), (by omega)⟩)
  · refine AWP.seq ?_
    refine AWP.regionT tcok hmix [] [2, 3, 4, 6, 24, 25] [3, 4] (os := []) (s' := St.mk [(2, tp (u8 inh)), (3, tp (V.ptr 3 0)), (4, tp (V.ptr 4 0)), (6, tp (vb false)), (24, tp (i64 4)), (25, tp (vb true))] [(3, Blk.mk [u8 f.a0, u8 f.a1, u8 f.a2, u8 f.a3, u8 f.a4, u8 c.a0, u8 c.a1, u8 c.a2, u8 c.a3, u8 c.a4] true 10 none), (4, Blk.mk [u8 lv, i64 un, u8 ev] true 3 none)]) (by kernel_rfl) trivial ?_
    refine AWP.seq ?_
    refine AWP.cond (b := true) (by kernel_rfl) (fun _ => ?_) (fun h => by cases h)
    refine AWP.skip ?_
    refine AWP.seq ?_
    refine AWP.block ?_
    refine AWP.seq ?_
    refine AWP.regionT tcok hmix [] [2, 3, 4, 6, 7, 24] [3, 4] (os := []) (s' := St.mk [(2, tp (u8 inh)), (3, tp (V.ptr 3 0)), (4, tp (V.ptr 4 0)), (6, tp (vb false)), (7, tp (i64 4)), (24, tp (i64 4))] [(3, Blk.mk [u8 f.a0, u8 f.a1, u8 f.a2, u8 f.a3, u8 f.a4, u8 c.a0, u8 c.a1, u8 c.a2, u8 c.a3, u8 c.a4] true 10 none), (4, Blk.mk [u8 lv, i64 un, u8 ev] true 3 none)]) (by kernel_rfl) trivial ?_
    refine AWP.region tcok hmix [] (os := []) (sf := St.mk [(2, tp (u8 inh)), (3, tp (V.ptr 3 0)), (4, tp (V.ptr 4 0)), (6, tp (vb false)), (7, tp (i64 4)), (24, tp (i64 4)), (27, tp (i64 4)), (28, tp (i64 4)), (29, tp (V.ptr 3 0)), (30, tp (V.ptr 3 4)), (31, tp (u8 f.a4)), (32, tp (u8 (imax f.a4 1))), (33, tp (V.ptr 3 0)), (34, tp (V.ptr 3 4))] [(3, Blk.mk [u8 f.a0, u8 f.a1, u8 f.a2, u8 f.a3, u8 (imax f.a4 1), u8 c.a0, u8 c.a1, u8 c.a2, u8 c.a3, u8 c.a4] true 10 none), (4, Blk.mk [u8 lv, i64 un, u8 ev] true 3 none)]) (by kernel_rfl) trivial ?_
    refine AWP.keep' [2, 3, 4, 6, 24] [3, 4] (sf := St.mk [(2, tp (u8 inh)), (3, tp (V.ptr 3 0)), (4, tp (V.ptr 4 0)), (6, tp (vb false)), (24, tp (i64 4))] [(3, Blk.mk [u8 f.a0, u8 f.a1, u8 f.a2, u8 f.a3, u8 (imax f.a4 1), u8 c.a0, u8 c.a1, u8 c.a2, u8 c.a3, u8 c.a4] true 10 none), (4, Blk.mk [u8 lv, i64 un, u8 ev] true 3 none)]) (by kernel_rfl) ?_
    refine AWP.region tcok hmix [] (os := []) (sf := St.mk [(2, tp (u8 inh)), (3, tp (V.ptr 3 0)), (4, tp (V.ptr 4 0)), (6, tp (vb false)), (24, tp (i64 5)), (35, tp (i64 5))] [(3, Blk.mk [u8 f.a0, u8 f.a1, u8 f.a2, u8 f.a3, u8 (imax f.a4 1), u8 c.a0, u8 c.a1, u8 c.a2, u8 c.a3, u8 c.a4] true 10 none), (4, Blk.mk [u8 lv, i64 un, u8 ev] true 3 none)]) (by kernel_rfl) trivial ?_
    refine ⟨St.mk [(2, tp (u8 inh)), (3, tp (V.ptr 3 0)), (4, tp (V.ptr 4 0)), (6, tp (vb false)), (24, tp (i64 5))] [(3, Blk.mk [u8 f.a0, u8 f.a1, u8 f.a2, u8 f.a3, u8 (imax f.a4 1), u8 c.a0, u8 c.a1, u8 c.a2, u8 c.a3, u8 c.a4] true 10 none), (4, Blk.mk [u8 lv, i64 un, u8 ev] true 3 none)], by kernel_rfl, ?_⟩
    (exact ⟨0, (by omega), 5, ⟨f.a0, f.a1, f.a2, f.a3, imax f.a4 1⟩, rfl, ok_mk (by simp only [imax]; omega), (by omega), (by simp only [imax]; omega), (by omega)⟩)
  · have z : (F5.mk 0 0 0 0 0).ok := ok_mk (by omega)
    have r1 := con_free_4 0 f ⟨0, 0, 0, 0, 0⟩ (ev % 16) ev (by omega) z (by omega) rfl (by dsimp only; omega)
    have r2 := con_free_4 15 f ⟨0, 0, 0, 0, 0⟩ (ev % 16) ev (by omega) z (by omega) rfl (by dsimp only; omega)
    have r3 := con_full f c 4 (ev % 16) ev hc (by omega) (by omega)
    have r4 := con_raise_no inh f c 9 (ev % 16) ev rfl
    refine AWP.seq ?_
    refine AWP.regionT tcok hmix [] [2, 3, 4, 6, 24, 25] [3, 4] (os := []) (s' := St.mk [(2, tp (u8 inh)), (3, tp (V.ptr 3 0)), (4, tp (V.ptr 4 0)), (6, tp (vb false)), (24, tp (i64 5)), (25, tp (vb false))] [(3, Blk.mk [u8 f.a0, u8 f.a1, u8 f.a2, u8 f.a3, u8 f.a4, u8 c.a0, u8 c.a1, u8 c.a2, u8 c.a3, u8 c.a4] true 10 none), (4, Blk.mk [u8 lv, i64 un, u8 ev] true 3 none)]) (by kernel_rfl) trivial ?_
    refine AWP.seq ?_
    refine AWP.cond (b := false) (by kernel_rfl) (fun h => by cases h) (fun _ => ?_)
    refine AWP.exit ?_
    refine AWP.seq ?_
    refine AWP.regionT tcok hmix [(2, ⟨some (u8 4), none⟩), (5, ⟨some (u8 (ev % 16)), none⟩), (6, ⟨some (i64 (ev % 16)), none⟩)] [2, 3, 4, 6] [3, 4] (os := [(5 : Int) ≠ (0 : Int), u8 (Int.tmod lv 5) = u8 4, (16 : Int) ≠ (0 : Int), u8 (Int.tmod ev 16) = u8 (ev % 16), i64 (IntKind.wrap IntKind.i64 (ev % 16)) = i64 (ev % 16)]) (s' := St.mk [(2, tp (u8 inh)), (3, tp (V.ptr 3 0)), (4, tp (V.ptr 4 0)), (6, tp (vb false))] [(3, Blk.mk [u8 f.a0, u8 f.a1, u8 f.a2, u8 f.a3, u8 f.a4, u8 c.a0, u8 c.a1, u8 c.a2, u8 c.a3, u8 c.a4] true 10 none), (4, Blk.mk [u8 4, i64 (ev % 16), u8 ev] true 3 none)]) (by kernel_rfl) ⟨(by omega), (in_eq hk), (by omega), (tm_ (by omega)), (wr_i64 (by omega) (by omega)), trivial⟩ ?_
    refine AWP.seq ?_
    refine AWP.regionT tcok hmix [(1, ⟨none, some ⟨ladV f (F5.mk 0 0 0 0 0), [], []⟩⟩), (3, ⟨none, some ⟨V.tup [ladV f (F5.inc (F5.mk 0 0 0 0 0) 4), V.agg true [u8 4, i64 (ev % 16), u8 ev], vb true], [], []⟩⟩)] [2, 3, 4, 6, 9, 10] [3, 4, 9] (os := [Con Tryd.prog 18 [] [V.agg true [u8 f.a0, u8 f.a1, u8 f.a2, u8 f.a3, u8 f.a4, u8 c.a0, u8 c.a1, u8 c.a2, u8 c.a3, u8 c.a4]] [] (V.agg true [u8 f.a0, u8 f.a1, u8 f.a2, u8 f.a3, u8 f.a4, u8 0, u8 0, u8 0, u8 0, u8 0]), Con Tryd.prog 13 [] [V.agg true [u8 f.a0, u8 f.a1, u8 f.a2, u8 f.a3, u8 f.a4, u8 0, u8 0, u8 0, u8 0, u8 0], V.agg true [u8 4, i64 (ev % 16), u8 ev], u8 0] [] (V.tup [V.agg true [u8 f.a0, u8 f.a1, u8 f.a2, u8 f.a3, u8 f.a4, u8 0, u8 0, u8 0, u8 0, u8 1], V.agg true [u8 4, i64 (ev % 16), u8 ev], vb true])]) (s' := St.mk [(2, tp (u8 inh)), (3, tp (V.ptr 3 0)), (4, tp (V.ptr 4 0)), (6, tp (vb false)), (9, tp (V.ptr 9 0)), (10, tp (vb true))] [(3, Blk.mk [u8 f.a0, u8 f.a1, u8 f.a2, u8 f.a3, u8 f.a4, u8 c.a0, u8 c.a1, u8 c.a2, u8 c.a3, u8 c.a4] true 10 none), (4, Blk.mk [u8 4, i64 (ev % 16), u8 ev] true 3 none), (9, Blk.mk [u8 4, i64 (ev % 16), u8 ev] true 3 none)]) (by kernel_rfl) ⟨(con_calm (f) (c)), (r1 ), trivial⟩ ?_
    refine AWP.seq ?_
    refine AWP.regionT tcok hmix [(2, ⟨none, some ⟨V.tup [ladV f c, V.agg true [u8 0, i64 0, u8 0], vb false], [], []⟩⟩)] [2, 3, 4, 6, 9, 10, 13] [3, 4, 9] (os := [Con Tryd.prog 13 [] [V.agg true [u8 f.a0, u8 f.a1, u8 f.a2, u8 f.a3, u8 f.a4, u8 c.a0, u8 c.a1, u8 c.a2, u8 c.a3, u8 c.a4], V.agg true [u8 4, i64 (ev % 16), u8 ev], u8 31] [] (V.tup [V.agg true [u8 f.a0, u8 f.a1, u8 f.a2, u8 f.a3, u8 f.a4, u8 c.a0, u8 c.a1, u8 c.a2, u8 c.a3, u8 c.a4], V.agg true [u8 0, i64 0, u8 0], vb false])]) (s' := St.mk [(2, tp (u8 inh)), (3, tp (V.ptr 3 0)), (4, tp (V.ptr 4 0)), (6, tp (vb false)), (9, tp (V.ptr 9 0)), (10, tp (vb true)), (13, tp (vb false))] [(3, Blk.mk [u8 f.a0, u8 f.a1, u8 f.a2, u8 f.a3, u8 f.a4, u8 c.a0, u8 c.a1, u8 c.a2, u8 c.a3, u8 c.a4] true 10 none), (4, Blk.mk [u8 4, i64 (ev % 16), u8 ev] true 3 none), (9, Blk.mk [u8 4, i64 (ev % 16), u8 ev] true 3 none)]) (by kernel_rfl) ⟨(r3 ), trivial⟩ ?_
    refine AWP.seq ?_
    refine AWP.regionT tcok hmix [] [2, 3, 4, 6, 9, 10, 13, 14] [3, 4, 9] (os := []) (s' := St.mk [(2, tp (u8 inh)), (3, tp (V.ptr 3 0)), (4, tp (V.ptr 4 0)), (6, tp (vb false)), (9, tp (V.ptr 9 0)), (10, tp (vb true)), (13, tp (vb false)), (14, tp (u8 15))] [(3, Blk.mk [u8 f.a0, u8 f.a1, u8 f.a2, u8 f.a3, u8 f.a4, u8 c.a0, u8 c.a1, u8 c.a2, u8 c.a3, u8 c.a4] true 10 none), (4, Blk.mk [u8 4, i64 (ev % 16), u8 ev] true 3 none), (9, Blk.mk [u8 4, i64 (ev % 16), u8 ev] true 3 none)]) (by kernel_rfl) trivial ?_
    refine AWP.seq ?_
    refine AWP.regionT tcok hmix [(1, ⟨none, some ⟨ladV f (F5.mk 0 0 0 0 0), [], []⟩⟩), (4, ⟨none, some ⟨V.tup [ladV f (F5.inc (F5.mk 0 0 0 0 0) 4), V.agg true [u8 4, i64 (ev % 16), u8 ev], vb true], [], []⟩⟩)] [2, 3, 4, 6, 9, 10, 13, 16, 17] [3, 4, 9, 16] (os := [Con Tryd.prog 18 [] [V.agg true [u8 f.a0, u8 f.a1, u8 f.a2, u8 f.a3, u8 f.a4, u8 c.a0, u8 c.a1, u8 c.a2, u8 c.a3, u8 c.a4]] [] (V.agg true [u8 f.a0, u8 f.a1, u8 f.a2, u8 f.a3, u8 f.a4, u8 0, u8 0, u8 0, u8 0, u8 0]), Con Tryd.prog 13 [] [V.agg true [u8 f.a0, u8 f.a1, u8 f.a2, u8 f.a3, u8 f.a4, u8 0, u8 0, u8 0, u8 0, u8 0], V.agg true [u8 4, i64 (ev % 16), u8 ev], u8 15] [] (V.tup [V.agg true [u8 f.a0, u8 f.a1, u8 f.a2, u8 f.a3, u8 f.a4, u8 0, u8 0, u8 0, u8 0, u8 1], V.agg true [u8 4, i64 (ev % 16), u8 ev], vb true])]) (s' := St.mk [(2, tp (u8 inh)), (3, tp (V.ptr 3 0)), (4, tp (V.ptr 4 0)), (6, tp (vb false)), (9, tp (V.ptr 9 0)), (10, tp (vb true)), (13, tp (vb false)), (16, tp (V.ptr 16 0)), (17, tp (vb true))] [(3, Blk.mk [u8 f.a0, u8 f.a1, u8 f.a2, u8 f.a3, u8 f.a4, u8 c.a0, u8 c.a1, u8 c.a2, u8 c.a3, u8 c.a4] true 10 none), (4, Blk.mk [u8 4, i64 (ev % 16), u8 ev] true 3 none), (9, Blk.mk [u8 4, i64 (ev % 16), u8 ev] true 3 none), (16, Blk.mk [u8 4, i64 (ev % 16), u8 ev] true 3 none)]) (by kernel_rfl) ⟨(con_calm (f) (c)), (r2 ), trivial⟩ ?_
    refine AWP.seq ?_
    refine AWP.regionT tcok hmix [] [2, 3, 4, 6, 9, 10, 13, 16, 17, 18] [3, 4, 9, 16, 18] (os := []) (s' := St.mk [(2, tp (u8 inh)), (3, tp (V.ptr 3 0)), (4, tp (V.ptr 4 0)), (6, tp (vb false)), (9, tp (V.ptr 9 0)), (10, tp (vb true)), (13, tp (vb false)), (16, tp (V.ptr 16 0)), (17, tp (vb true)), (18, tp (V.ptr 18 0))] [(3, Blk.mk [u8 f.a0, u8 f.a1, u8 f.a2, u8 f.a3, u8 f.a4, u8 c.a0, u8 c.a1, u8 c.a2, u8 c.a3, u8 c.a4] true 10 none), (4, Blk.mk [u8 4, i64 (ev % 16), u8 ev] true 3 none), (9, Blk.mk [u8 4, i64 (ev % 16), u8 ev] true 3 none), (16, Blk.mk [u8 4, i64 (ev % 16), u8 ev] true 3 none), (18, Blk.mk [u8 4, i64 (ev % 16), u8 ev] true 3 none)]) (by kernel_rfl) trivial ?_
    refine AWP.seq ?_
    refine AWP.regionT tcok hmix [] [2, 3, 4, 6, 9, 10, 13, 16, 17, 18] [3, 4, 9, 16, 18] (os := []) (s' := St.mk [(2, tp (u8 inh)), (3, tp (V.ptr 3 0)), (4, tp (V.ptr 4 0)), (6, tp (vb false)), (9, tp (V.ptr 9 0)), (10, tp (vb true)), (13, tp (vb false)), (16, tp (V.ptr 16 0)), (17, tp (vb true)), (18, tp (V.ptr 18 0))] [(3, Blk.mk [u8 f.a0, u8 f.a1, u8 f.a2, u8 f.a3, u8 f.a4, u8 c.a0, u8 c.a1, u8 c.a2, u8 c.a3, u8 c.a4] true 10 none), (4, Blk.mk [u8 4, i64 (ev % 16), u8 ev] true 3 none), (9, Blk.mk [u8 4, i64 (ev % 16), u8 ev] true 3 none), (16, Blk.mk [u8 4, i64 (ev % 16), u8 ev] true 3 none), (18, Blk.mk [u8 9, i64 (ev % 16), u8 ev] true 3 none)]) (by kernel_rfl) trivial ?_
    refine AWP.seq ?_
    refine AWP.regionT tcok hmix [(3, ⟨none, some ⟨V.tup [ladV f c, V.agg true [u8 0, i64 0, u8 0], vb false], [], []⟩⟩)] [4, 6, 9, 10, 13, 16, 17, 21] [4, 9, 16] (os := [Con Tryd.prog 13 [] [V.agg true [u8 f.a0, u8 f.a1, u8 f.a2, u8 f.a3, u8 f.a4, u8 c.a0, u8 c.a1, u8 c.a2, u8 c.a3, u8 c.a4], V.agg true [u8 9, i64 (ev % 16), u8 ev], u8 inh] [] (V.tup [V.agg true [u8 f.a0, u8 f.a1, u8 f.a2, u8 f.a3, u8 f.a4, u8 c.a0, u8 c.a1, u8 c.a2, u8 c.a3, u8 c.a4], V.agg true [u8 0, i64 0, u8 0], vb false])]) (s' := St.mk [(4, tp (V.ptr 4 0)), (6, tp (vb false)), (9, tp (V.ptr 9 0)), (10, tp (vb true)), (13, tp (vb false)), (16, tp (V.ptr 16 0)), (17, tp (vb true)), (21, tp (vb false))] [(4, Blk.mk [u8 4, i64 (ev % 16), u8 ev] true 3 none), (9, Blk.mk [u8 4, i64 (ev % 16), u8 ev] true 3 none), (16, Blk.mk [u8 4, i64 (ev % 16), u8 ev] true 3 none)]) (by kernel_rfl) ⟨(r4 ), trivial⟩ ?_
    refine AWP.seq ?_
    refine AWP.regionT tcok hmix [] [6] [] (os := []) (s' := St.mk [(6, tp (vb (true && bl true (4 == 4 && (ev % 16 == ev % 16 && (ev == ev && true))) && true && true && bl true (4 == 4 && (ev % 16 == ev % 16 && (ev == ev && true))) && true)))] []) (by kernel_rfl) trivial ?_
    refine AWP.ret ?_
    refine ⟨Or.inr rfl, Eq.trans (b := some ([], vb (true && bl true (4 == 4 && (ev % 16 == ev % 16 && (ev == ev && true))) && true && true && bl true (4 == 4 && (ev % 16 == ev % 16 && (ev == ev && true))) && true))) (by kernel_rfl) ?_⟩
    first | rfl | (simp [bl]; done)
theorem f5_of4 {xs : List V} (h : Go.Ab.Rows (Ty tc 7 5) 5 xs) : ∃ f : F5, xs = [u8 f.a0, u8 f.a1, u8 f.a2, u8 f.a3, u8 f.a4] ∧ f.ok := by
  obtain ⟨_, _, rfl, ⟨t0, rfl, d1, d2⟩, hr1⟩ := rows_cons h
  obtain ⟨_, _, rfl, ⟨t1, rfl, e1, e2⟩, hr2⟩ := rows_cons hr1
  obtain ⟨_, _, rfl, ⟨t2, rfl, f1, f2⟩, hr3⟩ := rows_cons hr2
  obtain ⟨_, _, rfl, ⟨t3, rfl, g1, g2⟩, hr4⟩ := rows_cons hr3
  obtain ⟨_, _, rfl, ⟨t4, rfl, i1, i2⟩, hr5⟩ := rows_cons hr4
  obtain rfl := rows_nil hr5
  exact ⟨⟨t0, t1, t2, t3, t4⟩, rfl, d1, Int.lt_add_one_of_le d2, e1, Int.lt_add_one_of_le e2, f1, Int.lt_add_one_of_le f2, g1, Int.lt_add_one_of_le g2, i1, Int.lt_add_one_of_le i2⟩
theorem lad_of4 {x : V} (h : TyV tc 9 25 x) : ∃ l c : F5, x = ladV l c ∧ l.ok ∧ c.ok := by
  obtain ⟨xs, rfl, a, _, rfl, ha, b, _, rfl, hb, rfl⟩ := h
  obtain ⟨l, rfl, hl⟩ := f5_of4 ha
  obtain ⟨c, rfl, hc⟩ := f5_of4 hb
  exact ⟨l, c, rfl, hl, hc⟩
theorem alarm_of4 {x : V} (h : TyV tc 9 29 x) : ∃ lv un ev : Int, x = .agg true [u8 lv, i64 un, u8 ev] ∧ (0 ≤ lv ∧ lv < 256) ∧ (0 ≤ ev ∧ ev < 256) := by
  obtain ⟨xs, rfl, _, _, rfl, ⟨m, rfl, a1, a2⟩, _, _, rfl, ⟨s, rfl, b1, b2⟩, _, _, rfl, ⟨e, rfl, c1, c2⟩, rfl⟩ := h
  exact ⟨m, s, e, rfl, ⟨a1, Int.lt_add_one_of_le a2⟩, ⟨c1, Int.lt_add_one_of_le c2⟩⟩
theorem u8_of4 {x : V} (h : TyV tc 9 5 x) : ∃ n : Int, x = u8 n ∧ 0 ≤ n ∧ n < 256 := by
  obtain ⟨n, e, a1, a2⟩ := h
  cases e
  exact ⟨n, rfl, a1, Int.lt_add_one_of_le a2⟩
theorem law_FdirRests (x y z : V) (hx : TyV tc 9 25 x) (hy : TyV tc 9 29 y) (hz : TyV tc 9 5 z) : Con Tryd.prog 6 [] [x, y, z] [] (vb true) := by
  obtain ⟨l, c, rfl, hl, hc⟩ := lad_of4 hx
  obtain ⟨lv, un, ev, rfl, h1, h2⟩ := alarm_of4 hy
  obtain ⟨inh, rfl, h3⟩ := u8_of4 hz
  have e : lv.tmod 5 = lv % 5 := Int.tmod_eq_emod_of_nonneg h1.1
  rcases (by omega : lv % 5 = 0 ∨ lv % 5 = 1 ∨ lv % 5 = 2 ∨ lv % 5 = 3 ∨ lv % 5 = 4) with h | h | h | h | h
  · exact law_rests_0 inh l c lv un ev h3 hl hc h1 h2 (e.trans h)
  · exact law_rests_1 inh l c lv un ev h3 hl hc h1 h2 (e.trans h)
  · exact law_rests_2 inh l c lv un ev h3 hl hc h1 h2 (e.trans h)
  · exact law_rests_3 inh l c lv un ev h3 hl hc h1 h2 (e.trans h)
  · exact law_rests_4 inh l c lv un ev h3 hl hc h1 h2 (e.trans h)
end Go.Proofs.YtklbonfbiakebaaDoor
