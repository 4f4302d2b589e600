/- Chapter 22: FdirRaises, FdirRests. -/
import Derived.Test.YtklbonfbiakebaaDoorRg
import Derived.Test.YtklbonfbiakebaaDoorFdiCp1
namespace Go.Proofs.YtklbonfbiakebaaDoor
open Go.Ab
set_option linter.unusedSimpArgs false
set_option linter.unusedVariables false
set_option maxHeartbeats 8000000
theorem law_raises_4 (inh : Int) (l c : F5) (lv un ev w : Int) (hi : 0 ≤ inh ∧ inh < 256) (hc : c.ok) (hl : 0 ≤ lv ∧ lv < 5) (hr : aright lv un = true) (hM : lev inh l c (5 - lv).toNat lv (-1) = 4) (hw : 0 ≤ w ∧ w < 256) :
    Con Tryd.prog 7 [] [ladV l c, .agg true [u8 lv, i64 un, u8 ev], u8 inh, u8 w] [] (vb true) := by
  have c1 : Con Tryd.prog 13 [] [ladV l c, .agg true [u8 lv, i64 un, u8 ev], u8 inh] [] (.tup [.agg true [u8 l.a0, u8 l.a1, u8 l.a2, u8 l.a3, u8 l.a4, u8 c.a0, u8 c.a1, u8 c.a2, u8 c.a3, u8 (up8 c.a4)], .agg true [u8 4, i64 un, u8 ev], vb true]) := con_raise inh l c lv un ev _ hi hc hl hr hM
  have c2 := con_rlevel inh l c lv un ev _ hi hc hl hr hM
  have hu : up8 c.a4 = if c.a4 < 255 then c.a4 + 1 else c.a4 := rfl
  obtain ⟨hc1, hc2, hc3, hc4, hc5, hc6, hc7, hc8, hc9, hc0⟩ := hc
  generalize up8 c.a4 = U at *
  rcases (by omega : w = 0 ∨ w = 1 ∨ w = 2 ∨ w = 3 ∨ w = 4 ∨ 5 ≤ w) with rfl | rfl | rfl | rfl | rfl | hw
  · have c3 : Con Tryd.prog 20 [] [ladV l c, u8 0] [] (.agg true [u8 l.a0, u8 l.a1, u8 l.a2, u8 l.a3, u8 l.a4, u8 0, u8 c.a1, u8 c.a2, u8 c.a3, u8 c.a4]) := con_clear l c 0 (by omega)
    refine Con.of (C := ⟨Tryd.prog, tc, Tryd.f7.ntmps⟩) [] tcok Tryd.func7 rfl rfl (by kernel_rfl) (by kernel_rfl) ?_
    refine e0 [2, 3, 4, 5, 8] [4, 5] (by kernel_rfl) ?_
    refine AWP.seq ?_
    refine e1 [(0, ⟨none, some ⟨vb true, [], []⟩⟩)] [2, 3, 4, 5, 8, 17] [4, 5] (by kernel_rfl) (AllP.c (con_awake22 ) AllP.n) ?_
    refine AWP.condF (by kernel_rfl) ?_
    refine AWP.skip ?_
    refine e1 (os := [Con Tryd.prog 13 [] [V.agg true [u8 l.a0, u8 l.a1, u8 l.a2, u8 l.a3, u8 l.a4, u8 c.a0, u8 c.a1, u8 c.a2, u8 c.a3, u8 c.a4], V.agg true [u8 lv, i64 un, u8 ev], u8 inh] [] (V.tup [V.agg true [u8 l.a0, u8 l.a1, u8 l.a2, u8 l.a3, u8 l.a4, u8 c.a0, u8 c.a1, u8 c.a2, u8 c.a3, u8 U], V.agg true [u8 4, i64 un, u8 ev], vb true])]) [(3, ⟨none, some ⟨V.tup [V.agg true [u8 l.a0, u8 l.a1, u8 l.a2, u8 l.a3, u8 l.a4, u8 c.a0, u8 c.a1, u8 c.a2, u8 c.a3, u8 U], V.agg true [u8 4, i64 un, u8 ev], vb true], [], []⟩⟩)] [2, 3, 4, 5, 8, 9, 10, 11] [4, 5, 9, 10] (by kernel_rfl) ⟨(c1 ), trivial⟩ ?_
    refine e1 (os := [Con Tryd.prog 19 [] [V.agg true [u8 l.a0, u8 l.a1, u8 l.a2, u8 l.a3, u8 l.a4], V.agg true [u8 c.a0, u8 c.a1, u8 c.a2, u8 c.a3, u8 c.a4], V.agg true [u8 lv, i64 un, u8 ev], u8 inh] [] (i64 4)]) [(6, ⟨none, some ⟨i64 4, [], []⟩⟩)] [3, 4, 5, 8, 9, 10, 11, 12] [4, 5, 9, 10] (by kernel_rfl) ⟨(c2 ), trivial⟩ ?_
    refine AWP.seq ?_
    refine e0 [3, 4, 5, 8, 9, 10, 11, 12, 36] [4, 5, 9, 10] (by kernel_rfl) ?_
    refine AWP.condF (by kernel_rfl) ?_
    refine AWP.skip ?_
    refine AWP.seq ?_
    refine e0 [3, 4, 5, 8, 9, 10, 12, 38] [4, 5, 9, 10] (by kernel_rfl) ?_
    refine AWP.condF (by kernel_rfl) ?_
    refine AWP.skip ?_
    refine e0 [3, 4, 5, 8, 9, 10, 12, 13] [4, 5, 9, 10, 13] (by kernel_rfl) ?_
    refine AWP.seq ?_
    refine e0 [3, 4, 5, 8, 9, 10, 12, 13, 52] [4, 5, 9, 10, 13] (by kernel_rfl) ?_
    refine AWP.cond (b := decide (c.a4 < 255)) (by kernel_rfl) (fun hq153 => ?_) (fun hq153 => ?_)
    · simp only [decide_eq_true_eq] at hq153
      refine g1 (os := [u8 (IntKind.wrap IntKind.u8 (c.a4 + 1)) = u8 (c.a4 + 1)]) [(4, ⟨some (u8 (c.a4 + 1)), none⟩)] [3, 4, 5, 8, 9, 10, 12, 13] [4, 5, 9, 10, 13] (by kernel_rfl) ⟨(wr_u8 (by omega) (by omega)), trivial⟩ ?_
      refine e0 [3, 4, 5, 8, 9, 10, 12, 13, 14, 15] [4, 5, 9, 10, 13, 14, 15] (by kernel_rfl) ?_
      refine e0 [3, 4, 5, 8, 9, 10, 12, 13, 14, 15] [4, 5, 9, 10, 13, 14, 15] (by kernel_rfl) ?_
      refine AWP.seq ?_
      refine e0 [3, 4, 5, 8, 9, 10, 12, 13, 14, 15, 65] [4, 5, 9, 10, 13, 14, 15] (by kernel_rfl) ?_
      refine AWP.condT (by kernel_rfl) ?_
      refine g0 [3, 4, 5, 8, 9, 10, 12, 13, 14, 15] [4, 5, 9, 10, 13, 14, 15] (by kernel_rfl) ?_
      refine e1 (os := [(bl true (l.a0 == l.a0 && (l.a1 == l.a1 && (l.a2 == l.a2 && (l.a3 == l.a3 && (l.a4 == l.a4 && true)))) && (c.a0 == c.a0 && (c.a1 == c.a1 && (c.a2 == c.a2 && (c.a3 == c.a3 && (U == c.a4 + (1 : Int) && true)))) && true)) && bl true ((4 : Int) == (4 : Int) && (un == un && (ev == ev && true)))) = true → Con Tryd.prog (18 : Nat) [] [V.agg true [u8 l.a0, u8 l.a1, u8 l.a2, u8 l.a3, u8 l.a4, u8 c.a0, u8 c.a1, u8 c.a2, u8 c.a3, u8 c.a4]] [] (V.agg true [u8 l.a0, u8 l.a1, u8 l.a2, u8 l.a3, u8 l.a4, u8 (0 : Int), u8 (0 : Int), u8 (0 : Int), u8 (0 : Int), u8 (0 : Int)]) ∧ True, (bl true (l.a0 == l.a0 && (l.a1 == l.a1 && (l.a2 == l.a2 && (l.a3 == l.a3 && (l.a4 == l.a4 && true)))) && (c.a0 == c.a0 && (c.a1 == c.a1 && (c.a2 == c.a2 && (c.a3 == c.a3 && (U == c.a4 + (1 : Int) && true)))) && true)) && bl true ((4 : Int) == (4 : Int) && (un == un && (ev == ev && true))) && bl true (l.a0 == l.a0 && (l.a1 == l.a1 && (l.a2 == l.a2 && (l.a3 == l.a3 && (l.a4 == l.a4 && true)))) && ((0 : Int) == (0 : Int) && ((0 : Int) == (0 : Int) && ((0 : Int) == (0 : Int) && ((0 : Int) == (0 : Int) && ((0 : Int) == (0 : Int) && true)))) && true))) = true → Con Tryd.prog (20 : Nat) [] [V.agg true [u8 l.a0, u8 l.a1, u8 l.a2, u8 l.a3, u8 l.a4, u8 c.a0, u8 c.a1, u8 c.a2, u8 c.a3, u8 c.a4], u8 (0 : Int)] [] (V.agg true [u8 l.a0, u8 l.a1, u8 l.a2, u8 l.a3, u8 l.a4, u8 (0 : Int), u8 c.a1, u8 c.a2, u8 c.a3, u8 c.a4]) ∧ True]) [(16, ⟨none, some ⟨ladV l (F5.mk 0 0 0 0 0), [], []⟩⟩), (23, ⟨none, some ⟨V.agg true [u8 l.a0, u8 l.a1, u8 l.a2, u8 l.a3, u8 l.a4, u8 0, u8 c.a1, u8 c.a2, u8 c.a3, u8 c.a4], [], []⟩⟩)] [8] [] (by kernel_rfl) ⟨(fun _ => ⟨(con_calm (l) (c)), trivial⟩), (fun _ => ⟨(c3 ), trivial⟩), trivial⟩ ?_
      refine AWP.ret ?_
      refine ⟨Or.inr rfl, Eq.trans (b := some ([], vb (bl true (l.a0 == l.a0 && (l.a1 == l.a1 && (l.a2 == l.a2 && (l.a3 == l.a3 && (l.a4 == l.a4 && true)))) && (c.a0 == c.a0 && (c.a1 == c.a1 && (c.a2 == c.a2 && (c.a3 == c.a3 && (U == c.a4 + 1 && true)))) && true)) && bl true (4 == 4 && (un == un && (ev == ev && true))) && bl true (l.a0 == l.a0 && (l.a1 == l.a1 && (l.a2 == l.a2 && (l.a3 == l.a3 && (l.a4 == l.a4 && true)))) && (0 == 0 && (0 == 0 && (0 == 0 && (0 == 0 && (0 == 0 && true)))) && true)) && bl true (l.a0 == l.a0 && (l.a1 == l.a1 && (l.a2 == l.a2 && (l.a3 == l.a3 && (l.a4 == l.a4 && true)))) && (0 == 0 && (c.a1 == c.a1 && (c.a2 == c.a2 && (c.a3 == c.a3 && (c.a4 == c.a4 && true)))) && true))))) (by kernel_rfl) ?_⟩
      first | rfl | (simp [bl, *]; done) | (simp [bl, *]; omega)
    simp only [decide_eq_false_iff_not] at hq153
    refine AWP.skip ?_
    refine e0 [3, 4, 5, 8, 9, 10, 12, 13, 14, 15] [4, 5, 9, 10, 13, 14, 15] (by kernel_rfl) ?_
    refine e0 [3, 4, 5, 8, 9, 10, 12, 13, 14, 15] [4, 5, 9, 10, 13, 14, 15] (by kernel_rfl) ?_
    refine AWP.seq ?_
    refine e0 [3, 4, 5, 8, 9, 10, 12, 13, 14, 15, 65] [4, 5, 9, 10, 13, 14, 15] (by kernel_rfl) ?_
    refine AWP.condT (by kernel_rfl) ?_
    refine g0 [3, 4, 5, 8, 9, 10, 12, 13, 14, 15] [4, 5, 9, 10, 13, 14, 15] (by kernel_rfl) ?_
    refine e1 (os := [(bl true (l.a0 == l.a0 && (l.a1 == l.a1 && (l.a2 == l.a2 && (l.a3 == l.a3 && (l.a4 == l.a4 && true)))) && (c.a0 == c.a0 && (c.a1 == c.a1 && (c.a2 == c.a2 && (c.a3 == c.a3 && (U == c.a4 && true)))) && true)) && bl true ((4 : Int) == (4 : Int) && (un == un && (ev == ev && true)))) = true → Con Tryd.prog (18 : Nat) [] [V.agg true [u8 l.a0, u8 l.a1, u8 l.a2, u8 l.a3, u8 l.a4, u8 c.a0, u8 c.a1, u8 c.a2, u8 c.a3, u8 c.a4]] [] (V.agg true [u8 l.a0, u8 l.a1, u8 l.a2, u8 l.a3, u8 l.a4, u8 (0 : Int), u8 (0 : Int), u8 (0 : Int), u8 (0 : Int), u8 (0 : Int)]) ∧ True, (bl true (l.a0 == l.a0 && (l.a1 == l.a1 && (l.a2 == l.a2 && (l.a3 == l.a3 && (l.a4 == l.a4 && true)))) && (c.a0 == c.a0 && (c.a1 == c.a1 && (c.a2 == c.a2 && (c.a3 == c.a3 && (U == c.a4 && true)))) && true)) && bl true ((4 : Int) == (4 : Int) && (un == un && (ev == ev && true))) && bl true (l.a0 == l.a0 && (l.a1 == l.a1 && (l.a2 == l.a2 && (l.a3 == l.a3 && (l.a4 == l.a4 && true)))) && ((0 : Int) == (0 : Int) && ((0 : Int) == (0 : Int) && ((0 : Int) == (0 : Int) && ((0 : Int) == (0 : Int) && ((0 : Int) == (0 : Int) && true)))) && true))) = true → Con Tryd.prog (20 : Nat) [] [V.agg true [u8 l.a0, u8 l.a1, u8 l.a2, u8 l.a3, u8 l.a4, u8 c.a0, u8 c.a1, u8 c.a2, u8 c.a3, u8 c.a4], u8 (0 : Int)] [] (V.agg true [u8 l.a0, u8 l.a1, u8 l.a2, u8 l.a3, u8 l.a4, u8 (0 : Int), u8 c.a1, u8 c.a2, u8 c.a3, u8 c.a4]) ∧ True]) [(16, ⟨none, some ⟨ladV l (F5.mk 0 0 0 0 0), [], []⟩⟩), (23, ⟨none, some ⟨V.agg true [u8 l.a0, u8 l.a1, u8 l.a2, u8 l.a3, u8 l.a4, u8 0, u8 c.a1, u8 c.a2, u8 c.a3, u8 c.a4], [], []⟩⟩)] [8] [] (by kernel_rfl) ⟨(fun _ => ⟨(con_calm (l) (c)), trivial⟩), (fun _ => ⟨(c3 ), trivial⟩), trivial⟩ ?_
    refine AWP.ret ?_
    refine ⟨Or.inr rfl, Eq.trans (b := some ([], vb (bl true (l.a0 == l.a0 && (l.a1 == l.a1 && (l.a2 == l.a2 && (l.a3 == l.a3 && (l.a4 == l.a4 && true)))) && (c.a0 == c.a0 && (c.a1 == c.a1 && (c.a2 == c.a2 && (c.a3 == c.a3 && (U == c.a4 && true)))) && true)) && bl true (4 == 4 && (un == un && (ev == ev && true))) && bl true (l.a0 == l.a0 && (l.a1 == l.a1 && (l.a2 == l.a2 && (l.a3 == l.a3 && (l.a4 == l.a4 && true)))) && (0 == 0 && (0 == 0 && (0 == 0 && (0 == 0 && (0 == 0 && true)))) && true)) && bl true (l.a0 == l.a0 && (l.a1 == l.a1 && (l.a2 == l.a2 && (l.a3 == l.a3 && (l.a4 == l.a4 && true)))) && (0 == 0 && (c.a1 == c.a1 && (c.a2 == c.a2 && (c.a3 == c.a3 && (c.a4 == c.a4 && true)))) && true))))) (by kernel_rfl) ?_⟩
    first | rfl | (simp [bl, *]; done) | (simp [bl, *]; omega)
  · have c3 : Con Tryd.prog 20 [] [ladV l c, u8 1] [] (.agg true [u8 l.a0, u8 l.a1, u8 l.a2, u8 l.a3, u8 l.a4, u8 c.a0, u8 0, u8 c.a2, u8 c.a3, u8 c.a4]) := con_clear l c 1 (by omega)
    refine Con.of (C := ⟨Tryd.prog, tc, Tryd.f7.ntmps⟩) [] tcok Tryd.func7 rfl rfl (by kernel_rfl) (by kernel_rfl) ?_
    refine e0 [2, 3, 4, 5, 8] [4, 5] (by kernel_rfl) ?_
    refine AWP.seq ?_
    refine e1 [(0, ⟨none, some ⟨vb true, [], []⟩⟩)] [2, 3, 4, 5, 8, 17] [4, 5] (by kernel_rfl) (AllP.c (con_awake22 ) AllP.n) ?_
    refine AWP.condF (by kernel_rfl) ?_
    refine AWP.skip ?_
    refine e1 (os := [Con Tryd.prog 13 [] [V.agg true [u8 l.a0, u8 l.a1, u8 l.a2, u8 l.a3, u8 l.a4, u8 c.a0, u8 c.a1, u8 c.a2, u8 c.a3, u8 c.a4], V.agg true [u8 lv, i64 un, u8 ev], u8 inh] [] (V.tup [V.agg true [u8 l.a0, u8 l.a1, u8 l.a2, u8 l.a3, u8 l.a4, u8 c.a0, u8 c.a1, u8 c.a2, u8 c.a3, u8 U], V.agg true [u8 4, i64 un, u8 ev], vb true])]) [(3, ⟨none, some ⟨V.tup [V.agg true [u8 l.a0, u8 l.a1, u8 l.a2, u8 l.a3, u8 l.a4, u8 c.a0, u8 c.a1, u8 c.a2, u8 c.a3, u8 U], V.agg true [u8 4, i64 un, u8 ev], vb true], [], []⟩⟩)] [2, 3, 4, 5, 8, 9, 10, 11] [4, 5, 9, 10] (by kernel_rfl) ⟨(c1 ), trivial⟩ ?_
    refine e1 (os := [Con Tryd.prog 19 [] [V.agg true [u8 l.a0, u8 l.a1, u8 l.a2, u8 l.a3, u8 l.a4], V.agg true [u8 c.a0, u8 c.a1, u8 c.a2, u8 c.a3, u8 c.a4], V.agg true [u8 lv, i64 un, u8 ev], u8 inh] [] (i64 4)]) [(6, ⟨none, some ⟨i64 4, [], []⟩⟩)] [3, 4, 5, 8, 9, 10, 11, 12] [4, 5, 9, 10] (by kernel_rfl) ⟨(c2 ), trivial⟩ ?_
    refine AWP.seq ?_
    refine e0 [3, 4, 5, 8, 9, 10, 11, 12, 36] [4, 5, 9, 10] (by kernel_rfl) ?_
    refine AWP.condF (by kernel_rfl) ?_
    refine AWP.skip ?_
    refine AWP.seq ?_
    refine e0 [3, 4, 5, 8, 9, 10, 12, 38] [4, 5, 9, 10] (by kernel_rfl) ?_
    refine AWP.condF (by kernel_rfl) ?_
    refine AWP.skip ?_
    refine e0 [3, 4, 5, 8, 9, 10, 12, 13] [4, 5, 9, 10, 13] (by kernel_rfl) ?_
    refine AWP.seq ?_
    refine e0 [3, 4, 5, 8, 9, 10, 12, 13, 52] [4, 5, 9, 10, 13] (by kernel_rfl) ?_
    refine AWP.cond (b := decide (c.a4 < 255)) (by kernel_rfl) (fun hq159 => ?_) (fun hq159 => ?_)
    · simp only [decide_eq_true_eq] at hq159
      refine g1 (os := [u8 (IntKind.wrap IntKind.u8 (c.a4 + 1)) = u8 (c.a4 + 1)]) [(4, ⟨some (u8 (c.a4 + 1)), none⟩)] [3, 4, 5, 8, 9, 10, 12, 13] [4, 5, 9, 10, 13] (by kernel_rfl) ⟨(wr_u8 (by omega) (by omega)), trivial⟩ ?_
      refine e0 [3, 4, 5, 8, 9, 10, 12, 13, 14, 15] [4, 5, 9, 10, 13, 14, 15] (by kernel_rfl) ?_
      refine e0 [3, 4, 5, 8, 9, 10, 12, 13, 14, 15] [4, 5, 9, 10, 13, 14, 15] (by kernel_rfl) ?_
      refine AWP.seq ?_
      refine e0 [3, 4, 5, 8, 9, 10, 12, 13, 14, 15, 65] [4, 5, 9, 10, 13, 14, 15] (by kernel_rfl) ?_
      refine AWP.condT (by kernel_rfl) ?_
      refine g0 [3, 4, 5, 8, 9, 10, 12, 13, 14, 15] [4, 5, 9, 10, 13, 14, 15] (by kernel_rfl) ?_
      refine e1 (os := [(bl true (l.a0 == l.a0 && (l.a1 == l.a1 && (l.a2 == l.a2 && (l.a3 == l.a3 && (l.a4 == l.a4 && true)))) && (c.a0 == c.a0 && (c.a1 == c.a1 && (c.a2 == c.a2 && (c.a3 == c.a3 && (U == c.a4 + (1 : Int) && true)))) && true)) && bl true ((4 : Int) == (4 : Int) && (un == un && (ev == ev && true)))) = true → Con Tryd.prog (18 : Nat) [] [V.agg true [u8 l.a0, u8 l.a1, u8 l.a2, u8 l.a3, u8 l.a4, u8 c.a0, u8 c.a1, u8 c.a2, u8 c.a3, u8 c.a4]] [] (V.agg true [u8 l.a0, u8 l.a1, u8 l.a2, u8 l.a3, u8 l.a4, u8 (0 : Int), u8 (0 : Int), u8 (0 : Int), u8 (0 : Int), u8 (0 : Int)]) ∧ True, (bl true (l.a0 == l.a0 && (l.a1 == l.a1 && (l.a2 == l.a2 && (l.a3 == l.a3 && (l.a4 == l.a4 && true)))) && (c.a0 == c.a0 && (c.a1 == c.a1 && (c.a2 == c.a2 && (c.a3 == c.a3 && (U == c.a4 + (1 : Int) && true)))) && true)) && bl true ((4 : Int) == (4 : Int) && (un == un && (ev == ev && true))) && bl true (l.a0 == l.a0 && (l.a1 == l.a1 && (l.a2 == l.a2 && (l.a3 == l.a3 && (l.a4 == l.a4 && true)))) && ((0 : Int) == (0 : Int) && ((0 : Int) == (0 : Int) && ((0 : Int) == (0 : Int) && ((0 : Int) == (0 : Int) && ((0 : Int) == (0 : Int) && true)))) && true))) = true → Con Tryd.prog (20 : Nat) [] [V.agg true [u8 l.a0, u8 l.a1, u8 l.a2, u8 l.a3, u8 l.a4, u8 c.a0, u8 c.a1, u8 c.a2, u8 c.a3, u8 c.a4], u8 (1 : Int)] [] (V.agg true [u8 l.a0, u8 l.a1, u8 l.a2, u8 l.a3, u8 l.a4, u8 c.a0, u8 (0 : Int), u8 c.a2, u8 c.a3, u8 c.a4]) ∧ True]) [(16, ⟨none, some ⟨ladV l (F5.mk 0 0 0 0 0), [], []⟩⟩), (23, ⟨none, some ⟨V.agg true [u8 l.a0, u8 l.a1, u8 l.a2, u8 l.a3, u8 l.a4, u8 c.a0, u8 0, u8 c.a2, u8 c.a3, u8 c.a4], [], []⟩⟩)] [8] [] (by kernel_rfl) ⟨(fun _ => ⟨(con_calm (l) (c)), trivial⟩), (fun _ => ⟨(c3 ), trivial⟩), trivial⟩ ?_
      refine AWP.ret ?_
      refine ⟨Or.inr rfl, Eq.trans (b := some ([], vb (bl true (l.a0 == l.a0 && (l.a1 == l.a1 && (l.a2 == l.a2 && (l.a3 == l.a3 && (l.a4 == l.a4 && true)))) && (c.a0 == c.a0 && (c.a1 == c.a1 && (c.a2 == c.a2 && (c.a3 == c.a3 && (U == c.a4 + 1 && true)))) && true)) && bl true (4 == 4 && (un == un && (ev == ev && true))) && bl true (l.a0 == l.a0 && (l.a1 == l.a1 && (l.a2 == l.a2 && (l.a3 == l.a3 && (l.a4 == l.a4 && true)))) && (0 == 0 && (0 == 0 && (0 == 0 && (0 == 0 && (0 == 0 && true)))) && true)) && bl true (l.a0 == l.a0 && (l.a1 == l.a1 && (l.a2 == l.a2 && (l.a3 == l.a3 && (l.a4 == l.a4 && true)))) && (c.a0 == c.a0 && (0 == 0 && (c.a2 == c.a2 && (c.a3 == c.a3 && (c.a4 == c.a4 && true)))) && true))))) (by kernel_rfl) ?_⟩
      first | rfl | (simp [bl, *]; done) | (simp [bl, *]; omega)
    simp only [decide_eq_false_iff_not] at hq159
    refine AWP.skip ?_
    refine e0 [3, 4, 5, 8, 9, 10, 12, 13, 14, 15] [4, 5, 9, 10, 13, 14, 15] (by kernel_rfl) ?_
    refine e0 [3, 4, 5, 8, 9, 10, 12, 13, 14, 15] [4, 5, 9, 10, 13, 14, 15] (by kernel_rfl) ?_
    refine AWP.seq ?_
    refine e0 [3, 4, 5, 8, 9, 10, 12, 13, 14, 15, 65] [4, 5, 9, 10, 13, 14, 15] (by kernel_rfl) ?_
    refine AWP.condT (by kernel_rfl) ?_
    refine g0 [3, 4, 5, 8, 9, 10, 12, 13, 14, 15] [4, 5, 9, 10, 13, 14, 15] (by kernel_rfl) ?_
    refine e1 (os := [(bl true (l.a0 == l.a0 && (l.a1 == l.a1 && (l.a2 == l.a2 && (l.a3 == l.a3 && (l.a4 == l.a4 && true)))) && (c.a0 == c.a0 && (c.a1 == c.a1 && (c.a2 == c.a2 && (c.a3 == c.a3 && (U == c.a4 && true)))) && true)) && bl true ((4 : Int) == (4 : Int) && (un == un && (ev == ev && true)))) = true → Con Tryd.prog (18 : Nat) [] [V.agg true [u8 l.a0, u8 l.a1, u8 l.a2, u8 l.a3, u8 l.a4, u8 c.a0, u8 c.a1, u8 c.a2, u8 c.a3, u8 c.a4]] [] (V.agg true [u8 l.a0, u8 l.a1, u8 l.a2, u8 l.a3, u8 l.a4, u8 (0 : Int), u8 (0 : Int), u8 (0 : Int), u8 (0 : Int), u8 (0 : Int)]) ∧ True, (bl true (l.a0 == l.a0 && (l.a1 == l.a1 && (l.a2 == l.a2 && (l.a3 == l.a3 && (l.a4 == l.a4 && true)))) && (c.a0 == c.a0 && (c.a1 == c.a1 && (c.a2 == c.a2 && (c.a3 == c.a3 && (U == c.a4 && true)))) && true)) && bl true ((4 : Int) == (4 : Int) && (un == un && (ev == ev && true))) && bl true (l.a0 == l.a0 && (l.a1 == l.a1 && (l.a2 == l.a2 && (l.a3 == l.a3 && (l.a4 == l.a4 && true)))) && ((0 : Int) == (0 : Int) && ((0 : Int) == (0 : Int) && ((0 : Int) == (0 : Int) && ((0 : Int) == (0 : Int) && ((0 : Int) == (0 : Int) && true)))) && true))) = true → Con Tryd.prog (20 : Nat) [] [V.agg true [u8 l.a0, u8 l.a1, u8 l.a2, u8 l.a3, u8 l.a4, u8 c.a0, u8 c.a1, u8 c.a2, u8 c.a3, u8 c.a4], u8 (1 : Int)] [] (V.agg true [u8 l.a0, u8 l.a1, u8 l.a2, u8 l.a3, u8 l.a4, u8 c.a0, u8 (0 : Int), u8 c.a2, u8 c.a3, u8 c.a4]) ∧ True]) [(16, ⟨none, some ⟨ladV l (F5.mk 0 0 0 0 0), [], []⟩⟩), (23, ⟨none, some ⟨V.agg true [u8 l.a0, u8 l.a1, u8 l.a2, u8 l.a3, u8 l.a4, u8 c.a0, u8 0, u8 c.a2, u8 c.a3, u8 c.a4], [], []⟩⟩)] [8] [] (by kernel_rfl) ⟨(fun _ => ⟨(con_calm (l) (c)), trivial⟩), (fun _ => ⟨(c3 ), trivial⟩), trivial⟩ ?_
    refine AWP.ret ?_
    refine ⟨Or.inr rfl, Eq.trans (b := some ([], vb (bl true (l.a0 == l.a0 && (l.a1 == l.a1 && (l.a2 == l.a2 && (l.a3 == l.a3 && (l.a4 == l.a4 && true)))) && (c.a0 == c.a0 && (c.a1 == c.a1 && (c.a2 == c.a2 && (c.a3 == c.a3 && (U == c.a4 && true)))) && true)) && bl true (4 == 4 && (un == un && (ev == ev && true))) && bl true (l.a0 == l.a0 && (l.a1 == l.a1 && (l.a2 == l.a2 && (l.a3 == l.a3 && (l.a4 == l.a4 && true)))) && (0 == 0 && (0 == 0 && (0 == 0 && (0 == 0 && (0 == 0 && true)))) && true)) && bl true (l.a0 == l.a0 && (l.a1 == l.a1 && (l.a2 == l.a2 && (l.a3 == l.a3 && (l.a4 == l.a4 && true)))) && (c.a0 == c.a0 && (0 == 0 && (c.a2 == c.a2 && (c.a3 == c.a3 && (c.a4 == c.a4 && true)))) && true))))) (by kernel_rfl) ?_⟩
    first | rfl | (simp [bl, *]; done) | (simp [bl, *]; omega)
  · have c3 : Con Tryd.prog 20 [] [ladV l c, u8 2] [] (.agg true [u8 l.a0, u8 l.a1, u8 l.a2, u8 l.a3, u8 l.a4, u8 c.a0, u8 c.a1, u8 0, u8 c.a3, u8 c.a4]) := con_clear l c 2 (by omega)
    refine Con.of (C := ⟨Tryd.prog, tc, Tryd.f7.ntmps⟩) [] tcok Tryd.func7 rfl rfl (by kernel_rfl) (by kernel_rfl) ?_
    refine e0 [2, 3, 4, 5, 8] [4, 5] (by kernel_rfl) ?_
    refine AWP.seq ?_
    refine e1 [(0, ⟨none, some ⟨vb true, [], []⟩⟩)] [2, 3, 4, 5, 8, 17] [4, 5] (by kernel_rfl) (AllP.c (con_awake22 ) AllP.n) ?_
    refine AWP.condF (by kernel_rfl) ?_
    refine AWP.skip ?_
    refine e1 (os := [Con Tryd.prog 13 [] [V.agg true [u8 l.a0, u8 l.a1, u8 l.a2, u8 l.a3, u8 l.a4, u8 c.a0, u8 c.a1, u8 c.a2, u8 c.a3, u8 c.a4], V.agg true [u8 lv, i64 un, u8 ev], u8 inh] [] (V.tup [V.agg true [u8 l.a0, u8 l.a1, u8 l.a2, u8 l.a3, u8 l.a4, u8 c.a0, u8 c.a1, u8 c.a2, u8 c.a3, u8 U], V.agg true [u8 4, i64 un, u8 ev], vb true])]) [(3, ⟨none, some ⟨V.tup [V.agg true [u8 l.a0, u8 l.a1, u8 l.a2, u8 l.a3, u8 l.a4, u8 c.a0, u8 c.a1, u8 c.a2, u8 c.a3, u8 U], V.agg true [u8 4, i64 un, u8 ev], vb true], [], []⟩⟩)] [2, 3, 4, 5, 8, 9, 10, 11] [4, 5, 9, 10] (by kernel_rfl) ⟨(c1 ), trivial⟩ ?_
    refine e1 (os := [Con Tryd.prog 19 [] [V.agg true [u8 l.a0, u8 l.a1, u8 l.a2, u8 l.a3, u8 l.a4], V.agg true [u8 c.a0, u8 c.a1, u8 c.a2, u8 c.a3, u8 c.a4], V.agg true [u8 lv, i64 un, u8 ev], u8 inh] [] (i64 4)]) [(6, ⟨none, some ⟨i64 4, [], []⟩⟩)] [3, 4, 5, 8, 9, 10, 11, 12] [4, 5, 9, 10] (by kernel_rfl) ⟨(c2 ), trivial⟩ ?_
    refine AWP.seq ?_
    refine e0 [3, 4, 5, 8, 9, 10, 11, 12, 36] [4, 5, 9, 10] (by kernel_rfl) ?_
    refine AWP.condF (by kernel_rfl) ?_
    refine AWP.skip ?_
    refine AWP.seq ?_
    refine e0 [3, 4, 5, 8, 9, 10, 12, 38] [4, 5, 9, 10] (by kernel_rfl) ?_
    refine AWP.condF (by kernel_rfl) ?_
    refine AWP.skip ?_
    refine e0 [3, 4, 5, 8, 9, 10, 12, 13] [4, 5, 9, 10, 13] (by kernel_rfl) ?_
    refine AWP.seq ?_
    refine e0 [3, 4, 5, 8, 9, 10, 12, 13, 52] [4, 5, 9, 10, 13] (by kernel_rfl) ?_
    refine AWP.cond (b := decide (c.a4 < 255)) (by kernel_rfl) (fun hq165 => ?_) (fun hq165 => ?_)
    · simp only [decide_eq_true_eq] at hq165
      refine g1 (os := [u8 (IntKind.wrap IntKind.u8 (c.a4 + 1)) = u8 (c.a4 + 1)]) [(4, ⟨some (u8 (c.a4 + 1)), none⟩)] [3, 4, 5, 8, 9, 10, 12, 13] [4, 5, 9, 10, 13] (by kernel_rfl) ⟨(wr_u8 (by omega) (by omega)), trivial⟩ ?_
      refine e0 [3, 4, 5, 8, 9, 10, 12, 13, 14, 15] [4, 5, 9, 10, 13, 14, 15] (by kernel_rfl) ?_
      refine e0 [3, 4, 5, 8, 9, 10, 12, 13, 14, 15] [4, 5, 9, 10, 13, 14, 15] (by kernel_rfl) ?_
      refine AWP.seq ?_
      refine e0 [3, 4, 5, 8, 9, 10, 12, 13, 14, 15, 65] [4, 5, 9, 10, 13, 14, 15] (by kernel_rfl) ?_
      refine AWP.condT (by kernel_rfl) ?_
      refine g0 [3, 4, 5, 8, 9, 10, 12, 13, 14, 15] [4, 5, 9, 10, 13, 14, 15] (by kernel_rfl) ?_
      refine e1 (os := [(bl true (l.a0 == l.a0 && (l.a1 == l.a1 && (l.a2 == l.a2 && (l.a3 == l.a3 && (l.a4 == l.a4 && true)))) && (c.a0 == c.a0 && (c.a1 == c.a1 && (c.a2 == c.a2 && (c.a3 == c.a3 && (U == c.a4 + (1 : Int) && true)))) && true)) && bl true ((4 : Int) == (4 : Int) && (un == un && (ev == ev && true)))) = true → Con Tryd.prog (18 : Nat) [] [V.agg true [u8 l.a0, u8 l.a1, u8 l.a2, u8 l.a3, u8 l.a4, u8 c.a0, u8 c.a1, u8 c.a2, u8 c.a3, u8 c.a4]] [] (V.agg true [u8 l.a0, u8 l.a1, u8 l.a2, u8 l.a3, u8 l.a4, u8 (0 : Int), u8 (0 : Int), u8 (0 : Int), u8 (0 : Int), u8 (0 : Int)]) ∧ True, (bl true (l.a0 == l.a0 && (l.a1 == l.a1 && (l.a2 == l.a2 && (l.a3 == l.a3 && (l.a4 == l.a4 && true)))) && (c.a0 == c.a0 && (c.a1 == c.a1 && (c.a2 == c.a2 && (c.a3 == c.a3 && (U == c.a4 + (1 : Int) && true)))) && true)) && bl true ((4 : Int) == (4 : Int) && (un == un && (ev == ev && true))) && bl true (l.a0 == l.a0 && (l.a1 == l.a1 && (l.a2 == l.a2 && (l.a3 == l.a3 && (l.a4 == l.a4 && true)))) && ((0 : Int) == (0 : Int) && ((0 : Int) == (0 : Int) && ((0 : Int) == (0 : Int) && ((0 : Int) == (0 : Int) && ((0 : Int) == (0 : Int) && true)))) && true))) = true → Con Tryd.prog (20 : Nat) [] [V.agg true [u8 l.a0, u8 l.a1, u8 l.a2, u8 l.a3, u8 l.a4, u8 c.a0, u8 c.a1, u8 c.a2, u8 c.a3, u8 c.a4], u8 (2 : Int)] [] (V.agg true [u8 l.a0, u8 l.a1, u8 l.a2, u8 l.a3, u8 l.a4, u8 c.a0, u8 c.a1, u8 (0 : Int), u8 c.a3, u8 c.a4]) ∧ True]) [(16, ⟨none, some ⟨ladV l (F5.mk 0 0 0 0 0), [], []⟩⟩), (23, ⟨none, some ⟨V.agg true [u8 l.a0, u8 l.a1, u8 l.a2, u8 l.a3, u8 l.a4, u8 c.a0, u8 c.a1, u8 0, u8 c.a3, u8 c.a4], [], []⟩⟩)] [8] [] (by kernel_rfl) ⟨(fun _ => ⟨(con_calm (l) (c)), trivial⟩), (fun _ => ⟨(c3 ), trivial⟩), trivial⟩ ?_
      refine AWP.ret ?_
      refine ⟨Or.inr rfl, Eq.trans (b := some ([], vb (bl true (l.a0 == l.a0 && (l.a1 == l.a1 && (l.a2 == l.a2 && (l.a3 == l.a3 && (l.a4 == l.a4 && true)))) && (c.a0 == c.a0 && (c.a1 == c.a1 && (c.a2 == c.a2 && (c.a3 == c.a3 && (U == c.a4 + 1 && true)))) && true)) && bl true (4 == 4 && (un == un && (ev == ev && true))) && bl true (l.a0 == l.a0 && (l.a1 == l.a1 && (l.a2 == l.a2 && (l.a3 == l.a3 && (l.a4 == l.a4 && true)))) && (0 == 0 && (0 == 0 && (0 == 0 && (0 == 0 && (0 == 0 && true)))) && true)) && bl true (l.a0 == l.a0 && (l.a1 == l.a1 && (l.a2 == l.a2 && (l.a3 == l.a3 && (l.a4 == l.a4 && true)))) && (c.a0 == c.a0 && (c.a1 == c.a1 && (0 == 0 && (c.a3 == c.a3 && (c.a4 == c.a4 && true)))) && true))))) (by kernel_rfl) ?_⟩
      first | rfl | (simp [bl, *]; done) | (simp [bl, *]; omega)
    simp only [decide_eq_false_iff_not] at hq165
    refine AWP.skip ?_
    refine e0 [3, 4, 5, 8, 9, 10, 12, 13, 14, 15] [4, 5, 9, 10, 13, 14, 15] (by kernel_rfl) ?_
    refine e0 [3, 4, 5, 8, 9, 10, 12, 13, 14, 15] [4, 5, 9, 10, 13, 14, 15] (by kernel_rfl) ?_
    refine AWP.seq ?_
    refine e0 [3, 4, 5, 8, 9, 10, 12, 13, 14, 15, 65] [4, 5, 9, 10, 13, 14, 15] (by kernel_rfl) ?_
    refine AWP.condT (by kernel_rfl) ?_
    refine g0 [3, 4, 5, 8, 9, 10, 12, 13, 14, 15] [4, 5, 9, 10, 13, 14, 15] (by kernel_rfl) ?_
    refine e1 (os := [(bl true (l.a0 == l.a0 && (l.a1 == l.a1 && (l.a2 == l.a2 && (l.a3 == l.a3 && (l.a4 == l.a4 && true)))) && (c.a0 == c.a0 && (c.a1 == c.a1 && (c.a2 == c.a2 && (c.a3 == c.a3 && (U == c.a4 && true)))) && true)) && bl true ((4 : Int) == (4 : Int) && (un == un && (ev == ev && true)))) = true → Con Tryd.prog (18 : Nat) [] [V.agg true [u8 l.a0, u8 l.a1, u8 l.a2, u8 l.a3, u8 l.a4, u8 c.a0, u8 c.a1, u8 c.a2, u8 c.a3, u8 c.a4]] [] (V.agg true [u8 l.a0, u8 l.a1, u8 l.a2, u8 l.a3, u8 l.a4, u8 (0 : Int), u8 (0 : Int), u8 (0 : Int), u8 (0 : Int), u8 (0 : Int)]) ∧ True, (bl true (l.a0 == l.a0 && (l.a1 == l.a1 && (l.a2 == l.a2 && (l.a3 == l.a3 && (l.a4 == l.a4 && true)))) && (c.a0 == c.a0 && (c.a1 == c.a1 && (c.a2 == c.a2 && (c.a3 == c.a3 && (U == c.a4 && true)))) && true)) && bl true ((4 : Int) == (4 : Int) && (un == un && (ev == ev && true))) && bl true (l.a0 == l.a0 && (l.a1 == l.a1 && (l.a2 == l.a2 && (l.a3 == l.a3 && (l.a4 == l.a4 && true)))) && ((0 : Int) == (0 : Int) && ((0 : Int) == (0 : Int) && ((0 : Int) == (0 : Int) && ((0 : Int) == (0 : Int) && ((0 : Int) == (0 : Int) && true)))) && true))) = true → Con Tryd.prog (20 : Nat) [] [V.agg true [u8 l.a0, u8 l.a1, u8 l.a2, u8 l.a3, u8 l.a4, u8 c.a0, u8 c.a1, u8 c.a2, u8 c.a3, u8 c.a4], u8 (2 : Int)] [] (V.agg true [u8 l.a0, u8 l.a1, u8 l.a2, u8 l.a3, u8 l.a4, u8 c.a0, u8 c.a1, u8 (0 : Int), u8 c.a3, u8 c.a4]) ∧ True]) [(16, ⟨none, some ⟨ladV l (F5.mk 0 0 0 0 0), [], []⟩⟩), (23, ⟨none, some ⟨V.agg true [u8 l.a0, u8 l.a1, u8 l.a2, u8 l.a3, u8 l.a4, u8 c.a0, u8 c.a1, u8 0, u8 c.a3, u8 c.a4], [], []⟩⟩)] [8] [] (by kernel_rfl) ⟨(fun _ => ⟨(con_calm (l) (c)), trivial⟩), (fun _ => ⟨(c3 ), trivial⟩), trivial⟩ ?_
    refine AWP.ret ?_
    refine ⟨Or.inr rfl, Eq.trans (b := some ([], vb (bl true (l.a0 == l.a0 && (l.a1 == l.a1 && (l.a2 == l.a2 && (l.a3 == l.a3 && (l.a4 == l.a4 && true)))) && (c.a0 == c.a0 && (c.a1 == c.a1 && (c.a2 == c.a2 && (c.a3 == c.a3 && (U == c.a4 && true)))) && true)) && bl true (4 == 4 && (un == un && (ev == ev && true))) && bl true (l.a0 == l.a0 && (l.a1 == l.a1 && (l.a2 == l.a2 && (l.a3 == l.a3 && (l.a4 == l.a4 && true)))) && (0 == 0 && (0 == 0 && (0 == 0 && (0 == 0 && (0 == 0 && true)))) && true)) && bl true (l.a0 == l.a0 && (l.a1 == l.a1 && (l.a2 == l.a2 && (l.a3 == l.a3 && (l.a4 == l.a4 && true)))) && (c.a0 == c.a0 && (c.a1 == c.a1 && (0 == 0 && (c.a3 == c.a3 && (c.a4 == c.a4 && true)))) && true))))) (by kernel_rfl) ?_⟩
    first | rfl | (simp [bl, *]; done) | (simp [bl, *]; omega)
  · have c3 : Con Tryd.prog 20 [] [ladV l c, u8 3] [] (.agg true [u8 l.a0, u8 l.a1, u8 l.a2, u8 l.a3, u8 l.a4, u8 c.a0, u8 c.a1, u8 c.a2, u8 0, u8 c.a4]) := con_clear l c 3 (by omega)
    refine Con.of (C := ⟨Tryd.prog, tc, Tryd.f7.ntmps⟩) [] tcok Tryd.func7 rfl rfl (by kernel_rfl) (by kernel_rfl) ?_
    refine e0 [2, 3, 4, 5, 8] [4, 5] (by kernel_rfl) ?_
    refine AWP.seq ?_
    refine e1 [(0, ⟨none, some ⟨vb true, [], []⟩⟩)] [2, 3, 4, 5, 8, 17] [4, 5] (by kernel_rfl) (AllP.c (con_awake22 ) AllP.n) ?_
    refine AWP.condF (by kernel_rfl) ?_
    refine AWP.skip ?_
    refine e1 (os := [Con Tryd.prog 13 [] [V.agg true [u8 l.a0, u8 l.a1, u8 l.a2, u8 l.a3, u8 l.a4, u8 c.a0, u8 c.a1, u8 c.a2, u8 c.a3, u8 c.a4], V.agg true [u8 lv, i64 un, u8 ev], u8 inh] [] (V.tup [V.agg true [u8 l.a0, u8 l.a1, u8 l.a2, u8 l.a3, u8 l.a4, u8 c.a0, u8 c.a1, u8 c.a2, u8 c.a3, u8 U], V.agg true [u8 4, i64 un, u8 ev], vb true])]) [(3, ⟨none, some ⟨V.tup [V.agg true [u8 l.a0, u8 l.a1, u8 l.a2, u8 l.a3, u8 l.a4, u8 c.a0, u8 c.a1, u8 c.a2, u8 c.a3, u8 U], V.agg true [u8 4, i64 un, u8 ev], vb true], [], []⟩⟩)] [2, 3, 4, 5, 8, 9, 10, 11] [4, 5, 9, 10] (by kernel_rfl) ⟨(c1 ), trivial⟩ ?_
    refine e1 (os := [Con Tryd.prog 19 [] [V.agg true [u8 l.a0, u8 l.a1, u8 l.a2, u8 l.a3, u8 l.a4], V.agg true [u8 c.a0, u8 c.a1, u8 c.a2, u8 c.a3, u8 c.a4], V.agg true [u8 lv, i64 un, u8 ev], u8 inh] [] (i64 4)]) [(6, ⟨none, some ⟨i64 4, [], []⟩⟩)] [3, 4, 5, 8, 9, 10, 11, 12] [4, 5, 9, 10] (by kernel_rfl) ⟨(c2 ), trivial⟩ ?_
    refine AWP.seq ?_
    refine e0 [3, 4, 5, 8, 9, 10, 11, 12, 36] [4, 5, 9, 10] (by kernel_rfl) ?_
    refine AWP.condF (by kernel_rfl) ?_
    refine AWP.skip ?_
    refine AWP.seq ?_
    refine e0 [3, 4, 5, 8, 9, 10, 12, 38] [4, 5, 9, 10] (by kernel_rfl) ?_
    refine AWP.condF (by kernel_rfl) ?_
    refine AWP.skip ?_
    refine e0 [3, 4, 5, 8, 9, 10, 12, 13] [4, 5, 9, 10, 13] (by kernel_rfl) ?_
    refine AWP.seq ?_
    refine e0 [3, 4, 5, 8, 9, 10, 12, 13, 52] [4, 5, 9, 10, 13] (by kernel_rfl) ?_
    refine AWP.cond (b := decide (c.a4 < 255)) (by kernel_rfl) (fun hq171 => ?_) (fun hq171 => ?_)
    · simp only [decide_eq_true_eq] at hq171
      refine g1 (os := [u8 (IntKind.wrap IntKind.u8 (c.a4 + 1)) = u8 (c.a4 + 1)]) [(4, ⟨some (u8 (c.a4 + 1)), none⟩)] [3, 4, 5, 8, 9, 10, 12, 13] [4, 5, 9, 10, 13] (by kernel_rfl) ⟨(wr_u8 (by omega) (by omega)), trivial⟩ ?_
      refine e0 [3, 4, 5, 8, 9, 10, 12, 13, 14, 15] [4, 5, 9, 10, 13, 14, 15] (by kernel_rfl) ?_
      refine e0 [3, 4, 5, 8, 9, 10, 12, 13, 14, 15] [4, 5, 9, 10, 13, 14, 15] (by kernel_rfl) ?_
      refine AWP.seq ?_
      refine e0 [3, 4, 5, 8, 9, 10, 12, 13, 14, 15, 65] [4, 5, 9, 10, 13, 14, 15] (by kernel_rfl) ?_
      refine AWP.condT (by kernel_rfl) ?_
      refine g0 [3, 4, 5, 8, 9, 10, 12, 13, 14, 15] [4, 5, 9, 10, 13, 14, 15] (by kernel_rfl) ?_
      refine e1 (os := [(bl true (l.a0 == l.a0 && (l.a1 == l.a1 && (l.a2 == l.a2 && (l.a3 == l.a3 && (l.a4 == l.a4 && true)))) && (c.a0 == c.a0 && (c.a1 == c.a1 && (c.a2 == c.a2 && (c.a3 == c.a3 && (U == c.a4 + (1 : Int) && true)))) && true)) && bl true ((4 : Int) == (4 : Int) && (un == un && (ev == ev && true)))) = true → Con Tryd.prog (18 : Nat) [] [V.agg true [u8 l.a0, u8 l.a1, u8 l.a2, u8 l.a3, u8 l.a4, u8 c.a0, u8 c.a1, u8 c.a2, u8 c.a3, u8 c.a4]] [] (V.agg true [u8 l.a0, u8 l.a1, u8 l.a2, u8 l.a3, u8 l.a4, u8 (0 : Int), u8 (0 : Int), u8 (0 : Int), u8 (0 : Int), u8 (0 : Int)]) ∧ True, (bl true (l.a0 == l.a0 && (l.a1 == l.a1 && (l.a2 == l.a2 && (l.a3 == l.a3 && (l.a4 == l.a4 && true)))) && (c.a0 == c.a0 && (c.a1 == c.a1 && (c.a2 == c.a2 && (c.a3 == c.a3 && (U == c.a4 + (1 : Int) && true)))) && true)) && bl true ((4 : Int) == (4 : Int) && (un == un && (ev == ev && true))) && bl true (l.a0 == l.a0 && (l.a1 == l.a1 && (l.a2 == l.a2 && (l.a3 == l.a3 && (l.a4 == l.a4 && true)))) && ((0 : Int) == (0 : Int) && ((0 : Int) == (0 : Int) && ((0 : Int) == (0 : Int) && ((0 : Int) == (0 : Int) && ((0 : Int) == (0 : Int) && true)))) && true))) = true → Con Tryd.prog (20 : Nat) [] [V.agg true [u8 l.a0, u8 l.a1, u8 l.a2, u8 l.a3, u8 l.a4, u8 c.a0, u8 c.a1, u8 c.a2, u8 c.a3, u8 c.a4], u8 (3 : Int)] [] (V.agg true [u8 l.a0, u8 l.a1, u8 l.a2, u8 l.a3, u8 l.a4, u8 c.a0, u8 c.a1, u8 c.a2, u8 (0 : Int), u8 c.a4]) ∧ True]) [(16, ⟨none, some ⟨ladV l (F5.mk 0 0 0 0 0), [], []⟩⟩), (23, ⟨none, some ⟨V.agg true [u8 l.a0, u8 l.a1, u8 l.a2, u8 l.a3, u8 l.a4, u8 c.a0, u8 c.a1, u8 c.a2, u8 0, u8 c.a4], [], []⟩⟩)] [8] [] (by kernel_rfl) ⟨(fun _ => ⟨(con_calm (l) (c)), trivial⟩), (fun _ => ⟨(c3 ), trivial⟩), trivial⟩ ?_
      refine AWP.ret ?_
      refine ⟨Or.inr rfl, Eq.trans (b := some ([], vb (bl true (l.a0 == l.a0 && (l.a1 == l.a1 && (l.a2 == l.a2 && (l.a3 == l.a3 && (l.a4 == l.a4 && true)))) && (c.a0 == c.a0 && (c.a1 == c.a1 && (c.a2 == c.a2 && (c.a3 == c.a3 && (U == c.a4 + 1 && true)))) && true)) && bl true (4 == 4 && (un == un && (ev == ev && true))) && bl true (l.a0 == l.a0 && (l.a1 == l.a1 && (l.a2 == l.a2 && (l.a3 == l.a3 && (l.a4 == l.a4 && true)))) && (0 == 0 && (0 == 0 && (0 == 0 && (0 == 0 && (0 == 0 && true)))) && true)) && bl true (l.a0 == l.a0 && (l.a1 == l.a1 && (l.a2 == l.a2 && (l.a3 == l.a3 && (l.a4 == l.a4 && true)))) && (c.a0 == c.a0 && (c.a1 == c.a1 && (c.a2 == c.a2 && (0 == 0 && (c.a4 == c.a4 && true)))) && true))))) (by kernel_rfl) ?_⟩
      first | rfl | (simp [bl, *]; done) | (simp [bl, *]; omega)
    simp only [decide_eq_false_iff_not] at hq171
    refine AWP.skip ?_
    refine e0 [3, 4, 5, 8, 9, 10, 12, 13, 14, 15] [4, 5, 9, 10, 13, 14, 15] (by kernel_rfl) ?_
    refine e0 [3, 4, 5, 8, 9, 10, 12, 13, 14, 15] [4, 5, 9, 10, 13, 14, 15] (by kernel_rfl) ?_
    refine AWP.seq ?_
    refine e0 [3, 4, 5, 8, 9, 10, 12, 13, 14, 15, 65] [4, 5, 9, 10, 13, 14, 15] (by kernel_rfl) ?_
    refine AWP.condT (by kernel_rfl) ?_
    refine g0 [3, 4, 5, 8, 9, 10, 12, 13, 14, 15] [4, 5, 9, 10, 13, 14, 15] (by kernel_rfl) ?_
    refine e1 (os := [(bl true (l.a0 == l.a0 && (l.a1 == l.a1 && (l.a2 == l.a2 && (l.a3 == l.a3 && (l.a4 == l.a4 && true)))) && (c.a0 == c.a0 && (c.a1 == c.a1 && (c.a2 == c.a2 && (c.a3 == c.a3 && (U == c.a4 && true)))) && true)) && bl true ((4 : Int) == (4 : Int) && (un == un && (ev == ev && true)))) = true → Con Tryd.prog (18 : Nat) [] [V.agg true [u8 l.a0, u8 l.a1, u8 l.a2, u8 l.a3, u8 l.a4, u8 c.a0, u8 c.a1, u8 c.a2, u8 c.a3, u8 c.a4]] [] (V.agg true [u8 l.a0, u8 l.a1, u8 l.a2, u8 l.a3, u8 l.a4, u8 (0 : Int), u8 (0 : Int), u8 (0 : Int), u8 (0 : Int), u8 (0 : Int)]) ∧ True, (bl true (l.a0 == l.a0 && (l.a1 == l.a1 && (l.a2 == l.a2 && (l.a3 == l.a3 && (l.a4 == l.a4 && true)))) && (c.a0 == c.a0 && (c.a1 == c.a1 && (c.a2 == c.a2 && (c.a3 == c.a3 && (U == c.a4 && true)))) && true)) && bl true ((4 : Int) == (4 : Int) && (un == un && (ev == ev && true))) && bl true (l.a0 == l.a0 && (l.a1 == l.a1 && (l.a2 == l.a2 && (l.a3 == l.a3 && (l.a4 == l.a4 && true)))) && ((0 : Int) == (0 : Int) && ((0 : Int) == (0 : Int) && ((0 : Int) == (0 : Int) && ((0 : Int) == (0 : Int) && ((0 : Int) == (0 : Int) && true)))) && true))) = true → Con Tryd.prog (20 : Nat) [] [V.agg true [u8 l.a0, u8 l.a1, u8 l.a2, u8 l.a3, u8 l.a4, u8 c.a0, u8 c.a1, u8 c.a2, u8 c.a3, u8 c.a4], u8 (3 : Int)] [] (V.agg true [u8 l.a0, u8 l.a1, u8 l.a2, u8 l.a3, u8 l.a4, u8 c.a0, u8 c.a1, u8 c.a2, u8 (0 : Int), u8 c.a4]) ∧ True]) [(16, ⟨none, some ⟨ladV l (F5.mk 0 0 0 0 0), [], []⟩⟩), (23, ⟨none, some ⟨V.agg true [u8 l.a0, u8 l.a1, u8 l.a2, u8 l.a3, u8 l.a4, u8 c.a0, u8 c.a1, u8 c.a2, u8 0, u8 c.a4], [], []⟩⟩)] [8] [] (by kernel_rfl) ⟨(fun _ => ⟨(con_calm (l) (c)), trivial⟩), (fun _ => ⟨(c3 ), trivial⟩), trivial⟩ ?_
    refine AWP.ret ?_
    refine ⟨Or.inr rfl, Eq.trans (b := some ([], vb (bl true (l.a0 == l.a0 && (l.a1 == l.a1 && (l.a2 == l.a2 && (l.a3 == l.a3 && (l.a4 == l.a4 && true)))) && (c.a0 == c.a0 && (c.a1 == c.a1 && (c.a2 == c.a2 && (c.a3 == c.a3 && (U == c.a4 && true)))) && true)) && bl true (4 == 4 && (un == un && (ev == ev && true))) && bl true (l.a0 == l.a0 && (l.a1 == l.a1 && (l.a2 == l.a2 && (l.a3 == l.a3 && (l.a4 == l.a4 && true)))) && (0 == 0 && (0 == 0 && (0 == 0 && (0 == 0 && (0 == 0 && true)))) && true)) && bl true (l.a0 == l.a0 && (l.a1 == l.a1 && (l.a2 == l.a2 && (l.a3 == l.a3 && (l.a4 == l.a4 && true)))) && (c.a0 == c.a0 && (c.a1 == c.a1 && (c.a2 == c.a2 && (0 == 0 && (c.a4 == c.a4 && true)))) && true))))) (by kernel_rfl) ?_⟩
    first | rfl | (simp [bl, *]; done) | (simp [bl, *]; omega)
  · have c3 : Con Tryd.prog 20 [] [ladV l c, u8 4] [] (.agg true [u8 l.a0, u8 l.a1, u8 l.a2, u8 l.a3, u8 l.a4, u8 c.a0, u8 c.a1, u8 c.a2, u8 c.a3, u8 0]) := con_clear l c 4 (by omega)
    refine Con.of (C := ⟨Tryd.prog, tc, Tryd.f7.ntmps⟩) [] tcok Tryd.func7 rfl rfl (by kernel_rfl) (by kernel_rfl) ?_
    refine e0 [2, 3, 4, 5, 8] [4, 5] (by kernel_rfl) ?_
    refine AWP.seq ?_
    refine e1 [(0, ⟨none, some ⟨vb true, [], []⟩⟩)] [2, 3, 4, 5, 8, 17] [4, 5] (by kernel_rfl) (AllP.c (con_awake22 ) AllP.n) ?_
    refine AWP.condF (by kernel_rfl) ?_
    refine AWP.skip ?_
    refine e1 (os := [Con Tryd.prog 13 [] [V.agg true [u8 l.a0, u8 l.a1, u8 l.a2, u8 l.a3, u8 l.a4, u8 c.a0, u8 c.a1, u8 c.a2, u8 c.a3, u8 c.a4], V.agg true [u8 lv, i64 un, u8 ev], u8 inh] [] (V.tup [V.agg true [u8 l.a0, u8 l.a1, u8 l.a2, u8 l.a3, u8 l.a4, u8 c.a0, u8 c.a1, u8 c.a2, u8 c.a3, u8 U], V.agg true [u8 4, i64 un, u8 ev], vb true])]) [(3, ⟨none, some ⟨V.tup [V.agg true [u8 l.a0, u8 l.a1, u8 l.a2, u8 l.a3, u8 l.a4, u8 c.a0, u8 c.a1, u8 c.a2, u8 c.a3, u8 U], V.agg true [u8 4, i64 un, u8 ev], vb true], [], []⟩⟩)] [2, 3, 4, 5, 8, 9, 10, 11] [4, 5, 9, 10] (by kernel_rfl) ⟨(c1 ), trivial⟩ ?_
    refine e1 (os := [Con Tryd.prog 19 [] [V.agg true [u8 l.a0, u8 l.a1, u8 l.a2, u8 l.a3, u8 l.a4], V.agg true [u8 c.a0, u8 c.a1, u8 c.a2, u8 c.a3, u8 c.a4], V.agg true [u8 lv, i64 un, u8 ev], u8 inh] [] (i64 4)]) [(6, ⟨none, some ⟨i64 4, [], []⟩⟩)] [3, 4, 5, 8, 9, 10, 11, 12] [4, 5, 9, 10] (by kernel_rfl) ⟨(c2 ), trivial⟩ ?_
    refine AWP.seq ?_
    refine e0 [3, 4, 5, 8, 9, 10, 11, 12, 36] [4, 5, 9, 10] (by kernel_rfl) ?_
    refine AWP.condF (by kernel_rfl) ?_
    refine AWP.skip ?_
    refine AWP.seq ?_
    refine e0 [3, 4, 5, 8, 9, 10, 12, 38] [4, 5, 9, 10] (by kernel_rfl) ?_
    refine AWP.condF (by kernel_rfl) ?_
    refine AWP.skip ?_
    refine e0 [3, 4, 5, 8, 9, 10, 12, 13] [4, 5, 9, 10, 13] (by kernel_rfl) ?_
    refine AWP.seq ?_
    refine e0 [3, 4, 5, 8, 9, 10, 12, 13, 52] [4, 5, 9, 10, 13] (by kernel_rfl) ?_
    refine AWP.cond (b := decide (c.a4 < 255)) (by kernel_rfl) (fun hq177 => ?_) (fun hq177 => ?_)
    · simp only [decide_eq_true_eq] at hq177
      refine g1 (os := [u8 (IntKind.wrap IntKind.u8 (c.a4 + 1)) = u8 (c.a4 + 1)]) [(4, ⟨some (u8 (c.a4 + 1)), none⟩)] [3, 4, 5, 8, 9, 10, 12, 13] [4, 5, 9, 10, 13] (by kernel_rfl) ⟨(wr_u8 (by omega) (by omega)), trivial⟩ ?_
      refine e0 [3, 4, 5, 8, 9, 10, 12, 13, 14, 15] [4, 5, 9, 10, 13, 14, 15] (by kernel_rfl) ?_
      refine e0 [3, 4, 5, 8, 9, 10, 12, 13, 14, 15] [4, 5, 9, 10, 13, 14, 15] (by kernel_rfl) ?_
      refine AWP.seq ?_
      refine e0 [3, 4, 5, 8, 9, 10, 12, 13, 14, 15, 65] [4, 5, 9, 10, 13, 14, 15] (by kernel_rfl) ?_
      refine AWP.condT (by kernel_rfl) ?_
      refine g0 [3, 4, 5, 8, 9, 10, 12, 13, 14, 15] [4, 5, 9, 10, 13, 14, 15] (by kernel_rfl) ?_
      refine e1 (os := [(bl true (l.a0 == l.a0 && (l.a1 == l.a1 && (l.a2 == l.a2 && (l.a3 == l.a3 && (l.a4 == l.a4 && true)))) && (c.a0 == c.a0 && (c.a1 == c.a1 && (c.a2 == c.a2 && (c.a3 == c.a3 && (U == c.a4 + (1 : Int) && true)))) && true)) && bl true ((4 : Int) == (4 : Int) && (un == un && (ev == ev && true)))) = true → Con Tryd.prog (18 : Nat) [] [V.agg true [u8 l.a0, u8 l.a1, u8 l.a2, u8 l.a3, u8 l.a4, u8 c.a0, u8 c.a1, u8 c.a2, u8 c.a3, u8 c.a4]] [] (V.agg true [u8 l.a0, u8 l.a1, u8 l.a2, u8 l.a3, u8 l.a4, u8 (0 : Int), u8 (0 : Int), u8 (0 : Int), u8 (0 : Int), u8 (0 : Int)]) ∧ True, (bl true (l.a0 == l.a0 && (l.a1 == l.a1 && (l.a2 == l.a2 && (l.a3 == l.a3 && (l.a4 == l.a4 && true)))) && (c.a0 == c.a0 && (c.a1 == c.a1 && (c.a2 == c.a2 && (c.a3 == c.a3 && (U == c.a4 + (1 : Int) && true)))) && true)) && bl true ((4 : Int) == (4 : Int) && (un == un && (ev == ev && true))) && bl true (l.a0 == l.a0 && (l.a1 == l.a1 && (l.a2 == l.a2 && (l.a3 == l.a3 && (l.a4 == l.a4 && true)))) && ((0 : Int) == (0 : Int) && ((0 : Int) == (0 : Int) && ((0 : Int) == (0 : Int) && ((0 : Int) == (0 : Int) && ((0 : Int) == (0 : Int) && true)))) && true))) = true → Con Tryd.prog (20 : Nat) [] [V.agg true [u8 l.a0, u8 l.a1, u8 l.a2, u8 l.a3, u8 l.a4, u8 c.a0, u8 c.a1, u8 c.a2, u8 c.a3, u8 c.a4], u8 (4 : Int)] [] (V.agg true [u8 l.a0, u8 l.a1, u8 l.a2, u8 l.a3, u8 l.a4, u8 c.a0, u8 c.a1, u8 c.a2, u8 c.a3, u8 (0 : Int)]) ∧ True]) [(16, ⟨none, some ⟨ladV l (F5.mk 0 0 0 0 0), [], []⟩⟩), (23, ⟨none, some ⟨V.agg true [u8 l.a0, u8 l.a1, u8 l.a2, u8 l.a3, u8 l.a4, u8 c.a0, u8 c.a1, u8 c.a2, u8 c.a3, u8 0], [], []⟩⟩)] [8] [] (by kernel_rfl) ⟨(fun _ => ⟨(con_calm (l) (c)), trivial⟩), (fun _ => ⟨(c3 ), trivial⟩), trivial⟩ ?_
      refine AWP.ret ?_
      refine ⟨Or.inr rfl, Eq.trans (b := some ([], vb (bl true (l.a0 == l.a0 && (l.a1 == l.a1 && (l.a2 == l.a2 && (l.a3 == l.a3 && (l.a4 == l.a4 && true)))) && (c.a0 == c.a0 && (c.a1 == c.a1 && (c.a2 == c.a2 && (c.a3 == c.a3 && (U == c.a4 + 1 && true)))) && true)) && bl true (4 == 4 && (un == un && (ev == ev && true))) && bl true (l.a0 == l.a0 && (l.a1 == l.a1 && (l.a2 == l.a2 && (l.a3 == l.a3 && (l.a4 == l.a4 && true)))) && (0 == 0 && (0 == 0 && (0 == 0 && (0 == 0 && (0 == 0 && true)))) && true)) && bl true (l.a0 == l.a0 && (l.a1 == l.a1 && (l.a2 == l.a2 && (l.a3 == l.a3 && (l.a4 == l.a4 && true)))) && (c.a0 == c.a0 && (c.a1 == c.a1 && (c.a2 == c.a2 && (c.a3 == c.a3 && (0 == 0 && true)))) && true))))) (by kernel_rfl) ?_⟩
      first | rfl | (simp [bl, *]; done) | (simp [bl, *]; omega)
    simp only [decide_eq_false_iff_not] at hq177
    refine AWP.skip ?_
    refine e0 [3, 4, 5, 8, 9, 10, 12, 13, 14, 15] [4, 5, 9, 10, 13, 14, 15] (by kernel_rfl) ?_
    refine e0 [3, 4, 5, 8, 9, 10, 12, 13, 14, 15] [4, 5, 9, 10, 13, 14, 15] (by kernel_rfl) ?_
    refine AWP.seq ?_
    refine e0 [3, 4, 5, 8, 9, 10, 12, 13, 14, 15, 65] [4, 5, 9, 10, 13, 14, 15] (by kernel_rfl) ?_
    refine AWP.condT (by kernel_rfl) ?_
    refine g0 [3, 4, 5, 8, 9, 10, 12, 13, 14, 15] [4, 5, 9, 10, 13, 14, 15] (by kernel_rfl) ?_
    refine e1 (os := [(bl true (l.a0 == l.a0 && (l.a1 == l.a1 && (l.a2 == l.a2 && (l.a3 == l.a3 && (l.a4 == l.a4 && true)))) && (c.a0 == c.a0 && (c.a1 == c.a1 && (c.a2 == c.a2 && (c.a3 == c.a3 && (U == c.a4 && true)))) && true)) && bl true ((4 : Int) == (4 : Int) && (un == un && (ev == ev && true)))) = true → Con Tryd.prog (18 : Nat) [] [V.agg true [u8 l.a0, u8 l.a1, u8 l.a2, u8 l.a3, u8 l.a4, u8 c.a0, u8 c.a1, u8 c.a2, u8 c.a3, u8 c.a4]] [] (V.agg true [u8 l.a0, u8 l.a1, u8 l.a2, u8 l.a3, u8 l.a4, u8 (0 : Int), u8 (0 : Int), u8 (0 : Int), u8 (0 : Int), u8 (0 : Int)]) ∧ True, (bl true (l.a0 == l.a0 && (l.a1 == l.a1 && (l.a2 == l.a2 && (l.a3 == l.a3 && (l.a4 == l.a4 && true)))) && (c.a0 == c.a0 && (c.a1 == c.a1 && (c.a2 == c.a2 && (c.a3 == c.a3 && (U == c.a4 && true)))) && true)) && bl true ((4 : Int) == (4 : Int) && (un == un && (ev == ev && true))) && bl true (l.a0 == l.a0 && (l.a1 == l.a1 && (l.a2 == l.a2 && (l.a3 == l.a3 && (l.a4 == l.a4 && true)))) && ((0 : Int) == (0 : Int) && ((0 : Int) == (0 : Int) && ((0 : Int) == (0 : Int) && ((0 : Int) == (0 : Int) && ((0 : Int) == (0 : Int) && true)))) && true))) = true → Con Tryd.prog (20 : Nat) [] [V.agg true [u8 l.a0, u8 l.a1, u8 l.a2, u8 l.a3, u8 l.a4, u8 c.a0, u8 c.a1, u8 c.a2, u8 c.a3, u8 c.a4], u8 (4 : Int)] [] (V.agg true [u8 l.a0, u8 l.a1, u8 l.a2, u8 l.a3, u8 l.a4, u8 c.a0, u8 c.a1, u8 c.a2, u8 c.a3, u8 (0 : Int)]) ∧ True]) [(16, ⟨none, some ⟨ladV l (F5.mk 0 0 0 0 0), [], []⟩⟩), (23, ⟨none, some ⟨V.agg true [u8 l.a0, u8 l.a1, u8 l.a2, u8 l.a3, u8 l.a4, u8 c.a0, u8 c.a1, u8 c.a2, u8 c.a3, u8 0], [], []⟩⟩)] [8] [] (by kernel_rfl) ⟨(fun _ => ⟨(con_calm (l) (c)), trivial⟩), (fun _ => ⟨(c3 ), trivial⟩), trivial⟩ ?_
    refine AWP.ret ?_
    refine ⟨Or.inr rfl, Eq.trans (b := some ([], vb (bl true (l.a0 == l.a0 && (l.a1 == l.a1 && (l.a2 == l.a2 && (l.a3 == l.a3 && (l.a4 == l.a4 && true)))) && (c.a0 == c.a0 && (c.a1 == c.a1 && (c.a2 == c.a2 && (c.a3 == c.a3 && (U == c.a4 && true)))) && true)) && bl true (4 == 4 && (un == un && (ev == ev && true))) && bl true (l.a0 == l.a0 && (l.a1 == l.a1 && (l.a2 == l.a2 && (l.a3 == l.a3 && (l.a4 == l.a4 && true)))) && (0 == 0 && (0 == 0 && (0 == 0 && (0 == 0 && (0 == 0 && true)))) && true)) && bl true (l.a0 == l.a0 && (l.a1 == l.a1 && (l.a2 == l.a2 && (l.a3 == l.a3 && (l.a4 == l.a4 && true)))) && (c.a0 == c.a0 && (c.a1 == c.a1 && (c.a2 == c.a2 && (c.a3 == c.a3 && (0 == 0 && true)))) && true))))) (by kernel_rfl) ?_⟩
    first | rfl | (simp [bl, *]; done) | (simp [bl, *]; omega)
  · have c3 := con_clear_no l c w hw
    refine Con.of (C := ⟨Tryd.prog, tc, Tryd.f7.ntmps⟩) [] tcok Tryd.func7 rfl rfl (by kernel_rfl) (by kernel_rfl) ?_
    refine e0 [2, 3, 4, 5, 8] [4, 5] (by kernel_rfl) ?_
    refine AWP.seq ?_
    refine e1 [(0, ⟨none, some ⟨vb true, [], []⟩⟩)] [2, 3, 4, 5, 8, 17] [4, 5] (by kernel_rfl) (AllP.c (con_awake22 ) AllP.n) ?_
    refine AWP.condF (by kernel_rfl) ?_
    refine AWP.skip ?_
    refine e1 (os := [Con Tryd.prog 13 [] [V.agg true [u8 l.a0, u8 l.a1, u8 l.a2, u8 l.a3, u8 l.a4, u8 c.a0, u8 c.a1, u8 c.a2, u8 c.a3, u8 c.a4], V.agg true [u8 lv, i64 un, u8 ev], u8 inh] [] (V.tup [V.agg true [u8 l.a0, u8 l.a1, u8 l.a2, u8 l.a3, u8 l.a4, u8 c.a0, u8 c.a1, u8 c.a2, u8 c.a3, u8 U], V.agg true [u8 4, i64 un, u8 ev], vb true])]) [(3, ⟨none, some ⟨V.tup [V.agg true [u8 l.a0, u8 l.a1, u8 l.a2, u8 l.a3, u8 l.a4, u8 c.a0, u8 c.a1, u8 c.a2, u8 c.a3, u8 U], V.agg true [u8 4, i64 un, u8 ev], vb true], [], []⟩⟩)] [2, 3, 4, 5, 8, 9, 10, 11] [4, 5, 9, 10] (by kernel_rfl) ⟨(c1 ), trivial⟩ ?_
    refine e1 (os := [Con Tryd.prog 19 [] [V.agg true [u8 l.a0, u8 l.a1, u8 l.a2, u8 l.a3, u8 l.a4], V.agg true [u8 c.a0, u8 c.a1, u8 c.a2, u8 c.a3, u8 c.a4], V.agg true [u8 lv, i64 un, u8 ev], u8 inh] [] (i64 4)]) [(6, ⟨none, some ⟨i64 4, [], []⟩⟩)] [3, 4, 5, 8, 9, 10, 11, 12] [4, 5, 9, 10] (by kernel_rfl) ⟨(c2 ), trivial⟩ ?_
    refine AWP.seq ?_
    refine e0 [3, 4, 5, 8, 9, 10, 11, 12, 36] [4, 5, 9, 10] (by kernel_rfl) ?_
    refine AWP.condF (by kernel_rfl) ?_
    refine AWP.skip ?_
    refine AWP.seq ?_
    refine e0 [3, 4, 5, 8, 9, 10, 12, 38] [4, 5, 9, 10] (by kernel_rfl) ?_
    refine AWP.condF (by kernel_rfl) ?_
    refine AWP.skip ?_
    refine e0 [3, 4, 5, 8, 9, 10, 12, 13] [4, 5, 9, 10, 13] (by kernel_rfl) ?_
    refine AWP.seq ?_
    refine e0 [3, 4, 5, 8, 9, 10, 12, 13, 52] [4, 5, 9, 10, 13] (by kernel_rfl) ?_
    refine AWP.cond (b := decide (c.a4 < 255)) (by kernel_rfl) (fun hq183 => ?_) (fun hq183 => ?_)
    · simp only [decide_eq_true_eq] at hq183
      refine g1 (os := [u8 (IntKind.wrap IntKind.u8 (c.a4 + 1)) = u8 (c.a4 + 1)]) [(4, ⟨some (u8 (c.a4 + 1)), none⟩)] [3, 4, 5, 8, 9, 10, 12, 13] [4, 5, 9, 10, 13] (by kernel_rfl) ⟨(wr_u8 (by omega) (by omega)), trivial⟩ ?_
      refine e0 [3, 4, 5, 8, 9, 10, 12, 13, 14, 15] [4, 5, 9, 10, 13, 14, 15] (by kernel_rfl) ?_
      refine e0 [3, 4, 5, 8, 9, 10, 12, 13, 14, 15] [4, 5, 9, 10, 13, 14, 15] (by kernel_rfl) ?_
      refine AWP.seq ?_
      refine e0 [3, 4, 5, 8, 9, 10, 12, 13, 14, 15, 65] [4, 5, 9, 10, 13, 14, 15] (by kernel_rfl) ?_
      refine AWP.cond (b := decide (w < 5)) (by kernel_rfl) (fun hq184 => ?_) (fun hq184 => ?_)
      · simp only [decide_eq_true_eq] at hq184
        (exfalso; omega)
      simp only [decide_eq_false_iff_not] at hq184
      refine AWP.skip ?_
      refine e1 (os := [(bl true (l.a0 == l.a0 && (l.a1 == l.a1 && (l.a2 == l.a2 && (l.a3 == l.a3 && (l.a4 == l.a4 && true)))) && (c.a0 == c.a0 && (c.a1 == c.a1 && (c.a2 == c.a2 && (c.a3 == c.a3 && (U == c.a4 + (1 : Int) && true)))) && true)) && bl true ((4 : Int) == (4 : Int) && (un == un && (ev == ev && true)))) = true → Con Tryd.prog (18 : Nat) [] [V.agg true [u8 l.a0, u8 l.a1, u8 l.a2, u8 l.a3, u8 l.a4, u8 c.a0, u8 c.a1, u8 c.a2, u8 c.a3, u8 c.a4]] [] (V.agg true [u8 l.a0, u8 l.a1, u8 l.a2, u8 l.a3, u8 l.a4, u8 (0 : Int), u8 (0 : Int), u8 (0 : Int), u8 (0 : Int), u8 (0 : Int)]) ∧ True, (bl true (l.a0 == l.a0 && (l.a1 == l.a1 && (l.a2 == l.a2 && (l.a3 == l.a3 && (l.a4 == l.a4 && true)))) && (c.a0 == c.a0 && (c.a1 == c.a1 && (c.a2 == c.a2 && (c.a3 == c.a3 && (U == c.a4 + (1 : Int) && true)))) && true)) && bl true ((4 : Int) == (4 : Int) && (un == un && (ev == ev && true))) && bl true (l.a0 == l.a0 && (l.a1 == l.a1 && (l.a2 == l.a2 && (l.a3 == l.a3 && (l.a4 == l.a4 && true)))) && ((0 : Int) == (0 : Int) && ((0 : Int) == (0 : Int) && ((0 : Int) == (0 : Int) && ((0 : Int) == (0 : Int) && ((0 : Int) == (0 : Int) && true)))) && true))) = true → Con Tryd.prog (20 : Nat) [] [V.agg true [u8 l.a0, u8 l.a1, u8 l.a2, u8 l.a3, u8 l.a4, u8 c.a0, u8 c.a1, u8 c.a2, u8 c.a3, u8 c.a4], u8 w] [] (V.agg true [u8 l.a0, u8 l.a1, u8 l.a2, u8 l.a3, u8 l.a4, u8 c.a0, u8 c.a1, u8 c.a2, u8 c.a3, u8 c.a4]) ∧ True]) [(16, ⟨none, some ⟨ladV l (F5.mk 0 0 0 0 0), [], []⟩⟩), (23, ⟨none, some ⟨ladV l c, [], []⟩⟩)] [8] [] (by kernel_rfl) ⟨(fun _ => ⟨(con_calm (l) (c)), trivial⟩), (fun _ => ⟨(c3 ), trivial⟩), trivial⟩ ?_
      refine AWP.ret ?_
      refine ⟨Or.inr rfl, Eq.trans (b := some ([], vb (bl true (l.a0 == l.a0 && (l.a1 == l.a1 && (l.a2 == l.a2 && (l.a3 == l.a3 && (l.a4 == l.a4 && true)))) && (c.a0 == c.a0 && (c.a1 == c.a1 && (c.a2 == c.a2 && (c.a3 == c.a3 && (U == c.a4 + 1 && true)))) && true)) && bl true (4 == 4 && (un == un && (ev == ev && true))) && bl true (l.a0 == l.a0 && (l.a1 == l.a1 && (l.a2 == l.a2 && (l.a3 == l.a3 && (l.a4 == l.a4 && true)))) && (0 == 0 && (0 == 0 && (0 == 0 && (0 == 0 && (0 == 0 && true)))) && true)) && bl true (l.a0 == l.a0 && (l.a1 == l.a1 && (l.a2 == l.a2 && (l.a3 == l.a3 && (l.a4 == l.a4 && true)))) && (c.a0 == c.a0 && (c.a1 == c.a1 && (c.a2 == c.a2 && (c.a3 == c.a3 && (c.a4 == c.a4 && true)))) && true))))) (by kernel_rfl) ?_⟩
      first | rfl | (simp [bl, *]; done) | (simp [bl, *]; omega)
    simp only [decide_eq_false_iff_not] at hq183
    refine AWP.skip ?_
    refine e0 [3, 4, 5, 8, 9, 10, 12, 13, 14, 15] [4, 5, 9, 10, 13, 14, 15] (by kernel_rfl) ?_
    refine e0 [3, 4, 5, 8, 9, 10, 12, 13, 14, 15] [4, 5, 9, 10, 13, 14, 15] (by kernel_rfl) ?_
    refine AWP.seq ?_
    refine e0 [3, 4, 5, 8, 9, 10, 12, 13, 14, 15, 65] [4, 5, 9, 10, 13, 14, 15] (by kernel_rfl) ?_
    refine AWP.cond (b := decide (w < 5)) (by kernel_rfl) (fun hq185 => ?_) (fun hq185 => ?_)
    · simp only [decide_eq_true_eq] at hq185
      (exfalso; omega)
    simp only [decide_eq_false_iff_not] at hq185
    refine AWP.skip ?_
    refine e1 (os := [(bl true (l.a0 == l.a0 && (l.a1 == l.a1 && (l.a2 == l.a2 && (l.a3 == l.a3 && (l.a4 == l.a4 && true)))) && (c.a0 == c.a0 && (c.a1 == c.a1 && (c.a2 == c.a2 && (c.a3 == c.a3 && (U == c.a4 && true)))) && true)) && bl true ((4 : Int) == (4 : Int) && (un == un && (ev == ev && true)))) = true → Con Tryd.prog (18 : Nat) [] [V.agg true [u8 l.a0, u8 l.a1, u8 l.a2, u8 l.a3, u8 l.a4, u8 c.a0, u8 c.a1, u8 c.a2, u8 c.a3, u8 c.a4]] [] (V.agg true [u8 l.a0, u8 l.a1, u8 l.a2, u8 l.a3, u8 l.a4, u8 (0 : Int), u8 (0 : Int), u8 (0 : Int), u8 (0 : Int), u8 (0 : Int)]) ∧ True, (bl true (l.a0 == l.a0 && (l.a1 == l.a1 && (l.a2 == l.a2 && (l.a3 == l.a3 && (l.a4 == l.a4 && true)))) && (c.a0 == c.a0 && (c.a1 == c.a1 && (c.a2 == c.a2 && (c.a3 == c.a3 && (U == c.a4 && true)))) && true)) && bl true ((4 : Int) == (4 : Int) && (un == un && (ev == ev && true))) && bl true (l.a0 == l.a0 && (l.a1 == l.a1 && (l.a2 == l.a2 && (l.a3 == l.a3 && (l.a4 == l.a4 && true)))) && ((0 : Int) == (0 : Int) && ((0 : Int) == (0 : Int) && ((0 : Int) == (0 : Int) && ((0 : Int) == (0 : Int) && ((0 : Int) == (0 : Int) && true)))) && true))) = true → Con Tryd.prog (20 : Nat) [] [V.agg true [u8 l.a0, u8 l.a1, u8 l.a2, u8 l.a3, u8 l.a4, u8 c.a0, u8 c.a1, u8 c.a2, u8 c.a3, u8 c.a4], u8 w] [] (V.agg true [u8 l.a0, u8 l.a1, u8 l.a2, u8 l.a3, u8 l.a4, u8 c.a0, u8 c.a1, u8 c.a2, u8 c.a3, u8 c.a4]) ∧ True]) [(16, ⟨none, some ⟨ladV l (F5.mk 0 0 0 0 0), [], []⟩⟩), (23, ⟨none, some ⟨ladV l c, [], []⟩⟩)] [8] [] (by kernel_rfl) ⟨(fun _ => ⟨(con_calm (l) (c)), trivial⟩), (fun _ => ⟨(c3 ), trivial⟩), trivial⟩ ?_
    refine AWP.ret ?_
    refine ⟨Or.inr rfl, Eq.trans (b := some ([], vb (bl true (l.a0 == l.a0 && (l.a1 == l.a1 && (l.a2 == l.a2 && (l.a3 == l.a3 && (l.a4 == l.a4 && true)))) && (c.a0 == c.a0 && (c.a1 == c.a1 && (c.a2 == c.a2 && (c.a3 == c.a3 && (U == c.a4 && true)))) && true)) && bl true (4 == 4 && (un == un && (ev == ev && true))) && bl true (l.a0 == l.a0 && (l.a1 == l.a1 && (l.a2 == l.a2 && (l.a3 == l.a3 && (l.a4 == l.a4 && true)))) && (0 == 0 && (0 == 0 && (0 == 0 && (0 == 0 && (0 == 0 && true)))) && true)) && bl true (l.a0 == l.a0 && (l.a1 == l.a1 && (l.a2 == l.a2 && (l.a3 == l.a3 && (l.a4 == l.a4 && true)))) && (c.a0 == c.a0 && (c.a1 == c.a1 && (c.a2 == c.a2 && (c.a3 == c.a3 && (c.a4 == c.a4 && true)))) && true))))) (by kernel_rfl) ?_⟩
    first | rfl | (simp [bl, *]; done) | (simp [bl, *]; omega)
theorem law_raises (inh : Int) (l c : F5) (lv un ev w : Int) (hi : 0 ≤ inh ∧ inh < 256) (hc : c.ok) (hl : 0 ≤ lv ∧ lv < 256) (hw : 0 ≤ w ∧ w < 256) :
    Con Tryd.prog 7 [] [ladV l c, .agg true [u8 lv, i64 un, u8 ev], u8 inh, u8 w] [] (vb true) := by
  cases hr : aright lv un with
  | false => exact law_raises_no inh l c lv un ev w hi hc hr
  | true =>
    have hl5 : lv < 5 := by
      unfold aright at hr
      simp only [Bool.and_eq_true, decide_eq_true_eq] at hr
      exact hr.1
    have hb := lev_bd inh l c (5 - lv).toNat lv (-1) (.inl rfl) hl.1 (by omega)
    rcases (by omega : lev inh l c (5 - lv).toNat lv (-1) = -1 ∨ lev inh l c (5 - lv).toNat lv (-1) = 0 ∨ lev inh l c (5 - lv).toNat lv (-1) = 1 ∨ lev inh l c (5 - lv).toNat lv (-1) = 2 ∨ lev inh l c (5 - lv).toNat lv (-1) = 3 ∨ lev inh l c (5 - lv).toNat lv (-1) = 4) with h | h | h | h | h | h
    · exact law_raises_m inh l c lv un ev w hi hc ⟨hl.1, hl5⟩ hr h
    · exact law_raises_0 inh l c lv un ev w hi hc ⟨hl.1, hl5⟩ hr h hw
    · exact law_raises_1 inh l c lv un ev w hi hc ⟨hl.1, hl5⟩ hr h hw
    · exact law_raises_2 inh l c lv un ev w hi hc ⟨hl.1, hl5⟩ hr h hw
    · exact law_raises_3 inh l c lv un ev w hi hc ⟨hl.1, hl5⟩ hr h hw
    · exact law_raises_4 inh l c lv un ev w hi hc ⟨hl.1, hl5⟩ hr h hw
theorem f5_of {xs : List V} (h : Go.Ab.Rows (Ty tc 7 5) 5 xs) : ∃ f : F5, xs = [u8 f.a0, u8 f.a1, u8 f.a2, u8 f.a3, u8 f.a4] ∧ f.ok := by
  obtain ⟨_, _, rfl, ⟨t0, rfl, d1, d2⟩, hr1⟩ := rows_cons h
  obtain ⟨_, _, rfl, ⟨t1, rfl, e1, e2⟩, hr2⟩ := rows_cons hr1
  obtain ⟨_, _, rfl, ⟨t2, rfl, f1, f2⟩, hr3⟩ := rows_cons hr2
  obtain ⟨_, _, rfl, ⟨t3, rfl, g1, g2⟩, hr4⟩ := rows_cons hr3
  obtain ⟨_, _, rfl, ⟨t4, rfl, i1, i2⟩, hr5⟩ := rows_cons hr4
  obtain rfl := rows_nil hr5
  exact ⟨⟨t0, t1, t2, t3, t4⟩, rfl, d1, Int.lt_add_one_of_le d2, e1, Int.lt_add_one_of_le e2, f1, Int.lt_add_one_of_le f2, g1, Int.lt_add_one_of_le g2, i1, Int.lt_add_one_of_le i2⟩
theorem lad_of {x : V} (h : TyV tc 9 25 x) : ∃ l c : F5, x = ladV l c ∧ l.ok ∧ c.ok := by
  obtain ⟨xs, rfl, a, _, rfl, ha, b, _, rfl, hb, rfl⟩ := h
  obtain ⟨l, rfl, hl⟩ := f5_of ha
  obtain ⟨c, rfl, hc⟩ := f5_of hb
  exact ⟨l, c, rfl, hl, hc⟩
theorem alarm_of {x : V} (h : TyV tc 9 29 x) : ∃ lv un ev : Int, x = .agg true [u8 lv, i64 un, u8 ev] ∧ (0 ≤ lv ∧ lv < 256) ∧ (0 ≤ ev ∧ ev < 256) := by
  obtain ⟨xs, rfl, _, _, rfl, ⟨m, rfl, a1, a2⟩, _, _, rfl, ⟨s, rfl, b1, b2⟩, _, _, rfl, ⟨e, rfl, c1, c2⟩, rfl⟩ := h
  exact ⟨m, s, e, rfl, ⟨a1, Int.lt_add_one_of_le a2⟩, ⟨c1, Int.lt_add_one_of_le c2⟩⟩
theorem u8_of2 {x : V} (h : TyV tc 9 5 x) : ∃ n : Int, x = u8 n ∧ 0 ≤ n ∧ n < 256 := by
  obtain ⟨n, e, a1, a2⟩ := h
  cases e
  exact ⟨n, rfl, a1, Int.lt_add_one_of_le a2⟩
theorem law_FdirRaises (x y z u : V) (hx : TyV tc 9 25 x) (hy : TyV tc 9 29 y) (hz : TyV tc 9 5 z) (hu : TyV tc 9 5 u) : Con Tryd.prog 7 [] [x, y, z, u] [] (vb true) := by
  obtain ⟨l, c, rfl, hl, hc⟩ := lad_of hx
  obtain ⟨lv, un, ev, rfl, h1, h2⟩ := alarm_of hy
  obtain ⟨inh, rfl, h3⟩ := u8_of2 hz
  obtain ⟨w, rfl, h4⟩ := u8_of2 hu
  exact law_raises inh l c lv un ev w h3 hc h1 h4
end Go.Proofs.YtklbonfbiakebaaDoor
