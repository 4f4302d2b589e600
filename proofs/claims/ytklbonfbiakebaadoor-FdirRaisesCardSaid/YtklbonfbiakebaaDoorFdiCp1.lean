/- Chapter 22: FdirRaises, FdirRests. -/
import Derived.Test.YtklbonfbiakebaaDoorRg
import Derived.Test.YtklbonfbiakebaaDoorFdiB
namespace Go.Proofs.YtklbonfbiakebaaDoor
open Go.Ab
set_option linter.unusedSimpArgs false
set_option linter.unusedVariables false
set_option maxHeartbeats 8000000
theorem lev_bd (inh : Int) (l c : F5) : ∀ (f : Nat) (n k : Int), (k = -1 ∨ 0 ≤ k ∧ k < 5) → 0 ≤ n → n + f ≤ 5 → (lev inh l c f n k = -1 ∨ 0 ≤ lev inh l c f n k ∧ lev inh l c f n k < 5)
  | 0, n, k, hk, _, _ => hk
  | f + 1, n, k, hk, hn, h => by
    unfold lev
    split
    · split
      · right; omega
      · exact lev_bd inh l c f (n + 1) n (by right; omega) (by omega) (by omega)
    · exact lev_bd inh l c f (n + 1) k hk (by omega) (by omega)
theorem law_raises_no (inh : Int) (l c : F5) (lv un ev w : Int) (hi : 0 ≤ inh ∧ inh < 256) (hc : c.ok) (hr : aright lv un = false) :
    Con Tryd.prog 7 [] [ladV l c, .agg true [u8 lv, i64 un, u8 ev], u8 inh, u8 w] [] (vb true) := by
  have c1 := con_raise_no inh l c lv un ev hr
  have c2 := con_rlevel_no inh l c lv un ev hr
  refine Con.of (C := ⟨Tryd.prog, tc, Tryd.f7.ntmps⟩) [] tcok Tryd.func7 rfl rfl (by kernel_rfl) (by kernel_rfl) ?_
  refine e0 [2, 3, 4, 5, 8] [4, 5] (by kernel_rfl) ?_
  refine AWP.seq ?_
  refine e1 [(0, ⟨none, some ⟨vb true, [], []⟩⟩)] [2, 3, 4, 5, 8, 17] [4, 5] (by kernel_rfl) (AllP.c (con_awake22 ) AllP.n) ?_
  refine AWP.condF (by kernel_rfl) ?_
  refine AWP.skip ?_
  refine e1 (os := [Con Tryd.prog 13 [] [V.agg true [u8 l.a0, u8 l.a1, u8 l.a2, u8 l.a3, u8 l.a4, u8 c.a0, u8 c.a1, u8 c.a2, u8 c.a3, u8 c.a4], V.agg true [u8 lv, i64 un, u8 ev], u8 inh] [] (V.tup [V.agg true [u8 l.a0, u8 l.a1, u8 l.a2, u8 l.a3, u8 l.a4, u8 c.a0, u8 c.a1, u8 c.a2, u8 c.a3, u8 c.a4], V.agg true [u8 0, i64 0, u8 0], vb false])]) [(3, ⟨none, some ⟨V.tup [ladV l c, V.agg true [u8 0, i64 0, u8 0], vb false], [], []⟩⟩)] [2, 3, 4, 5, 8, 9, 10, 11] [4, 5, 9, 10] (by kernel_rfl) ⟨(c1 ), trivial⟩ ?_
  refine e1 (os := [Con Tryd.prog 19 [] [V.agg true [u8 l.a0, u8 l.a1, u8 l.a2, u8 l.a3, u8 l.a4], V.agg true [u8 c.a0, u8 c.a1, u8 c.a2, u8 c.a3, u8 c.a4], V.agg true [u8 lv, i64 un, u8 ev], u8 inh] [] (i64 (-1))]) [(6, ⟨none, some ⟨i64 (-1), [], []⟩⟩)] [3, 4, 5, 8, 9, 10, 11, 12] [4, 5, 9, 10] (by kernel_rfl) ⟨(c2 ), trivial⟩ ?_
  refine AWP.seq ?_
  refine e0 [3, 4, 5, 8, 9, 10, 11, 12, 36] [4, 5, 9, 10] (by kernel_rfl) ?_
  refine AWP.condF (by kernel_rfl) ?_
  refine AWP.skip ?_
  refine AWP.seq ?_
  refine e0 [3, 4, 5, 8, 9, 10, 12, 38] [4, 5, 9, 10] (by kernel_rfl) ?_
  refine AWP.condT (by kernel_rfl) ?_
  refine e0 [3, 4, 5, 8, 9, 10, 12] [4, 5, 9, 10] (by kernel_rfl) ?_
  refine AWP.ret ?_
  refine ⟨Or.inr rfl, Eq.trans (b := some ([], vb (bl true (l.a0 == l.a0 && (l.a1 == l.a1 && (l.a2 == l.a2 && (l.a3 == l.a3 && (l.a4 == l.a4 && true)))) && (c.a0 == c.a0 && (c.a1 == c.a1 && (c.a2 == c.a2 && (c.a3 == c.a3 && (c.a4 == c.a4 && true)))) && true)) && true))) (by kernel_rfl) ?_⟩
  first | rfl | (simp [bl]; done)
theorem law_raises_m (inh : Int) (l c : F5) (lv un ev w : Int) (hi : 0 ≤ inh ∧ inh < 256) (hc : c.ok) (hl : 0 ≤ lv ∧ lv < 5) (hr : aright lv un = true) (hM : lev inh l c (5 - lv).toNat lv (-1) = -1) :
    Con Tryd.prog 7 [] [ladV l c, .agg true [u8 lv, i64 un, u8 ev], u8 inh, u8 w] [] (vb true) := by
  have c1 : Con Tryd.prog 13 [] [ladV l c, .agg true [u8 lv, i64 un, u8 ev], u8 inh] [] (.tup [ladV l c, .agg true [u8 0, i64 0, u8 0], vb false]) := con_raise inh l c lv un ev _ hi hc hl hr hM
  have c2 := con_rlevel inh l c lv un ev _ hi hc hl hr hM
  refine Con.of (C := ⟨Tryd.prog, tc, Tryd.f7.ntmps⟩) [] tcok Tryd.func7 rfl rfl (by kernel_rfl) (by kernel_rfl) ?_
  refine e0 [2, 3, 4, 5, 8] [4, 5] (by kernel_rfl) ?_
  refine AWP.seq ?_
  refine e1 [(0, ⟨none, some ⟨vb true, [], []⟩⟩)] [2, 3, 4, 5, 8, 17] [4, 5] (by kernel_rfl) (AllP.c (con_awake22 ) AllP.n) ?_
  refine AWP.condF (by kernel_rfl) ?_
  refine AWP.skip ?_
  refine e1 (os := [Con Tryd.prog 13 [] [V.agg true [u8 l.a0, u8 l.a1, u8 l.a2, u8 l.a3, u8 l.a4, u8 c.a0, u8 c.a1, u8 c.a2, u8 c.a3, u8 c.a4], V.agg true [u8 lv, i64 un, u8 ev], u8 inh] [] (V.tup [V.agg true [u8 l.a0, u8 l.a1, u8 l.a2, u8 l.a3, u8 l.a4, u8 c.a0, u8 c.a1, u8 c.a2, u8 c.a3, u8 c.a4], V.agg true [u8 0, i64 0, u8 0], vb false])]) [(3, ⟨none, some ⟨V.tup [ladV l c, V.agg true [u8 0, i64 0, u8 0], vb false], [], []⟩⟩)] [2, 3, 4, 5, 8, 9, 10, 11] [4, 5, 9, 10] (by kernel_rfl) ⟨(c1 ), trivial⟩ ?_
  refine e1 (os := [Con Tryd.prog 19 [] [V.agg true [u8 l.a0, u8 l.a1, u8 l.a2, u8 l.a3, u8 l.a4], V.agg true [u8 c.a0, u8 c.a1, u8 c.a2, u8 c.a3, u8 c.a4], V.agg true [u8 lv, i64 un, u8 ev], u8 inh] [] (i64 (-1))]) [(6, ⟨none, some ⟨i64 (-1), [], []⟩⟩)] [3, 4, 5, 8, 9, 10, 11, 12] [4, 5, 9, 10] (by kernel_rfl) ⟨(c2 ), trivial⟩ ?_
  refine AWP.seq ?_
  refine e0 [3, 4, 5, 8, 9, 10, 11, 12, 36] [4, 5, 9, 10] (by kernel_rfl) ?_
  refine AWP.condF (by kernel_rfl) ?_
  refine AWP.skip ?_
  refine AWP.seq ?_
  refine e0 [3, 4, 5, 8, 9, 10, 12, 38] [4, 5, 9, 10] (by kernel_rfl) ?_
  refine AWP.condT (by kernel_rfl) ?_
  refine e0 [3, 4, 5, 8, 9, 10, 12] [4, 5, 9, 10] (by kernel_rfl) ?_
  refine AWP.ret ?_
  refine ⟨Or.inr rfl, Eq.trans (b := some ([], vb (bl true (l.a0 == l.a0 && (l.a1 == l.a1 && (l.a2 == l.a2 && (l.a3 == l.a3 && (l.a4 == l.a4 && true)))) && (c.a0 == c.a0 && (c.a1 == c.a1 && (c.a2 == c.a2 && (c.a3 == c.a3 && (c.a4 == c.a4 && true)))) && true)) && true))) (by kernel_rfl) ?_⟩
  first | rfl | (simp [bl]; done)
theorem law_raises_0 (inh : Int) (l c : F5) (lv un ev w : Int) (hi : 0 ≤ inh ∧ inh < 256) (hc : c.ok) (hl : 0 ≤ lv ∧ lv < 5) (hr : aright lv un = true) (hM : lev inh l c (5 - lv).toNat lv (-1) = 0) (hw : 0 ≤ w ∧ w < 256) :
    Con Tryd.prog 7 [] [ladV l c, .agg true [u8 lv, i64 un, u8 ev], u8 inh, u8 w] [] (vb true) := by
  have c1 : Con Tryd.prog 13 [] [ladV l c, .agg true [u8 lv, i64 un, u8 ev], u8 inh] [] (.tup [.agg true [u8 l.a0, u8 l.a1, u8 l.a2, u8 l.a3, u8 l.a4, u8 (up8 c.a0), u8 c.a1, u8 c.a2, u8 c.a3, u8 c.a4], .agg true [u8 0, i64 un, u8 ev], vb true]) := con_raise inh l c lv un ev _ hi hc hl hr hM
  have c2 := con_rlevel inh l c lv un ev _ hi hc hl hr hM
  have hu : up8 c.a0 = if c.a0 < 255 then c.a0 + 1 else c.a0 := rfl
  obtain ⟨hc1, hc2, hc3, hc4, hc5, hc6, hc7, hc8, hc9, hc0⟩ := hc
  generalize up8 c.a0 = U at *
  rcases (by omega : w = 0 ∨ w = 1 ∨ w = 2 ∨ w = 3 ∨ w = 4 ∨ 5 ≤ w) with rfl | rfl | rfl | rfl | rfl | hw
  · have c3 : Con Tryd.prog 20 [] [ladV l c, u8 0] [] (.agg true [u8 l.a0, u8 l.a1, u8 l.a2, u8 l.a3, u8 l.a4, u8 0, u8 c.a1, u8 c.a2, u8 c.a3, u8 c.a4]) := con_clear l c 0 (by omega)
    refine Con.of (C := ⟨Tryd.prog, tc, Tryd.f7.ntmps⟩) [] tcok Tryd.func7 rfl rfl (by kernel_rfl) (by kernel_rfl) ?_
    refine e0 [2, 3, 4, 5, 8] [4, 5] (by kernel_rfl) ?_
    refine AWP.seq ?_
    refine e1 [(0, ⟨none, some ⟨vb true, [], []⟩⟩)] [2, 3, 4, 5, 8, 17] [4, 5] (by kernel_rfl) (AllP.c (con_awake22 ) AllP.n) ?_
    refine AWP.condF (by kernel_rfl) ?_
    refine AWP.skip ?_
    refine e1 (os := [Con Tryd.prog 13 [] [V.agg true [u8 l.a0, u8 l.a1, u8 l.a2, u8 l.a3, u8 l.a4, u8 c.a0, u8 c.a1, u8 c.a2, u8 c.a3, u8 c.a4], V.agg true [u8 lv, i64 un, u8 ev], u8 inh] [] (V.tup [V.agg true [u8 l.a0, u8 l.a1, u8 l.a2, u8 l.a3, u8 l.a4, u8 U, u8 c.a1, u8 c.a2, u8 c.a3, u8 c.a4], V.agg true [u8 0, i64 un, u8 ev], vb true])]) [(3, ⟨none, some ⟨V.tup [V.agg true [u8 l.a0, u8 l.a1, u8 l.a2, u8 l.a3, u8 l.a4, u8 U, u8 c.a1, u8 c.a2, u8 c.a3, u8 c.a4], V.agg true [u8 0, i64 un, u8 ev], vb true], [], []⟩⟩)] [2, 3, 4, 5, 8, 9, 10, 11] [4, 5, 9, 10] (by kernel_rfl) ⟨(c1 ), trivial⟩ ?_
    refine e1 (os := [Con Tryd.prog 19 [] [V.agg true [u8 l.a0, u8 l.a1, u8 l.a2, u8 l.a3, u8 l.a4], V.agg true [u8 c.a0, u8 c.a1, u8 c.a2, u8 c.a3, u8 c.a4], V.agg true [u8 lv, i64 un, u8 ev], u8 inh] [] (i64 0)]) [(6, ⟨none, some ⟨i64 0, [], []⟩⟩)] [3, 4, 5, 8, 9, 10, 11, 12] [4, 5, 9, 10] (by kernel_rfl) ⟨(c2 ), trivial⟩ ?_
    refine AWP.seq ?_
    refine e0 [3, 4, 5, 8, 9, 10, 11, 12, 36] [4, 5, 9, 10] (by kernel_rfl) ?_
    refine AWP.condF (by kernel_rfl) ?_
    refine AWP.skip ?_
    refine AWP.seq ?_
    refine e0 [3, 4, 5, 8, 9, 10, 12, 38] [4, 5, 9, 10] (by kernel_rfl) ?_
    refine AWP.condF (by kernel_rfl) ?_
    refine AWP.skip ?_
    refine e0 [3, 4, 5, 8, 9, 10, 12, 13] [4, 5, 9, 10, 13] (by kernel_rfl) ?_
    refine AWP.seq ?_
    refine e0 [3, 4, 5, 8, 9, 10, 12, 13, 52] [4, 5, 9, 10, 13] (by kernel_rfl) ?_
    refine AWP.cond (b := decide (c.a0 < 255)) (by kernel_rfl) (fun hq9 => ?_) (fun hq9 => ?_)
    · simp only [decide_eq_true_eq] at hq9
      refine g1 (os := [u8 (IntKind.wrap IntKind.u8 (c.a0 + 1)) = u8 (c.a0 + 1)]) [(4, ⟨some (u8 (c.a0 + 1)), none⟩)] [3, 4, 5, 8, 9, 10, 12, 13] [4, 5, 9, 10, 13] (by kernel_rfl) ⟨(wr_u8 (by omega) (by omega)), trivial⟩ ?_
      refine e0 [3, 4, 5, 8, 9, 10, 12, 13, 14, 15] [4, 5, 9, 10, 13, 14, 15] (by kernel_rfl) ?_
      refine e0 [3, 4, 5, 8, 9, 10, 12, 13, 14, 15] [4, 5, 9, 10, 13, 14, 15] (by kernel_rfl) ?_
      refine AWP.seq ?_
      refine e0 [3, 4, 5, 8, 9, 10, 12, 13, 14, 15, 65] [4, 5, 9, 10, 13, 14, 15] (by kernel_rfl) ?_
      refine AWP.condT (by kernel_rfl) ?_
      refine g0 [3, 4, 5, 8, 9, 10, 12, 13, 14, 15] [4, 5, 9, 10, 13, 14, 15] (by kernel_rfl) ?_
      refine e1 (os := [(bl true (l.a0 == l.a0 && (l.a1 == l.a1 && (l.a2 == l.a2 && (l.a3 == l.a3 && (l.a4 == l.a4 && true)))) && (U == c.a0 + (1 : Int) && (c.a1 == c.a1 && (c.a2 == c.a2 && (c.a3 == c.a3 && (c.a4 == c.a4 && true)))) && true)) && bl true ((0 : Int) == (0 : Int) && (un == un && (ev == ev && true)))) = true → Con Tryd.prog (18 : Nat) [] [V.agg true [u8 l.a0, u8 l.a1, u8 l.a2, u8 l.a3, u8 l.a4, u8 c.a0, u8 c.a1, u8 c.a2, u8 c.a3, u8 c.a4]] [] (V.agg true [u8 l.a0, u8 l.a1, u8 l.a2, u8 l.a3, u8 l.a4, u8 (0 : Int), u8 (0 : Int), u8 (0 : Int), u8 (0 : Int), u8 (0 : Int)]) ∧ True, (bl true (l.a0 == l.a0 && (l.a1 == l.a1 && (l.a2 == l.a2 && (l.a3 == l.a3 && (l.a4 == l.a4 && true)))) && (U == c.a0 + (1 : Int) && (c.a1 == c.a1 && (c.a2 == c.a2 && (c.a3 == c.a3 && (c.a4 == c.a4 && true)))) && true)) && bl true ((0 : Int) == (0 : Int) && (un == un && (ev == ev && true))) && bl true (l.a0 == l.a0 && (l.a1 == l.a1 && (l.a2 == l.a2 && (l.a3 == l.a3 && (l.a4 == l.a4 && true)))) && ((0 : Int) == (0 : Int) && ((0 : Int) == (0 : Int) && ((0 : Int) == (0 : Int) && ((0 : Int) == (0 : Int) && ((0 : Int) == (0 : Int) && true)))) && true))) = true → Con Tryd.prog (20 : Nat) [] [V.agg true [u8 l.a0, u8 l.a1, u8 l.a2, u8 l.a3, u8 l.a4, u8 c.a0, u8 c.a1, u8 c.a2, u8 c.a3, u8 c.a4], u8 (0 : Int)] [] (V.agg true [u8 l.a0, u8 l.a1, u8 l.a2, u8 l.a3, u8 l.a4, u8 (0 : Int), u8 c.a1, u8 c.a2, u8 c.a3, u8 c.a4]) ∧ True]) [(16, ⟨none, some ⟨ladV l (F5.mk 0 0 0 0 0), [], []⟩⟩), (23, ⟨none, some ⟨V.agg true [u8 l.a0, u8 l.a1, u8 l.a2, u8 l.a3, u8 l.a4, u8 0, u8 c.a1, u8 c.a2, u8 c.a3, u8 c.a4], [], []⟩⟩)] [8] [] (by kernel_rfl) ⟨(fun _ => ⟨(con_calm (l) (c)), trivial⟩), (fun _ => ⟨(c3 ), trivial⟩), trivial⟩ ?_
      refine AWP.ret ?_
      refine ⟨Or.inr rfl, Eq.trans (b := some ([], vb (bl true (l.a0 == l.a0 && (l.a1 == l.a1 && (l.a2 == l.a2 && (l.a3 == l.a3 && (l.a4 == l.a4 && true)))) && (U == c.a0 + 1 && (c.a1 == c.a1 && (c.a2 == c.a2 && (c.a3 == c.a3 && (c.a4 == c.a4 && true)))) && true)) && bl true (0 == 0 && (un == un && (ev == ev && true))) && bl true (l.a0 == l.a0 && (l.a1 == l.a1 && (l.a2 == l.a2 && (l.a3 == l.a3 && (l.a4 == l.a4 && true)))) && (0 == 0 && (0 == 0 && (0 == 0 && (0 == 0 && (0 == 0 && true)))) && true)) && bl true (l.a0 == l.a0 && (l.a1 == l.a1 && (l.a2 == l.a2 && (l.a3 == l.a3 && (l.a4 == l.a4 && true)))) && (0 == 0 && (c.a1 == c.a1 && (c.a2 == c.a2 && (c.a3 == c.a3 && (c.a4 == c.a4 && true)))) && true))))) (by kernel_rfl) ?_⟩
      first | rfl | (simp [bl, *]; done) | (simp [bl, *]; omega)
    simp only [decide_eq_false_iff_not] at hq9
    refine AWP.skip ?_
    refine e0 [3, 4, 5, 8, 9, 10, 12, 13, 14, 15] [4, 5, 9, 10, 13, 14, 15] (by kernel_rfl) ?_
    refine e0 [3, 4, 5, 8, 9, 10, 12, 13, 14, 15] [4, 5, 9, 10, 13, 14, 15] (by kernel_rfl) ?_
    refine AWP.seq ?_
    refine e0 [3, 4, 5, 8, 9, 10, 12, 13, 14, 15, 65] [4, 5, 9, 10, 13, 14, 15] (by kernel_rfl) ?_
    refine AWP.condT (by kernel_rfl) ?_
    refine g0 [3, 4, 5, 8, 9, 10, 12, 13, 14, 15] [4, 5, 9, 10, 13, 14, 15] (by kernel_rfl) ?_
    refine e1 (os := [(bl true (l.a0 == l.a0 && (l.a1 == l.a1 && (l.a2 == l.a2 && (l.a3 == l.a3 && (l.a4 == l.a4 && true)))) && (U == c.a0 && (c.a1 == c.a1 && (c.a2 == c.a2 && (c.a3 == c.a3 && (c.a4 == c.a4 && true)))) && true)) && bl true ((0 : Int) == (0 : Int) && (un == un && (ev == ev && true)))) = true → Con Tryd.prog (18 : Nat) [] [V.agg true [u8 l.a0, u8 l.a1, u8 l.a2, u8 l.a3, u8 l.a4, u8 c.a0, u8 c.a1, u8 c.a2, u8 c.a3, u8 c.a4]] [] (V.agg true [u8 l.a0, u8 l.a1, u8 l.a2, u8 l.a3, u8 l.a4, u8 (0 : Int), u8 (0 : Int), u8 (0 : Int), u8 (0 : Int), u8 (0 : Int)]) ∧ True, (bl true (l.a0 == l.a0 && (l.a1 == l.a1 && (l.a2 == l.a2 && (l.a3 == l.a3 && (l.a4 == l.a4 && true)))) && (U == c.a0 && (c.a1 == c.a1 && (c.a2 == c.a2 && (c.a3 == c.a3 && (c.a4 == c.a4 && true)))) && true)) && bl true ((0 : Int) == (0 : Int) && (un == un && (ev == ev && true))) && bl true (l.a0 == l.a0 && (l.a1 == l.a1 && (l.a2 == l.a2 && (l.a3 == l.a3 && (l.a4 == l.a4 && true)))) && ((0 : Int) == (0 : Int) && ((0 : Int) == (0 : Int) && ((0 : Int) == (0 : Int) && ((0 : Int) == (0 : Int) && ((0 : Int) == (0 : Int) && true)))) && true))) = true → Con Tryd.prog (20 : Nat) [] [V.agg true [u8 l.a0, u8 l.a1, u8 l.a2, u8 l.a3, u8 l.a4, u8 c.a0, u8 c.a1, u8 c.a2, u8 c.a3, u8 c.a4], u8 (0 : Int)] [] (V.agg true [u8 l.a0, u8 l.a1, u8 l.a2, u8 l.a3, u8 l.a4, u8 (0 : Int), u8 c.a1, u8 c.a2, u8 c.a3, u8 c.a4]) ∧ True]) [(16, ⟨none, some ⟨ladV l (F5.mk 0 0 0 0 0), [], []⟩⟩), (23, ⟨none, some ⟨V.agg true [u8 l.a0, u8 l.a1, u8 l.a2, u8 l.a3, u8 l.a4, u8 0, u8 c.a1, u8 c.a2, u8 c.a3, u8 c.a4], [], []⟩⟩)] [8] [] (by kernel_rfl) ⟨(fun _ => ⟨(con_calm (l) (c)), trivial⟩), (fun _ => ⟨(c3 ), trivial⟩), trivial⟩ ?_
    refine AWP.ret ?_
    refine ⟨Or.inr rfl, Eq.trans (b := some ([], vb (bl true (l.a0 == l.a0 && (l.a1 == l.a1 && (l.a2 == l.a2 && (l.a3 == l.a3 && (l.a4 == l.a4 && true)))) && (U == c.a0 && (c.a1 == c.a1 && (c.a2 == c.a2 && (c.a3 == c.a3 && (c.a4 == c.a4 && true)))) && true)) && bl true (0 == 0 && (un == un && (ev == ev && true))) && bl true (l.a0 == l.a0 && (l.a1 == l.a1 && (l.a2 == l.a2 && (l.a3 == l.a3 && (l.a4 == l.a4 && true)))) && (0 == 0 && (0 == 0 && (0 == 0 && (0 == 0 && (0 == 0 && true)))) && true)) && bl true (l.a0 == l.a0 && (l.a1 == l.a1 && (l.a2 == l.a2 && (l.a3 == l.a3 && (l.a4 == l.a4 && true)))) && (0 == 0 && (c.a1 == c.a1 && (c.a2 == c.a2 && (c.a3 == c.a3 && (c.a4 == c.a4 && true)))) && true))))) (by kernel_rfl) ?_⟩
    first | rfl | (simp [bl, *]; done) | (simp [bl, *]; omega)
  · have c3 : Con Tryd.prog 20 [] [ladV l c, u8 1] [] (.agg true [u8 l.a0, u8 l.a1, u8 l.a2, u8 l.a3, u8 l.a4, u8 c.a0, u8 0, u8 c.a2, u8 c.a3, u8 c.a4]) := con_clear l c 1 (by omega)
    refine Con.of (C := ⟨Tryd.prog, tc, Tryd.f7.ntmps⟩) [] tcok Tryd.func7 rfl rfl (by kernel_rfl) (by kernel_rfl) ?_
    refine e0 [2, 3, 4, 5, 8] [4, 5] (by kernel_rfl) ?_
    refine AWP.seq ?_
    refine e1 [(0, ⟨none, some ⟨vb true, [], []⟩⟩)] [2, 3, 4, 5, 8, 17] [4, 5] (by kernel_rfl) (AllP.c (con_awake22 ) AllP.n) ?_
    refine AWP.condF (by kernel_rfl) ?_
    refine AWP.skip ?_
    refine e1 (os := [Con Tryd.prog 13 [] [V.agg true [u8 l.a0, u8 l.a1, u8 l.a2, u8 l.a3, u8 l.a4, u8 c.a0, u8 c.a1, u8 c.a2, u8 c.a3, u8 c.a4], V.agg true [u8 lv, i64 un, u8 ev], u8 inh] [] (V.tup [V.agg true [u8 l.a0, u8 l.a1, u8 l.a2, u8 l.a3, u8 l.a4, u8 U, u8 c.a1, u8 c.a2, u8 c.a3, u8 c.a4], V.agg true [u8 0, i64 un, u8 ev], vb true])]) [(3, ⟨none, some ⟨V.tup [V.agg true [u8 l.a0, u8 l.a1, u8 l.a2, u8 l.a3, u8 l.a4, u8 U, u8 c.a1, u8 c.a2, u8 c.a3, u8 c.a4], V.agg true [u8 0, i64 un, u8 ev], vb true], [], []⟩⟩)] [2, 3, 4, 5, 8, 9, 10, 11] [4, 5, 9, 10] (by kernel_rfl) ⟨(c1 ), trivial⟩ ?_
    refine e1 (os := [Con Tryd.prog 19 [] [V.agg true [u8 l.a0, u8 l.a1, u8 l.a2, u8 l.a3, u8 l.a4], V.agg true [u8 c.a0, u8 c.a1, u8 c.a2, u8 c.a3, u8 c.a4], V.agg true [u8 lv, i64 un, u8 ev], u8 inh] [] (i64 0)]) [(6, ⟨none, some ⟨i64 0, [], []⟩⟩)] [3, 4, 5, 8, 9, 10, 11, 12] [4, 5, 9, 10] (by kernel_rfl) ⟨(c2 ), trivial⟩ ?_
    refine AWP.seq ?_
    refine e0 [3, 4, 5, 8, 9, 10, 11, 12, 36] [4, 5, 9, 10] (by kernel_rfl) ?_
    refine AWP.condF (by kernel_rfl) ?_
    refine AWP.skip ?_
    refine AWP.seq ?_
    refine e0 [3, 4, 5, 8, 9, 10, 12, 38] [4, 5, 9, 10] (by kernel_rfl) ?_
    refine AWP.condF (by kernel_rfl) ?_
    refine AWP.skip ?_
    refine e0 [3, 4, 5, 8, 9, 10, 12, 13] [4, 5, 9, 10, 13] (by kernel_rfl) ?_
    refine AWP.seq ?_
    refine e0 [3, 4, 5, 8, 9, 10, 12, 13, 52] [4, 5, 9, 10, 13] (by kernel_rfl) ?_
    refine AWP.cond (b := decide (c.a0 < 255)) (by kernel_rfl) (fun hq15 => ?_) (fun hq15 => ?_)
    · simp only [decide_eq_true_eq] at hq15
      refine g1 (os := [u8 (IntKind.wrap IntKind.u8 (c.a0 + 1)) = u8 (c.a0 + 1)]) [(4, ⟨some (u8 (c.a0 + 1)), none⟩)] [3, 4, 5, 8, 9, 10, 12, 13] [4, 5, 9, 10, 13] (by kernel_rfl) ⟨(wr_u8 (by omega) (by omega)), trivial⟩ ?_
      refine e0 [3, 4, 5, 8, 9, 10, 12, 13, 14, 15] [4, 5, 9, 10, 13, 14, 15] (by kernel_rfl) ?_
      refine e0 [3, 4, 5, 8, 9, 10, 12, 13, 14, 15] [4, 5, 9, 10, 13, 14, 15] (by kernel_rfl) ?_
      refine AWP.seq ?_
      refine e0 [3, 4, 5, 8, 9, 10, 12, 13, 14, 15, 65] [4, 5, 9, 10, 13, 14, 15] (by kernel_rfl) ?_
      refine AWP.condT (by kernel_rfl) ?_
      refine g0 [3, 4, 5, 8, 9, 10, 12, 13, 14, 15] [4, 5, 9, 10, 13, 14, 15] (by kernel_rfl) ?_
      refine e1 (os := [(bl true (l.a0 == l.a0 && (l.a1 == l.a1 && (l.a2 == l.a2 && (l.a3 == l.a3 && (l.a4 == l.a4 && true)))) && (U == c.a0 + (1 : Int) && (c.a1 == c.a1 && (c.a2 == c.a2 && (c.a3 == c.a3 && (c.a4 == c.a4 && true)))) && true)) && bl true ((0 : Int) == (0 : Int) && (un == un && (ev == ev && true)))) = true → Con Tryd.prog (18 : Nat) [] [V.agg true [u8 l.a0, u8 l.a1, u8 l.a2, u8 l.a3, u8 l.a4, u8 c.a0, u8 c.a1, u8 c.a2, u8 c.a3, u8 c.a4]] [] (V.agg true [u8 l.a0, u8 l.a1, u8 l.a2, u8 l.a3, u8 l.a4, u8 (0 : Int), u8 (0 : Int), u8 (0 : Int), u8 (0 : Int), u8 (0 : Int)]) ∧ True, (bl true (l.a0 == l.a0 && (l.a1 == l.a1 && (l.a2 == l.a2 && (l.a3 == l.a3 && (l.a4 == l.a4 && true)))) && (U == c.a0 + (1 : Int) && (c.a1 == c.a1 && (c.a2 == c.a2 && (c.a3 == c.a3 && (c.a4 == c.a4 && true)))) && true)) && bl true ((0 : Int) == (0 : Int) && (un == un && (ev == ev && true))) && bl true (l.a0 == l.a0 && (l.a1 == l.a1 && (l.a2 == l.a2 && (l.a3 == l.a3 && (l.a4 == l.a4 && true)))) && ((0 : Int) == (0 : Int) && ((0 : Int) == (0 : Int) && ((0 : Int) == (0 : Int) && ((0 : Int) == (0 : Int) && ((0 : Int) == (0 : Int) && true)))) && true))) = true → Con Tryd.prog (20 : Nat) [] [V.agg true [u8 l.a0, u8 l.a1, u8 l.a2, u8 l.a3, u8 l.a4, u8 c.a0, u8 c.a1, u8 c.a2, u8 c.a3, u8 c.a4], u8 (1 : Int)] [] (V.agg true [u8 l.a0, u8 l.a1, u8 l.a2, u8 l.a3, u8 l.a4, u8 c.a0, u8 (0 : Int), u8 c.a2, u8 c.a3, u8 c.a4]) ∧ True]) [(16, ⟨none, some ⟨ladV l (F5.mk 0 0 0 0 0), [], []⟩⟩), (23, ⟨none, some ⟨V.agg true [u8 l.a0, u8 l.a1, u8 l.a2, u8 l.a3, u8 l.a4, u8 c.a0, u8 0, u8 c.a2, u8 c.a3, u8 c.a4], [], []⟩⟩)] [8] [] (by kernel_rfl) ⟨(fun _ => ⟨(con_calm (l) (c)), trivial⟩), (fun _ => ⟨(c3 ), trivial⟩), trivial⟩ ?_
      refine AWP.ret ?_
      refine ⟨Or.inr rfl, Eq.trans (b := some ([], vb (bl true (l.a0 == l.a0 && (l.a1 == l.a1 && (l.a2 == l.a2 && (l.a3 == l.a3 && (l.a4 == l.a4 && true)))) && (U == c.a0 + 1 && (c.a1 == c.a1 && (c.a2 == c.a2 && (c.a3 == c.a3 && (c.a4 == c.a4 && true)))) && true)) && bl true (0 == 0 && (un == un && (ev == ev && true))) && bl true (l.a0 == l.a0 && (l.a1 == l.a1 && (l.a2 == l.a2 && (l.a3 == l.a3 && (l.a4 == l.a4 && true)))) && (0 == 0 && (0 == 0 && (0 == 0 && (0 == 0 && (0 == 0 && true)))) && true)) && bl true (l.a0 == l.a0 && (l.a1 == l.a1 && (l.a2 == l.a2 && (l.a3 == l.a3 && (l.a4 == l.a4 && true)))) && (c.a0 == c.a0 && (0 == 0 && (c.a2 == c.a2 && (c.a3 == c.a3 && (c.a4 == c.a4 && true)))) && true))))) (by kernel_rfl) ?_⟩
      first | rfl | (simp [bl, *]; done) | (simp [bl, *]; omega)
    simp only [decide_eq_false_iff_not] at hq15
    refine AWP.skip ?_
    refine e0 [3, 4, 5, 8, 9, 10, 12, 13, 14, 15] [4, 5, 9, 10, 13, 14, 15] (by kernel_rfl) ?_
    refine e0 [3, 4, 5, 8, 9, 10, 12, 13, 14, 15] [4, 5, 9, 10, 13, 14, 15] (by kernel_rfl) ?_
    refine AWP.seq ?_
    refine e0 [3, 4, 5, 8, 9, 10, 12, 13, 14, 15, 65] [4, 5, 9, 10, 13, 14, 15] (by kernel_rfl) ?_
    refine AWP.condT (by kernel_rfl) ?_
    refine g0 [3, 4, 5, 8, 9, 10, 12, 13, 14, 15] [4, 5, 9, 10, 13, 14, 15] (by kernel_rfl) ?_
    refine e1 (os := [(bl true (l.a0 == l.a0 && (l.a1 == l.a1 && (l.a2 == l.a2 && (l.a3 == l.a3 && (l.a4 == l.a4 && true)))) && (U == c.a0 && (c.a1 == c.a1 && (c.a2 == c.a2 && (c.a3 == c.a3 && (c.a4 == c.a4 && true)))) && true)) && bl true ((0 : Int) == (0 : Int) && (un == un && (ev == ev && true)))) = true → Con Tryd.prog (18 : Nat) [] [V.agg true [u8 l.a0, u8 l.a1, u8 l.a2, u8 l.a3, u8 l.a4, u8 c.a0, u8 c.a1, u8 c.a2, u8 c.a3, u8 c.a4]] [] (V.agg true [u8 l.a0, u8 l.a1, u8 l.a2, u8 l.a3, u8 l.a4, u8 (0 : Int), u8 (0 : Int), u8 (0 : Int), u8 (0 : Int), u8 (0 : Int)]) ∧ True, (bl true (l.a0 == l.a0 && (l.a1 == l.a1 && (l.a2 == l.a2 && (l.a3 == l.a3 && (l.a4 == l.a4 && true)))) && (U == c.a0 && (c.a1 == c.a1 && (c.a2 == c.a2 && (c.a3 == c.a3 && (c.a4 == c.a4 && true)))) && true)) && bl true ((0 : Int) == (0 : Int) && (un == un && (ev == ev && true))) && bl true (l.a0 == l.a0 && (l.a1 == l.a1 && (l.a2 == l.a2 && (l.a3 == l.a3 && (l.a4 == l.a4 && true)))) && ((0 : Int) == (0 : Int) && ((0 : Int) == (0 : Int) && ((0 : Int) == (0 : Int) && ((0 : Int) == (0 : Int) && ((0 : Int) == (0 : Int) && true)))) && true))) = true → Con Tryd.prog (20 : Nat) [] [V.agg true [u8 l.a0, u8 l.a1, u8 l.a2, u8 l.a3, u8 l.a4, u8 c.a0, u8 c.a1, u8 c.a2, u8 c.a3, u8 c.a4], u8 (1 : Int)] [] (V.agg true [u8 l.a0, u8 l.a1, u8 l.a2, u8 l.a3, u8 l.a4, u8 c.a0, u8 (0 : Int), u8 c.a2, u8 c.a3, u8 c.a4]) ∧ True]) [(16, ⟨none, some ⟨ladV l (F5.mk 0 0 0 0 0), [], []⟩⟩), (23, ⟨none, some ⟨V.agg true [u8 l.a0, u8 l.a1, u8 l.a2, u8 l.a3, u8 l.a4, u8 c.a0, u8 0, u8 c.a2, u8 c.a3, u8 c.a4], [], []⟩⟩)] [8] [] (by kernel_rfl) ⟨(fun _ => ⟨(con_calm (l) (c)), trivial⟩), (fun _ => ⟨(c3 ), trivial⟩), trivial⟩ ?_
    refine AWP.ret ?_
    refine ⟨Or.inr rfl, Eq.trans (b := some ([], vb (bl true (l.a0 == l.a0 && (l.a1 == l.a1 && (l.a2 == l.a2 && (l.a3 == l.a3 && (l.a4 == l.a4 && true)))) && (U == c.a0 && (c.a1 == c.a1 && (c.a2 == c.a2 && (c.a3 == c.a3 && (c.a4 == c.a4 && true)))) && true)) && bl true (0 == 0 && (un == un && (ev == ev && true))) && bl true (l.a0 == l.a0 && (l.a1 == l.a1 && (l.a2 == l.a2 && (l.a3 == l.a3 && (l.a4 == l.a4 && true)))) && (0 == 0 && (0 == 0 && (0 == 0 && (0 == 0 && (0 == 0 && true)))) && true)) && bl true (l.a0 == l.a0 && (l.a1 == l.a1 && (l.a2 == l.a2 && (l.a3 == l.a3 && (l.a4 == l.a4 && true)))) && (c.a0 == c.a0 && (0 == 0 && (c.a2 == c.a2 && (c.a3 == c.a3 && (c.a4 == c.a4 && true)))) && true))))) (by kernel_rfl) ?_⟩
    first | rfl | (simp [bl, *]; done) | (simp [bl, *]; omega)
  · have c3 : Con Tryd.prog 20 [] [ladV l c, u8 2] [] (.agg true [u8 l.a0, u8 l.a1, u8 l.a2, u8 l.a3, u8 l.a4, u8 c.a0, u8 c.a1, u8 0, u8 c.a3, u8 c.a4]) := con_clear l c 2 (by omega)
    refine Con.of (C := ⟨Tryd.prog, tc, Tryd.f7.ntmps⟩) [] tcok Tryd.func7 rfl rfl (by kernel_rfl) (by kernel_rfl) ?_
    refine e0 [2, 3, 4, 5, 8] [4, 5] (by kernel_rfl) ?_
    refine AWP.seq ?_
    refine e1 [(0, ⟨none, some ⟨vb true, [], []⟩⟩)] [2, 3, 4, 5, 8, 17] [4, 5] (by kernel_rfl) (AllP.c (con_awake22 ) AllP.n) ?_
    refine AWP.condF (by kernel_rfl) ?_
    refine AWP.skip ?_
    refine e1 (os := [Con Tryd.prog 13 [] [V.agg true [u8 l.a0, u8 l.a1, u8 l.a2, u8 l.a3, u8 l.a4, u8 c.a0, u8 c.a1, u8 c.a2, u8 c.a3, u8 c.a4], V.agg true [u8 lv, i64 un, u8 ev], u8 inh] [] (V.tup [V.agg true [u8 l.a0, u8 l.a1, u8 l.a2, u8 l.a3, u8 l.a4, u8 U, u8 c.a1, u8 c.a2, u8 c.a3, u8 c.a4], V.agg true [u8 0, i64 un, u8 ev], vb true])]) [(3, ⟨none, some ⟨V.tup [V.agg true [u8 l.a0, u8 l.a1, u8 l.a2, u8 l.a3, u8 l.a4, u8 U, u8 c.a1, u8 c.a2, u8 c.a3, u8 c.a4], V.agg true [u8 0, i64 un, u8 ev], vb true], [], []⟩⟩)] [2, 3, 4, 5, 8, 9, 10, 11] [4, 5, 9, 10] (by kernel_rfl) ⟨(c1 ), trivial⟩ ?_
    refine e1 (os := [Con Tryd.prog 19 [] [V.agg true [u8 l.a0, u8 l.a1, u8 l.a2, u8 l.a3, u8 l.a4], V.agg true [u8 c.a0, u8 c.a1, u8 c.a2, u8 c.a3, u8 c.a4], V.agg true [u8 lv, i64 un, u8 ev], u8 inh] [] (i64 0)]) [(6, ⟨none, some ⟨i64 0, [], []⟩⟩)] [3, 4, 5, 8, 9, 10, 11, 12] [4, 5, 9, 10] (by kernel_rfl) ⟨(c2 ), trivial⟩ ?_
    refine AWP.seq ?_
    refine e0 [3, 4, 5, 8, 9, 10, 11, 12, 36] [4, 5, 9, 10] (by kernel_rfl) ?_
    refine AWP.condF (by kernel_rfl) ?_
    refine AWP.skip ?_
    refine AWP.seq ?_
    refine e0 [3, 4, 5, 8, 9, 10, 12, 38] [4, 5, 9, 10] (by kernel_rfl) ?_
    refine AWP.condF (by kernel_rfl) ?_
    refine AWP.skip ?_
    refine e0 [3, 4, 5, 8, 9, 10, 12, 13] [4, 5, 9, 10, 13] (by kernel_rfl) ?_
    refine AWP.seq ?_
    refine e0 [3, 4, 5, 8, 9, 10, 12, 13, 52] [4, 5, 9, 10, 13] (by kernel_rfl) ?_
    refine AWP.cond (b := decide (c.a0 < 255)) (by kernel_rfl) (fun hq21 => ?_) (fun hq21 => ?_)
    · simp only [decide_eq_true_eq] at hq21
      refine g1 (os := [u8 (IntKind.wrap IntKind.u8 (c.a0 + 1)) = u8 (c.a0 + 1)]) [(4, ⟨some (u8 (c.a0 + 1)), none⟩)] [3, 4, 5, 8, 9, 10, 12, 13] [4, 5, 9, 10, 13] (by kernel_rfl) ⟨(wr_u8 (by omega) (by omega)), trivial⟩ ?_
      refine e0 [3, 4, 5, 8, 9, 10, 12, 13, 14, 15] [4, 5, 9, 10, 13, 14, 15] (by kernel_rfl) ?_
      refine e0 [3, 4, 5, 8, 9, 10, 12, 13, 14, 15] [4, 5, 9, 10, 13, 14, 15] (by kernel_rfl) ?_
      refine AWP.seq ?_
      refine e0 [3, 4, 5, 8, 9, 10, 12, 13, 14, 15, 65] [4, 5, 9, 10, 13, 14, 15] (by kernel_rfl) ?_
      refine AWP.condT (by kernel_rfl) ?_
      refine g0 [3, 4, 5, 8, 9, 10, 12, 13, 14, 15] [4, 5, 9, 10, 13, 14, 15] (by kernel_rfl) ?_
      refine e1 (os := [(bl true (l.a0 == l.a0 && (l.a1 == l.a1 && (l.a2 == l.a2 && (l.a3 == l.a3 && (l.a4 == l.a4 && true)))) && (U == c.a0 + (1 : Int) && (c.a1 == c.a1 && (c.a2 == c.a2 && (c.a3 == c.a3 && (c.a4 == c.a4 && true)))) && true)) && bl true ((0 : Int) == (0 : Int) && (un == un && (ev == ev && true)))) = true → Con Tryd.prog (18 : Nat) [] [V.agg true [u8 l.a0, u8 l.a1, u8 l.a2, u8 l.a3, u8 l.a4, u8 c.a0, u8 c.a1, u8 c.a2, u8 c.a3, u8 c.a4]] [] (V.agg true [u8 l.a0, u8 l.a1, u8 l.a2, u8 l.a3, u8 l.a4, u8 (0 : Int), u8 (0 : Int), u8 (0 : Int), u8 (0 : Int), u8 (0 : Int)]) ∧ True, (bl true (l.a0 == l.a0 && (l.a1 == l.a1 && (l.a2 == l.a2 && (l.a3 == l.a3 && (l.a4 == l.a4 && true)))) && (U == c.a0 + (1 : Int) && (c.a1 == c.a1 && (c.a2 == c.a2 && (c.a3 == c.a3 && (c.a4 == c.a4 && true)))) && true)) && bl true ((0 : Int) == (0 : Int) && (un == un && (ev == ev && true))) && bl true (l.a0 == l.a0 && (l.a1 == l.a1 && (l.a2 == l.a2 && (l.a3 == l.a3 && (l.a4 == l.a4 && true)))) && ((0 : Int) == (0 : Int) && ((0 : Int) == (0 : Int) && ((0 : Int) == (0 : Int) && ((0 : Int) == (0 : Int) && ((0 : Int) == (0 : Int) && true)))) && true))) = true → Con Tryd.prog (20 : Nat) [] [V.agg true [u8 l.a0, u8 l.a1, u8 l.a2, u8 l.a3, u8 l.a4, u8 c.a0, u8 c.a1, u8 c.a2, u8 c.a3, u8 c.a4], u8 (2 : Int)] [] (V.agg true [u8 l.a0, u8 l.a1, u8 l.a2, u8 l.a3, u8 l.a4, u8 c.a0, u8 c.a1, u8 (0 : Int), u8 c.a3, u8 c.a4]) ∧ True]) [(16, ⟨none, some ⟨ladV l (F5.mk 0 0 0 0 0), [], []⟩⟩), (23, ⟨none, some ⟨V.agg true [u8 l.a0, u8 l.a1, u8 l.a2, u8 l.a3, u8 l.a4, u8 c.a0, u8 c.a1, u8 0, u8 c.a3, u8 c.a4], [], []⟩⟩)] [8] [] (by kernel_rfl) ⟨(fun _ => ⟨(con_calm (l) (c)), trivial⟩), (fun _ => ⟨(c3 ), trivial⟩), trivial⟩ ?_
      refine AWP.ret ?_
      refine ⟨Or.inr rfl, Eq.trans (b := some ([], vb (bl true (l.a0 == l.a0 && (l.a1 == l.a1 && (l.a2 == l.a2 && (l.a3 == l.a3 && (l.a4 == l.a4 && true)))) && (U == c.a0 + 1 && (c.a1 == c.a1 && (c.a2 == c.a2 && (c.a3 == c.a3 && (c.a4 == c.a4 && true)))) && true)) && bl true (0 == 0 && (un == un && (ev == ev && true))) && bl true (l.a0 == l.a0 && (l.a1 == l.a1 && (l.a2 == l.a2 && (l.a3 == l.a3 && (l.a4 == l.a4 && true)))) && (0 == 0 && (0 == 0 && (0 == 0 && (0 == 0 && (0 == 0 && true)))) && true)) && bl true (l.a0 == l.a0 && (l.a1 == l.a1 && (l.a2 == l.a2 && (l.a3 == l.a3 && (l.a4 == l.a4 && true)))) && (c.a0 == c.a0 && (c.a1 == c.a1 && (0 == 0 && (c.a3 == c.a3 && (c.a4 == c.a4 && true)))) && true))))) (by kernel_rfl) ?_⟩
      first | rfl | (simp [bl, *]; done) | (simp [bl, *]; omega)
    simp only [decide_eq_false_iff_not] at hq21
    refine AWP.skip ?_
    refine e0 [3, 4, 5, 8, 9, 10, 12, 13, 14, 15] [4, 5, 9, 10, 13, 14, 15] (by kernel_rfl) ?_
    refine e0 [3, 4, 5, 8, 9, 10, 12, 13, 14, 15] [4, 5, 9, 10, 13, 14, 15] (by kernel_rfl) ?_
    refine AWP.seq ?_
    refine e0 [3, 4, 5, 8, 9, 10, 12, 13, 14, 15, 65] [4, 5, 9, 10, 13, 14, 15] (by kernel_rfl) ?_
    refine AWP.condT (by kernel_rfl) ?_
    refine g0 [3, 4, 5, 8, 9, 10, 12, 13, 14, 15] [4, 5, 9, 10, 13, 14, 15] (by kernel_rfl) ?_
    refine e1 (os := [(bl true (l.a0 == l.a0 && (l.a1 == l.a1 && (l.a2 == l.a2 && (l.a3 == l.a3 && (l.a4 == l.a4 && true)))) && (U == c.a0 && (c.a1 == c.a1 && (c.a2 == c.a2 && (c.a3 == c.a3 && (c.a4 == c.a4 && true)))) && true)) && bl true ((0 : Int) == (0 : Int) && (un == un && (ev == ev && true)))) = true → Con Tryd.prog (18 : Nat) [] [V.agg true [u8 l.a0, u8 l.a1, u8 l.a2, u8 l.a3, u8 l.a4, u8 c.a0, u8 c.a1, u8 c.a2, u8 c.a3, u8 c.a4]] [] (V.agg true [u8 l.a0, u8 l.a1, u8 l.a2, u8 l.a3, u8 l.a4, u8 (0 : Int), u8 (0 : Int), u8 (0 : Int), u8 (0 : Int), u8 (0 : Int)]) ∧ True, (bl true (l.a0 == l.a0 && (l.a1 == l.a1 && (l.a2 == l.a2 && (l.a3 == l.a3 && (l.a4 == l.a4 && true)))) && (U == c.a0 && (c.a1 == c.a1 && (c.a2 == c.a2 && (c.a3 == c.a3 && (c.a4 == c.a4 && true)))) && true)) && bl true ((0 : Int) == (0 : Int) && (un == un && (ev == ev && true))) && bl true (l.a0 == l.a0 && (l.a1 == l.a1 && (l.a2 == l.a2 && (l.a3 == l.a3 && (l.a4 == l.a4 && true)))) && ((0 : Int) == (0 : Int) && ((0 : Int) == (0 : Int) && ((0 : Int) == (0 : Int) && ((0 : Int) == (0 : Int) && ((0 : Int) == (0 : Int) && true)))) && true))) = true → Con Tryd.prog (20 : Nat) [] [V.agg true [u8 l.a0, u8 l.a1, u8 l.a2, u8 l.a3, u8 l.a4, u8 c.a0, u8 c.a1, u8 c.a2, u8 c.a3, u8 c.a4], u8 (2 : Int)] [] (V.agg true [u8 l.a0, u8 l.a1, u8 l.a2, u8 l.a3, u8 l.a4, u8 c.a0, u8 c.a1, u8 (0 : Int), u8 c.a3, u8 c.a4]) ∧ True]) [(16, ⟨none, some ⟨ladV l (F5.mk 0 0 0 0 0), [], []⟩⟩), (23, ⟨none, some ⟨V.agg true [u8 l.a0, u8 l.a1, u8 l.a2, u8 l.a3, u8 l.a4, u8 c.a0, u8 c.a1, u8 0, u8 c.a3, u8 c.a4], [], []⟩⟩)] [8] [] (by kernel_rfl) ⟨(fun _ => ⟨(con_calm (l) (c)), trivial⟩), (fun _ => ⟨(c3 ), trivial⟩), trivial⟩ ?_
    refine AWP.ret ?_
    refine ⟨Or.inr rfl, Eq.trans (b := some ([], vb (bl true (l.a0 == l.a0 && (l.a1 == l.a1 && (l.a2 == l.a2 && (l.a3 == l.a3 && (l.a4 == l.a4 && true)))) && (U == c.a0 && (c.a1 == c.a1 && (c.a2 == c.a2 && (c.a3 == c.a3 && (c.a4 == c.a4 && true)))) && true)) && bl true (0 == 0 && (un == un && (ev == ev && true))) && bl true (l.a0 == l.a0 && (l.a1 == l.a1 && (l.a2 == l.a2 && (l.a3 == l.a3 && (l.a4 == l.a4 && true)))) && (0 == 0 && (0 == 0 && (0 == 0 && (0 == 0 && (0 == 0 && true)))) && true)) && bl true (l.a0 == l.a0 && (l.a1 == l.a1 && (l.a2 == l.a2 && (l.a3 == l.a3 && (l.a4 == l.a4 && true)))) && (c.a0 == c.a0 && (c.a1 == c.a1 && (0 == 0 && (c.a3 == c.a3 && (c.a4 == c.a4 && true)))) && true))))) (by kernel_rfl) ?_⟩
    first | rfl | (simp [bl, *]; done) | (simp [bl, *]; omega)
  · have c3 : Con Tryd.prog 20 [] [ladV l c, u8 3] [] (.agg true [u8 l.a0, u8 l.a1, u8 l.a2, u8 l.a3, u8 l.a4, u8 c.a0, u8 c.a1, u8 c.a2, u8 0, u8 c.a4]) := con_clear l c 3 (by omega)
    refine Con.of (C := ⟨Tryd.prog, tc, Tryd.f7.ntmps⟩) [] tcok Tryd.func7 rfl rfl (by kernel_rfl) (by kernel_rfl) ?_
    refine e0 [2, 3, 4, 5, 8] [4, 5] (by kernel_rfl) ?_
    refine AWP.seq ?_
    refine e1 [(0, ⟨none, some ⟨vb true, [], []⟩⟩)] [2, 3, 4, 5, 8, 17] [4, 5] (by kernel_rfl) (AllP.c (con_awake22 ) AllP.n) ?_
    refine AWP.condF (by kernel_rfl) ?_
    refine AWP.skip ?_
    refine e1 (os := [Con Tryd.prog 13 [] [V.agg true [u8 l.a0, u8 l.a1, u8 l.a2, u8 l.a3, u8 l.a4, u8 c.a0, u8 c.a1, u8 c.a2, u8 c.a3, u8 c.a4], V.agg true [u8 lv, i64 un, u8 ev], u8 inh] [] (V.tup [V.agg true [u8 l.a0, u8 l.a1, u8 l.a2, u8 l.a3, u8 l.a4, u8 U, u8 c.a1, u8 c.a2, u8 c.a3, u8 c.a4], V.agg true [u8 0, i64 un, u8 ev], vb true])]) [(3, ⟨none, some ⟨V.tup [V.agg true [u8 l.a0, u8 l.a1, u8 l.a2, u8 l.a3, u8 l.a4, u8 U, u8 c.a1, u8 c.a2, u8 c.a3, u8 c.a4], V.agg true [u8 0, i64 un, u8 ev], vb true], [], []⟩⟩)] [2, 3, 4, 5, 8, 9, 10, 11] [4, 5, 9, 10] (by kernel_rfl) ⟨(c1 ), trivial⟩ ?_
    refine e1 (os := [Con Tryd.prog 19 [] [V.agg true [u8 l.a0, u8 l.a1, u8 l.a2, u8 l.a3, u8 l.a4], V.agg true [u8 c.a0, u8 c.a1, u8 c.a2, u8 c.a3, u8 c.a4], V.agg true [u8 lv, i64 un, u8 ev], u8 inh] [] (i64 0)]) [(6, ⟨none, some ⟨i64 0, [], []⟩⟩)] [3, 4, 5, 8, 9, 10, 11, 12] [4, 5, 9, 10] (by kernel_rfl) ⟨(c2 ), trivial⟩ ?_
    refine AWP.seq ?_
    refine e0 [3, 4, 5, 8, 9, 10, 11, 12, 36] [4, 5, 9, 10] (by kernel_rfl) ?_
    refine AWP.condF (by kernel_rfl) ?_
    refine AWP.skip ?_
    refine AWP.seq ?_
    refine e0 [3, 4, 5, 8, 9, 10, 12, 38] [4, 5, 9, 10] (by kernel_rfl) ?_
    refine AWP.condF (by kernel_rfl) ?_
    refine AWP.skip ?_
    refine e0 [3, 4, 5, 8, 9, 10, 12, 13] [4, 5, 9, 10, 13] (by kernel_rfl) ?_
    refine AWP.seq ?_
    refine e0 [3, 4, 5, 8, 9, 10, 12, 13, 52] [4, 5, 9, 10, 13] (by kernel_rfl) ?_
    refine AWP.cond (b := decide (c.a0 < 255)) (by kernel_rfl) (fun hq27 => ?_) (fun hq27 => ?_)
    · simp only [decide_eq_true_eq] at hq27
      refine g1 (os := [u8 (IntKind.wrap IntKind.u8 (c.a0 + 1)) = u8 (c.a0 + 1)]) [(4, ⟨some (u8 (c.a0 + 1)), none⟩)] [3, 4, 5, 8, 9, 10, 12, 13] [4, 5, 9, 10, 13] (by kernel_rfl) ⟨(wr_u8 (by omega) (by omega)), trivial⟩ ?_
      refine e0 [3, 4, 5, 8, 9, 10, 12, 13, 14, 15] [4, 5, 9, 10, 13, 14, 15] (by kernel_rfl) ?_
      refine e0 [3, 4, 5, 8, 9, 10, 12, 13, 14, 15] [4, 5, 9, 10, 13, 14, 15] (by kernel_rfl) ?_
      refine AWP.seq ?_
      refine e0 [3, 4, 5, 8, 9, 10, 12, 13, 14, 15, 65] [4, 5, 9, 10, 13, 14, 15] (by kernel_rfl) ?_
      refine AWP.condT (by kernel_rfl) ?_
      refine g0 [3, 4, 5, 8, 9, 10, 12, 13, 14, 15] [4, 5, 9, 10, 13, 14, 15] (by kernel_rfl) ?_
      refine e1 (os := [(bl true (l.a0 == l.a0 && (l.a1 == l.a1 && (l.a2 == l.a2 && (l.a3 == l.a3 && (l.a4 == l.a4 && true)))) && (U == c.a0 + (1 : Int) && (c.a1 == c.a1 && (c.a2 == c.a2 && (c.a3 == c.a3 && (c.a4 == c.a4 && true)))) && true)) && bl true ((0 : Int) == (0 : Int) && (un == un && (ev == ev && true)))) = true → Con Tryd.prog (18 : Nat) [] [V.agg true [u8 l.a0, u8 l.a1, u8 l.a2, u8 l.a3, u8 l.a4, u8 c.a0, u8 c.a1, u8 c.a2, u8 c.a3, u8 c.a4]] [] (V.agg true [u8 l.a0, u8 l.a1, u8 l.a2, u8 l.a3, u8 l.a4, u8 (0 : Int), u8 (0 : Int), u8 (0 : Int), u8 (0 : Int), u8 (0 : Int)]) ∧ True, (bl true (l.a0 == l.a0 && (l.a1 == l.a1 && (l.a2 == l.a2 && (l.a3 == l.a3 && (l.a4 == l.a4 && true)))) && (U == c.a0 + (1 : Int) && (c.a1 == c.a1 && (c.a2 == c.a2 && (c.a3 == c.a3 && (c.a4 == c.a4 && true)))) && true)) && bl true ((0 : Int) == (0 : Int) && (un == un && (ev == ev && true))) && bl true (l.a0 == l.a0 && (l.a1 == l.a1 && (l.a2 == l.a2 && (l.a3 == l.a3 && (l.a4 == l.a4 && true)))) && ((0 : Int) == (0 : Int) && ((0 : Int) == (0 : Int) && ((0 : Int) == (0 : Int) && ((0 : Int) == (0 : Int) && ((0 : Int) == (0 : Int) && true)))) && true))) = true → Con Tryd.prog (20 : Nat) [] [V.agg true [u8 l.a0, u8 l.a1, u8 l.a2, u8 l.a3, u8 l.a4, u8 c.a0, u8 c.a1, u8 c.a2, u8 c.a3, u8 c.a4], u8 (3 : Int)] [] (V.agg true [u8 l.a0, u8 l.a1, u8 l.a2, u8 l.a3, u8 l.a4, u8 c.a0, u8 c.a1, u8 c.a2, u8 (0 : Int), u8 c.a4]) ∧ True]) [(16, ⟨none, some ⟨ladV l (F5.mk 0 0 0 0 0), [], []⟩⟩), (23, ⟨none, some ⟨V.agg true [u8 l.a0, u8 l.a1, u8 l.a2, u8 l.a3, u8 l.a4, u8 c.a0, u8 c.a1, u8 c.a2, u8 0, u8 c.a4], [], []⟩⟩)] [8] [] (by kernel_rfl) ⟨(fun _ => ⟨(con_calm (l) (c)), trivial⟩), (fun _ => ⟨(c3 ), trivial⟩), trivial⟩ ?_
      refine AWP.ret ?_
      refine ⟨Or.inr rfl, Eq.trans (b := some ([], vb (bl true (l.a0 == l.a0 && (l.a1 == l.a1 && (l.a2 == l.a2 && (l.a3 == l.a3 && (l.a4 == l.a4 && true)))) && (U == c.a0 + 1 && (c.a1 == c.a1 && (c.a2 == c.a2 && (c.a3 == c.a3 && (c.a4 == c.a4 && true)))) && true)) && bl true (0 == 0 && (un == un && (ev == ev && true))) && bl true (l.a0 == l.a0 && (l.a1 == l.a1 && (l.a2 == l.a2 && (l.a3 == l.a3 && (l.a4 == l.a4 && true)))) && (0 == 0 && (0 == 0 && (0 == 0 && (0 == 0 && (0 == 0 && true)))) && true)) && bl true (l.a0 == l.a0 && (l.a1 == l.a1 && (l.a2 == l.a2 && (l.a3 == l.a3 && (l.a4 == l.a4 && true)))) && (c.a0 == c.a0 && (c.a1 == c.a1 && (c.a2 == c.a2 && (0 == 0 && (c.a4 == c.a4 && true)))) && true))))) (by kernel_rfl) ?_⟩
      first | rfl | (simp [bl, *]; done) | (simp [bl, *]; omega)
    simp only [decide_eq_false_iff_not] at hq27
    refine AWP.skip ?_
    refine e0 [3, 4, 5, 8, 9, 10, 12, 13, 14, 15] [4, 5, 9, 10, 13, 14, 15] (by kernel_rfl) ?_
    refine e0 [3, 4, 5, 8, 9, 10, 12, 13, 14, 15] [4, 5, 9, 10, 13, 14, 15] (by kernel_rfl) ?_
    refine AWP.seq ?_
    refine e0 [3, 4, 5, 8, 9, 10, 12, 13, 14, 15, 65] [4, 5, 9, 10, 13, 14, 15] (by kernel_rfl) ?_
    refine AWP.condT (by kernel_rfl) ?_
    refine g0 [3, 4, 5, 8, 9, 10, 12, 13, 14, 15] [4, 5, 9, 10, 13, 14, 15] (by kernel_rfl) ?_
    refine e1 (os := [(bl true (l.a0 == l.a0 && (l.a1 == l.a1 && (l.a2 == l.a2 && (l.a3 == l.a3 && (l.a4 == l.a4 && true)))) && (U == c.a0 && (c.a1 == c.a1 && (c.a2 == c.a2 && (c.a3 == c.a3 && (c.a4 == c.a4 && true)))) && true)) && bl true ((0 : Int) == (0 : Int) && (un == un && (ev == ev && true)))) = true → Con Tryd.prog (18 : Nat) [] [V.agg true [u8 l.a0, u8 l.a1, u8 l.a2, u8 l.a3, u8 l.a4, u8 c.a0, u8 c.a1, u8 c.a2, u8 c.a3, u8 c.a4]] [] (V.agg true [u8 l.a0, u8 l.a1, u8 l.a2, u8 l.a3, u8 l.a4, u8 (0 : Int), u8 (0 : Int), u8 (0 : Int), u8 (0 : Int), u8 (0 : Int)]) ∧ True, (bl true (l.a0 == l.a0 && (l.a1 == l.a1 && (l.a2 == l.a2 && (l.a3 == l.a3 && (l.a4 == l.a4 && true)))) && (U == c.a0 && (c.a1 == c.a1 && (c.a2 == c.a2 && (c.a3 == c.a3 && (c.a4 == c.a4 && true)))) && true)) && bl true ((0 : Int) == (0 : Int) && (un == un && (ev == ev && true))) && bl true (l.a0 == l.a0 && (l.a1 == l.a1 && (l.a2 == l.a2 && (l.a3 == l.a3 && (l.a4 == l.a4 && true)))) && ((0 : Int) == (0 : Int) && ((0 : Int) == (0 : Int) && ((0 : Int) == (0 : Int) && ((0 : Int) == (0 : Int) && ((0 : Int) == (0 : Int) && true)))) && true))) = true → Con Tryd.prog (20 : Nat) [] [V.agg true [u8 l.a0, u8 l.a1, u8 l.a2, u8 l.a3, u8 l.a4, u8 c.a0, u8 c.a1, u8 c.a2, u8 c.a3, u8 c.a4], u8 (3 : Int)] [] (V.agg true [u8 l.a0, u8 l.a1, u8 l.a2, u8 l.a3, u8 l.a4, u8 c.a0, u8 c.a1, u8 c.a2, u8 (0 : Int), u8 c.a4]) ∧ True]) [(16, ⟨none, some ⟨ladV l (F5.mk 0 0 0 0 0), [], []⟩⟩), (23, ⟨none, some ⟨V.agg true [u8 l.a0, u8 l.a1, u8 l.a2, u8 l.a3, u8 l.a4, u8 c.a0, u8 c.a1, u8 c.a2, u8 0, u8 c.a4], [], []⟩⟩)] [8] [] (by kernel_rfl) ⟨(fun _ => ⟨(con_calm (l) (c)), trivial⟩), (fun _ => ⟨(c3 ), trivial⟩), trivial⟩ ?_
    refine AWP.ret ?_
    refine ⟨Or.inr rfl, Eq.trans (b := some ([], vb (bl true (l.a0 == l.a0 && (l.a1 == l.a1 && (l.a2 == l.a2 && (l.a3 == l.a3 && (l.a4 == l.a4 && true)))) && (U == c.a0 && (c.a1 == c.a1 && (c.a2 == c.a2 && (c.a3 == c.a3 && (c.a4 == c.a4 && true)))) && true)) && bl true (0 == 0 && (un == un && (ev == ev && true))) && bl true (l.a0 == l.a0 && (l.a1 == l.a1 && (l.a2 == l.a2 && (l.a3 == l.a3 && (l.a4 == l.a4 && true)))) && (0 == 0 && (0 == 0 && (0 == 0 && (0 == 0 && (0 == 0 && true)))) && true)) && bl true (l.a0 == l.a0 && (l.a1 == l.a1 && (l.a2 == l.a2 && (l.a3 == l.a3 && (l.a4 == l.a4 && true)))) && (c.a0 == c.a0 && (c.a1 == c.a1 && (c.a2 == c.a2 && (0 == 0 && (c.a4 == c.a4 && true)))) && true))))) (by kernel_rfl) ?_⟩
    first | rfl | (simp [bl, *]; done) | (simp [bl, *]; omega)
  · have c3 : Con Tryd.prog 20 [] [ladV l c, u8 4] [] (.agg true [u8 l.a0, u8 l.a1, u8 l.a2, u8 l.a3, u8 l.a4, u8 c.a0, u8 c.a1, u8 c.a2, u8 c.a3, u8 0]) := con_clear l c 4 (by omega)
    refine Con.of (C := ⟨Tryd.prog, tc, Tryd.f7.ntmps⟩) [] tcok Tryd.func7 rfl rfl (by kernel_rfl) (by kernel_rfl) ?_
    refine e0 [2, 3, 4, 5, 8] [4, 5] (by kernel_rfl) ?_
    refine AWP.seq ?_
    refine e1 [(0, ⟨none, some ⟨vb true, [], []⟩⟩)] [2, 3, 4, 5, 8, 17] [4, 5] (by kernel_rfl) (AllP.c (con_awake22 ) AllP.n) ?_
    refine AWP.condF (by kernel_rfl) ?_
    refine AWP.skip ?_
    refine e1 (os := [Con Tryd.prog 13 [] [V.agg true [u8 l.a0, u8 l.a1, u8 l.a2, u8 l.a3, u8 l.a4, u8 c.a0, u8 c.a1, u8 c.a2, u8 c.a3, u8 c.a4], V.agg true [u8 lv, i64 un, u8 ev], u8 inh] [] (V.tup [V.agg true [u8 l.a0, u8 l.a1, u8 l.a2, u8 l.a3, u8 l.a4, u8 U, u8 c.a1, u8 c.a2, u8 c.a3, u8 c.a4], V.agg true [u8 0, i64 un, u8 ev], vb true])]) [(3, ⟨none, some ⟨V.tup [V.agg true [u8 l.a0, u8 l.a1, u8 l.a2, u8 l.a3, u8 l.a4, u8 U, u8 c.a1, u8 c.a2, u8 c.a3, u8 c.a4], V.agg true [u8 0, i64 un, u8 ev], vb true], [], []⟩⟩)] [2, 3, 4, 5, 8, 9, 10, 11] [4, 5, 9, 10] (by kernel_rfl) ⟨(c1 ), trivial⟩ ?_
    refine e1 (os := [Con Tryd.prog 19 [] [V.agg true [u8 l.a0, u8 l.a1, u8 l.a2, u8 l.a3, u8 l.a4], V.agg true [u8 c.a0, u8 c.a1, u8 c.a2, u8 c.a3, u8 c.a4], V.agg true [u8 lv, i64 un, u8 ev], u8 inh] [] (i64 0)]) [(6, ⟨none, some ⟨i64 0, [], []⟩⟩)] [3, 4, 5, 8, 9, 10, 11, 12] [4, 5, 9, 10] (by kernel_rfl) ⟨(c2 ), trivial⟩ ?_
    refine AWP.seq ?_
    refine e0 [3, 4, 5, 8, 9, 10, 11, 12, 36] [4, 5, 9, 10] (by kernel_rfl) ?_
    refine AWP.condF (by kernel_rfl) ?_
    refine AWP.skip ?_
    refine AWP.seq ?_
    refine e0 [3, 4, 5, 8, 9, 10, 12, 38] [4, 5, 9, 10] (by kernel_rfl) ?_
    refine AWP.condF (by kernel_rfl) ?_
    refine AWP.skip ?_
    refine e0 [3, 4, 5, 8, 9, 10, 12, 13] [4, 5, 9, 10, 13] (by kernel_rfl) ?_
    refine AWP.seq ?_
    refine e0 [3, 4, 5, 8, 9, 10, 12, 13, 52] [4, 5, 9, 10, 13] (by kernel_rfl) ?_
    refine AWP.cond (b := decide (c.a0 < 255)) (by kernel_rfl) (fun hq33 => ?_) (fun hq33 => ?_)
    · simp only [decide_eq_true_eq] at hq33
      refine g1 (os := [u8 (IntKind.wrap IntKind.u8 (c.a0 + 1)) = u8 (c.a0 + 1)]) [(4, ⟨some (u8 (c.a0 + 1)), none⟩)] [3, 4, 5, 8, 9, 10, 12, 13] [4, 5, 9, 10, 13] (by kernel_rfl) ⟨(wr_u8 (by omega) (by omega)), trivial⟩ ?_
      refine e0 [3, 4, 5, 8, 9, 10, 12, 13, 14, 15] [4, 5, 9, 10, 13, 14, 15] (by kernel_rfl) ?_
      refine e0 [3, 4, 5, 8, 9, 10, 12, 13, 14, 15] [4, 5, 9, 10, 13, 14, 15] (by kernel_rfl) ?_
      refine AWP.seq ?_
      refine e0 [3, 4, 5, 8, 9, 10, 12, 13, 14, 15, 65] [4, 5, 9, 10, 13, 14, 15] (by kernel_rfl) ?_
      refine AWP.condT (by kernel_rfl) ?_
      refine g0 [3, 4, 5, 8, 9, 10, 12, 13, 14, 15] [4, 5, 9, 10, 13, 14, 15] (by kernel_rfl) ?_
      refine e1 (os := [(bl true (l.a0 == l.a0 && (l.a1 == l.a1 && (l.a2 == l.a2 && (l.a3 == l.a3 && (l.a4 == l.a4 && true)))) && (U == c.a0 + (1 : Int) && (c.a1 == c.a1 && (c.a2 == c.a2 && (c.a3 == c.a3 && (c.a4 == c.a4 && true)))) && true)) && bl true ((0 : Int) == (0 : Int) && (un == un && (ev == ev && true)))) = true → Con Tryd.prog (18 : Nat) [] [V.agg true [u8 l.a0, u8 l.a1, u8 l.a2, u8 l.a3, u8 l.a4, u8 c.a0, u8 c.a1, u8 c.a2, u8 c.a3, u8 c.a4]] [] (V.agg true [u8 l.a0, u8 l.a1, u8 l.a2, u8 l.a3, u8 l.a4, u8 (0 : Int), u8 (0 : Int), u8 (0 : Int), u8 (0 : Int), u8 (0 : Int)]) ∧ True, (bl true (l.a0 == l.a0 && (l.a1 == l.a1 && (l.a2 == l.a2 && (l.a3 == l.a3 && (l.a4 == l.a4 && true)))) && (U == c.a0 + (1 : Int) && (c.a1 == c.a1 && (c.a2 == c.a2 && (c.a3 == c.a3 && (c.a4 == c.a4 && true)))) && true)) && bl true ((0 : Int) == (0 : Int) && (un == un && (ev == ev && true))) && bl true (l.a0 == l.a0 && (l.a1 == l.a1 && (l.a2 == l.a2 && (l.a3 == l.a3 && (l.a4 == l.a4 && true)))) && ((0 : Int) == (0 : Int) && ((0 : Int) == (0 : Int) && ((0 : Int) == (0 : Int) && ((0 : Int) == (0 : Int) && ((0 : Int) == (0 : Int) && true)))) && true))) = true → Con Tryd.prog (20 : Nat) [] [V.agg true [u8 l.a0, u8 l.a1, u8 l.a2, u8 l.a3, u8 l.a4, u8 c.a0, u8 c.a1, u8 c.a2, u8 c.a3, u8 c.a4], u8 (4 : Int)] [] (V.agg true [u8 l.a0, u8 l.a1, u8 l.a2, u8 l.a3, u8 l.a4, u8 c.a0, u8 c.a1, u8 c.a2, u8 c.a3, u8 (0 : Int)]) ∧ True]) [(16, ⟨none, some ⟨ladV l (F5.mk 0 0 0 0 0), [], []⟩⟩), (23, ⟨none, some ⟨V.agg true [u8 l.a0, u8 l.a1, u8 l.a2, u8 l.a3, u8 l.a4, u8 c.a0, u8 c.a1, u8 c.a2, u8 c.a3, u8 0], [], []⟩⟩)] [8] [] (by kernel_rfl) ⟨(fun _ => ⟨(con_calm (l) (c)), trivial⟩), (fun _ => ⟨(c3 ), trivial⟩), trivial⟩ ?_
      refine AWP.ret ?_
      refine ⟨Or.inr rfl, Eq.trans (b := some ([], vb (bl true (l.a0 == l.a0 && (l.a1 == l.a1 && (l.a2 == l.a2 && (l.a3 == l.a3 && (l.a4 == l.a4 && true)))) && (U == c.a0 + 1 && (c.a1 == c.a1 && (c.a2 == c.a2 && (c.a3 == c.a3 && (c.a4 == c.a4 && true)))) && true)) && bl true (0 == 0 && (un == un && (ev == ev && true))) && bl true (l.a0 == l.a0 && (l.a1 == l.a1 && (l.a2 == l.a2 && (l.a3 == l.a3 && (l.a4 == l.a4 && true)))) && (0 == 0 && (0 == 0 && (0 == 0 && (0 == 0 && (0 == 0 && true)))) && true)) && bl true (l.a0 == l.a0 && (l.a1 == l.a1 && (l.a2 == l.a2 && (l.a3 == l.a3 && (l.a4 == l.a4 && true)))) && (c.a0 == c.a0 && (c.a1 == c.a1 && (c.a2 == c.a2 && (c.a3 == c.a3 && (0 == 0 && true)))) && true))))) (by kernel_rfl) ?_⟩
      first | rfl | (simp [bl, *]; done) | (simp [bl, *]; omega)
    simp only [decide_eq_false_iff_not] at hq33
    refine AWP.skip ?_
    refine e0 [3, 4, 5, 8, 9, 10, 12, 13, 14, 15] [4, 5, 9, 10, 13, 14, 15] (by kernel_rfl) ?_
    refine e0 [3, 4, 5, 8, 9, 10, 12, 13, 14, 15] [4, 5, 9, 10, 13, 14, 15] (by kernel_rfl) ?_
    refine AWP.seq ?_
    refine e0 [3, 4, 5, 8, 9, 10, 12, 13, 14, 15, 65] [4, 5, 9, 10, 13, 14, 15] (by kernel_rfl) ?_
    refine AWP.condT (by kernel_rfl) ?_
    refine g0 [3, 4, 5, 8, 9, 10, 12, 13, 14, 15] [4, 5, 9, 10, 13, 14, 15] (by kernel_rfl) ?_
    refine e1 (os := [(bl true (l.a0 == l.a0 && (l.a1 == l.a1 && (l.a2 == l.a2 && (l.a3 == l.a3 && (l.a4 == l.a4 && true)))) && (U == c.a0 && (c.a1 == c.a1 && (c.a2 == c.a2 && (c.a3 == c.a3 && (c.a4 == c.a4 && true)))) && true)) && bl true ((0 : Int) == (0 : Int) && (un == un && (ev == ev && true)))) = true → Con Tryd.prog (18 : Nat) [] [V.agg true [u8 l.a0, u8 l.a1, u8 l.a2, u8 l.a3, u8 l.a4, u8 c.a0, u8 c.a1, u8 c.a2, u8 c.a3, u8 c.a4]] [] (V.agg true [u8 l.a0, u8 l.a1, u8 l.a2, u8 l.a3, u8 l.a4, u8 (0 : Int), u8 (0 : Int), u8 (0 : Int), u8 (0 : Int), u8 (0 : Int)]) ∧ True, (bl true (l.a0 == l.a0 && (l.a1 == l.a1 && (l.a2 == l.a2 && (l.a3 == l.a3 && (l.a4 == l.a4 && true)))) && (U == c.a0 && (c.a1 == c.a1 && (c.a2 == c.a2 && (c.a3 == c.a3 && (c.a4 == c.a4 && true)))) && true)) && bl true ((0 : Int) == (0 : Int) && (un == un && (ev == ev && true))) && bl true (l.a0 == l.a0 && (l.a1 == l.a1 && (l.a2 == l.a2 && (l.a3 == l.a3 && (l.a4 == l.a4 && true)))) && ((0 : Int) == (0 : Int) && ((0 : Int) == (0 : Int) && ((0 : Int) == (0 : Int) && ((0 : Int) == (0 : Int) && ((0 : Int) == (0 : Int) && true)))) && true))) = true → Con Tryd.prog (20 : Nat) [] [V.agg true [u8 l.a0, u8 l.a1, u8 l.a2, u8 l.a3, u8 l.a4, u8 c.a0, u8 c.a1, u8 c.a2, u8 c.a3, u8 c.a4], u8 (4 : Int)] [] (V.agg true [u8 l.a0, u8 l.a1, u8 l.a2, u8 l.a3, u8 l.a4, u8 c.a0, u8 c.a1, u8 c.a2, u8 c.a3, u8 (0 : Int)]) ∧ True]) [(16, ⟨none, some ⟨ladV l (F5.mk 0 0 0 0 0), [], []⟩⟩), (23, ⟨none, some ⟨V.agg true [u8 l.a0, u8 l.a1, u8 l.a2, u8 l.a3, u8 l.a4, u8 c.a0, u8 c.a1, u8 c.a2, u8 c.a3, u8 0], [], []⟩⟩)] [8] [] (by kernel_rfl) ⟨(fun _ => ⟨(con_calm (l) (c)), trivial⟩), (fun _ => ⟨(c3 ), trivial⟩), trivial⟩ ?_
    refine AWP.ret ?_
    refine ⟨Or.inr rfl, Eq.trans (b := some ([], vb (bl true (l.a0 == l.a0 && (l.a1 == l.a1 && (l.a2 == l.a2 && (l.a3 == l.a3 && (l.a4 == l.a4 && true)))) && (U == c.a0 && (c.a1 == c.a1 && (c.a2 == c.a2 && (c.a3 == c.a3 && (c.a4 == c.a4 && true)))) && true)) && bl true (0 == 0 && (un == un && (ev == ev && true))) && bl true (l.a0 == l.a0 && (l.a1 == l.a1 && (l.a2 == l.a2 && (l.a3 == l.a3 && (l.a4 == l.a4 && true)))) && (0 == 0 && (0 == 0 && (0 == 0 && (0 == 0 && (0 == 0 && true)))) && true)) && bl true (l.a0 == l.a0 && (l.a1 == l.a1 && (l.a2 == l.a2 && (l.a3 == l.a3 && (l.a4 == l.a4 && true)))) && (c.a0 == c.a0 && (c.a1 == c.a1 && (c.a2 == c.a2 && (c.a3 == c.a3 && (0 == 0 && true)))) && true))))) (by kernel_rfl) ?_⟩
    first | rfl | (simp [bl, *]; done) | (simp [bl, *]; omega)
  · have c3 := con_clear_no l c w hw
    refine Con.of (C := ⟨Tryd.prog, tc, Tryd.f7.ntmps⟩) [] tcok Tryd.func7 rfl rfl (by kernel_rfl) (by kernel_rfl) ?_
    refine e0 [2, 3, 4, 5, 8] [4, 5] (by kernel_rfl) ?_
    refine AWP.seq ?_
    refine e1 [(0, ⟨none, some ⟨vb true, [], []⟩⟩)] [2, 3, 4, 5, 8, 17] [4, 5] (by kernel_rfl) (AllP.c (con_awake22 ) AllP.n) ?_
    refine AWP.condF (by kernel_rfl) ?_
    refine AWP.skip ?_
    refine e1 (os := [Con Tryd.prog 13 [] [V.agg true [u8 l.a0, u8 l.a1, u8 l.a2, u8 l.a3, u8 l.a4, u8 c.a0, u8 c.a1, u8 c.a2, u8 c.a3, u8 c.a4], V.agg true [u8 lv, i64 un, u8 ev], u8 inh] [] (V.tup [V.agg true [u8 l.a0, u8 l.a1, u8 l.a2, u8 l.a3, u8 l.a4, u8 U, u8 c.a1, u8 c.a2, u8 c.a3, u8 c.a4], V.agg true [u8 0, i64 un, u8 ev], vb true])]) [(3, ⟨none, some ⟨V.tup [V.agg true [u8 l.a0, u8 l.a1, u8 l.a2, u8 l.a3, u8 l.a4, u8 U, u8 c.a1, u8 c.a2, u8 c.a3, u8 c.a4], V.agg true [u8 0, i64 un, u8 ev], vb true], [], []⟩⟩)] [2, 3, 4, 5, 8, 9, 10, 11] [4, 5, 9, 10] (by kernel_rfl) ⟨(c1 ), trivial⟩ ?_
    refine e1 (os := [Con Tryd.prog 19 [] [V.agg true [u8 l.a0, u8 l.a1, u8 l.a2, u8 l.a3, u8 l.a4], V.agg true [u8 c.a0, u8 c.a1, u8 c.a2, u8 c.a3, u8 c.a4], V.agg true [u8 lv, i64 un, u8 ev], u8 inh] [] (i64 0)]) [(6, ⟨none, some ⟨i64 0, [], []⟩⟩)] [3, 4, 5, 8, 9, 10, 11, 12] [4, 5, 9, 10] (by kernel_rfl) ⟨(c2 ), trivial⟩ ?_
    refine AWP.seq ?_
    refine e0 [3, 4, 5, 8, 9, 10, 11, 12, 36] [4, 5, 9, 10] (by kernel_rfl) ?_
    refine AWP.condF (by kernel_rfl) ?_
    refine AWP.skip ?_
    refine AWP.seq ?_
    refine e0 [3, 4, 5, 8, 9, 10, 12, 38] [4, 5, 9, 10] (by kernel_rfl) ?_
    refine AWP.condF (by kernel_rfl) ?_
    refine AWP.skip ?_
    refine e0 [3, 4, 5, 8, 9, 10, 12, 13] [4, 5, 9, 10, 13] (by kernel_rfl) ?_
    refine AWP.seq ?_
    refine e0 [3, 4, 5, 8, 9, 10, 12, 13, 52] [4, 5, 9, 10, 13] (by kernel_rfl) ?_
    refine AWP.cond (b := decide (c.a0 < 255)) (by kernel_rfl) (fun hq39 => ?_) (fun hq39 => ?_)
    · simp only [decide_eq_true_eq] at hq39
      refine g1 (os := [u8 (IntKind.wrap IntKind.u8 (c.a0 + 1)) = u8 (c.a0 + 1)]) [(4, ⟨some (u8 (c.a0 + 1)), none⟩)] [3, 4, 5, 8, 9, 10, 12, 13] [4, 5, 9, 10, 13] (by kernel_rfl) ⟨(wr_u8 (by omega) (by omega)), trivial⟩ ?_
      refine e0 [3, 4, 5, 8, 9, 10, 12, 13, 14, 15] [4, 5, 9, 10, 13, 14, 15] (by kernel_rfl) ?_
      refine e0 [3, 4, 5, 8, 9, 10, 12, 13, 14, 15] [4, 5, 9, 10, 13, 14, 15] (by kernel_rfl) ?_
      refine AWP.seq ?_
      refine e0 [3, 4, 5, 8, 9, 10, 12, 13, 14, 15, 65] [4, 5, 9, 10, 13, 14, 15] (by kernel_rfl) ?_
      refine AWP.cond (b := decide (w < 5)) (by kernel_rfl) (fun hq40 => ?_) (fun hq40 => ?_)
      · simp only [decide_eq_true_eq] at hq40
        (exfalso; omega)
      simp only [decide_eq_false_iff_not] at hq40
      refine AWP.skip ?_
      refine e1 (os := [(bl true (l.a0 == l.a0 && (l.a1 == l.a1 && (l.a2 == l.a2 && (l.a3 == l.a3 && (l.a4 == l.a4 && true)))) && (U == c.a0 + (1 : Int) && (c.a1 == c.a1 && (c.a2 == c.a2 && (c.a3 == c.a3 && (c.a4 == c.a4 && true)))) && true)) && bl true ((0 : Int) == (0 : Int) && (un == un && (ev == ev && true)))) = true → Con Tryd.prog (18 : Nat) [] [V.agg true [u8 l.a0, u8 l.a1, u8 l.a2, u8 l.a3, u8 l.a4, u8 c.a0, u8 c.a1, u8 c.a2, u8 c.a3, u8 c.a4]] [] (V.agg true [u8 l.a0, u8 l.a1, u8 l.a2, u8 l.a3, u8 l.a4, u8 (0 : Int), u8 (0 : Int), u8 (0 : Int), u8 (0 : Int), u8 (0 : Int)]) ∧ True, (bl true (l.a0 == l.a0 && (l.a1 == l.a1 && (l.a2 == l.a2 && (l.a3 == l.a3 && (l.a4 == l.a4 && true)))) && (U == c.a0 + (1 : Int) && (c.a1 == c.a1 && (c.a2 == c.a2 && (c.a3 == c.a3 && (c.a4 == c.a4 && true)))) && true)) && bl true ((0 : Int) == (0 : Int) && (un == un && (ev == ev && true))) && bl true (l.a0 == l.a0 && (l.a1 == l.a1 && (l.a2 == l.a2 && (l.a3 == l.a3 && (l.a4 == l.a4 && true)))) && ((0 : Int) == (0 : Int) && ((0 : Int) == (0 : Int) && ((0 : Int) == (0 : Int) && ((0 : Int) == (0 : Int) && ((0 : Int) == (0 : Int) && true)))) && true))) = true → Con Tryd.prog (20 : Nat) [] [V.agg true [u8 l.a0, u8 l.a1, u8 l.a2, u8 l.a3, u8 l.a4, u8 c.a0, u8 c.a1, u8 c.a2, u8 c.a3, u8 c.a4], u8 w] [] (V.agg true [u8 l.a0, u8 l.a1, u8 l.a2, u8 l.a3, u8 l.a4, u8 c.a0, u8 c.a1, u8 c.a2, u8 c.a3, u8 c.a4]) ∧ True]) [(16, ⟨none, some ⟨ladV l (F5.mk 0 0 0 0 0), [], []⟩⟩), (23, ⟨none, some ⟨ladV l c, [], []⟩⟩)] [8] [] (by kernel_rfl) ⟨(fun _ => ⟨(con_calm (l) (c)), trivial⟩), (fun _ => ⟨(c3 ), trivial⟩), trivial⟩ ?_
      refine AWP.ret ?_
      refine ⟨Or.inr rfl, Eq.trans (b := some ([], vb (bl true (l.a0 == l.a0 && (l.a1 == l.a1 && (l.a2 == l.a2 && (l.a3 == l.a3 && (l.a4 == l.a4 && true)))) && (U == c.a0 + 1 && (c.a1 == c.a1 && (c.a2 == c.a2 && (c.a3 == c.a3 && (c.a4 == c.a4 && true)))) && true)) && bl true (0 == 0 && (un == un && (ev == ev && true))) && bl true (l.a0 == l.a0 && (l.a1 == l.a1 && (l.a2 == l.a2 && (l.a3 == l.a3 && (l.a4 == l.a4 && true)))) && (0 == 0 && (0 == 0 && (0 == 0 && (0 == 0 && (0 == 0 && true)))) && true)) && bl true (l.a0 == l.a0 && (l.a1 == l.a1 && (l.a2 == l.a2 && (l.a3 == l.a3 && (l.a4 == l.a4 && true)))) && (c.a0 == c.a0 && (c.a1 == c.a1 && (c.a2 == c.a2 && (c.a3 == c.a3 && (c.a4 == c.a4 && true)))) && true))))) (by kernel_rfl) ?_⟩
      first | rfl | (simp [bl, *]; done) | (simp [bl, *]; omega)
    simp only [decide_eq_false_iff_not] at hq39
    refine AWP.skip ?_
    refine e0 [3, 4, 5, 8, 9, 10, 12, 13, 14, 15] [4, 5, 9, 10, 13, 14, 15] (by kernel_rfl) ?_
    refine e0 [3, 4, 5, 8, 9, 10, 12, 13, 14, 15] [4, 5, 9, 10, 13, 14, 15] (by kernel_rfl) ?_
    refine AWP.seq ?_
    refine e0 [3, 4, 5, 8, 9, 10, 12, 13, 14, 15, 65] [4, 5, 9, 10, 13, 14, 15] (by kernel_rfl) ?_
    refine AWP.cond (b := decide (w < 5)) (by kernel_rfl) (fun hq41 => ?_) (fun hq41 => ?_)
    · simp only [decide_eq_true_eq] at hq41
      (exfalso; omega)
    simp only [decide_eq_false_iff_not] at hq41
    refine AWP.skip ?_
    refine e1 (os := [(bl true (l.a0 == l.a0 && (l.a1 == l.a1 && (l.a2 == l.a2 && (l.a3 == l.a3 && (l.a4 == l.a4 && true)))) && (U == c.a0 && (c.a1 == c.a1 && (c.a2 == c.a2 && (c.a3 == c.a3 && (c.a4 == c.a4 && true)))) && true)) && bl true ((0 : Int) == (0 : Int) && (un == un && (ev == ev && true)))) = true → Con Tryd.prog (18 : Nat) [] [V.agg true [u8 l.a0, u8 l.a1, u8 l.a2, u8 l.a3, u8 l.a4, u8 c.a0, u8 c.a1, u8 c.a2, u8 c.a3, u8 c.a4]] [] (V.agg true [u8 l.a0, u8 l.a1, u8 l.a2, u8 l.a3, u8 l.a4, u8 (0 : Int), u8 (0 : Int), u8 (0 : Int), u8 (0 : Int), u8 (0 : Int)]) ∧ True, (bl true (l.a0 == l.a0 && (l.a1 == l.a1 && (l.a2 == l.a2 && (l.a3 == l.a3 && (l.a4 == l.a4 && true)))) && (U == c.a0 && (c.a1 == c.a1 && (c.a2 == c.a2 && (c.a3 == c.a3 && (c.a4 == c.a4 && true)))) && true)) && bl true ((0 : Int) == (0 : Int) && (un == un && (ev == ev && true))) && bl true (l.a0 == l.a0 && (l.a1 == l.a1 && (l.a2 == l.a2 && (l.a3 == l.a3 && (l.a4 == l.a4 && true)))) && ((0 : Int) == (0 : Int) && ((0 : Int) == (0 : Int) && ((0 : Int) == (0 : Int) && ((0 : Int) == (0 : Int) && ((0 : Int) == (0 : Int) && true)))) && true))) = true → Con Tryd.prog (20 : Nat) [] [V.agg true [u8 l.a0, u8 l.a1, u8 l.a2, u8 l.a3, u8 l.a4, u8 c.a0, u8 c.a1, u8 c.a2, u8 c.a3, u8 c.a4], u8 w] [] (V.agg true [u8 l.a0, u8 l.a1, u8 l.a2, u8 l.a3, u8 l.a4, u8 c.a0, u8 c.a1, u8 c.a2, u8 c.a3, u8 c.a4]) ∧ True]) [(16, ⟨none, some ⟨ladV l (F5.mk 0 0 0 0 0), [], []⟩⟩), (23, ⟨none, some ⟨ladV l c, [], []⟩⟩)] [8] [] (by kernel_rfl) ⟨(fun _ => ⟨(con_calm (l) (c)), trivial⟩), (fun _ => ⟨(c3 ), trivial⟩), trivial⟩ ?_
    refine AWP.ret ?_
    refine ⟨Or.inr rfl, Eq.trans (b := some ([], vb (bl true (l.a0 == l.a0 && (l.a1 == l.a1 && (l.a2 == l.a2 && (l.a3 == l.a3 && (l.a4 == l.a4 && true)))) && (U == c.a0 && (c.a1 == c.a1 && (c.a2 == c.a2 && (c.a3 == c.a3 && (c.a4 == c.a4 && true)))) && true)) && bl true (0 == 0 && (un == un && (ev == ev && true))) && bl true (l.a0 == l.a0 && (l.a1 == l.a1 && (l.a2 == l.a2 && (l.a3 == l.a3 && (l.a4 == l.a4 && true)))) && (0 == 0 && (0 == 0 && (0 == 0 && (0 == 0 && (0 == 0 && true)))) && true)) && bl true (l.a0 == l.a0 && (l.a1 == l.a1 && (l.a2 == l.a2 && (l.a3 == l.a3 && (l.a4 == l.a4 && true)))) && (c.a0 == c.a0 && (c.a1 == c.a1 && (c.a2 == c.a2 && (c.a3 == c.a3 && (c.a4 == c.a4 && true)))) && true))))) (by kernel_rfl) ?_⟩
    first | rfl | (simp [bl, *]; done) | (simp [bl, *]; omega)
theorem law_raises_1 (inh : Int) (l c : F5) (lv un ev w : Int) (hi : 0 ≤ inh ∧ inh < 256) (hc : c.ok) (hl : 0 ≤ lv ∧ lv < 5) (hr : aright lv un = true) (hM : lev inh l c (5 - lv).toNat lv (-1) = 1) (hw : 0 ≤ w ∧ w < 256) :
    Con Tryd.prog 7 [] [ladV l c, .agg true [u8 lv, i64 un, u8 ev], u8 inh, u8 w] [] (vb true) := by
  have c1 : Con Tryd.prog 13 [] [ladV l c, .agg true [u8 lv, i64 un, u8 ev], u8 inh] [] (.tup [.agg true [u8 l.a0, u8 l.a1, u8 l.a2, u8 l.a3, u8 l.a4, u8 c.a0, u8 (up8 c.a1), u8 c.a2, u8 c.a3, u8 c.a4], .agg true [u8 1, i64 un, u8 ev], vb true]) := con_raise inh l c lv un ev _ hi hc hl hr hM
  have c2 := con_rlevel inh l c lv un ev _ hi hc hl hr hM
  have hu : up8 c.a1 = if c.a1 < 255 then c.a1 + 1 else c.a1 := rfl
  obtain ⟨hc1, hc2, hc3, hc4, hc5, hc6, hc7, hc8, hc9, hc0⟩ := hc
  generalize up8 c.a1 = U at *
  rcases (by omega : w = 0 ∨ w = 1 ∨ w = 2 ∨ w = 3 ∨ w = 4 ∨ 5 ≤ w) with rfl | rfl | rfl | rfl | rfl | hw
  · have c3 : Con Tryd.prog 20 [] [ladV l c, u8 0] [] (.agg true [u8 l.a0, u8 l.a1, u8 l.a2, u8 l.a3, u8 l.a4, u8 0, u8 c.a1, u8 c.a2, u8 c.a3, u8 c.a4]) := con_clear l c 0 (by omega)
    refine Con.of (C := ⟨Tryd.prog, tc, Tryd.f7.ntmps⟩) [] tcok Tryd.func7 rfl rfl (by kernel_rfl) (by kernel_rfl) ?_
    refine e0 [2, 3, 4, 5, 8] [4, 5] (by kernel_rfl) ?_
    refine AWP.seq ?_
    refine e1 [(0, ⟨none, some ⟨vb true, [], []⟩⟩)] [2, 3, 4, 5, 8, 17] [4, 5] (by kernel_rfl) (AllP.c (con_awake22 ) AllP.n) ?_
    refine AWP.condF (by kernel_rfl) ?_
    refine AWP.skip ?_
    refine e1 (os := [Con Tryd.prog 13 [] [V.agg true [u8 l.a0, u8 l.a1, u8 l.a2, u8 l.a3, u8 l.a4, u8 c.a0, u8 c.a1, u8 c.a2, u8 c.a3, u8 c.a4], V.agg true [u8 lv, i64 un, u8 ev], u8 inh] [] (V.tup [V.agg true [u8 l.a0, u8 l.a1, u8 l.a2, u8 l.a3, u8 l.a4, u8 c.a0, u8 U, u8 c.a2, u8 c.a3, u8 c.a4], V.agg true [u8 1, i64 un, u8 ev], vb true])]) [(3, ⟨none, some ⟨V.tup [V.agg true [u8 l.a0, u8 l.a1, u8 l.a2, u8 l.a3, u8 l.a4, u8 c.a0, u8 U, u8 c.a2, u8 c.a3, u8 c.a4], V.agg true [u8 1, i64 un, u8 ev], vb true], [], []⟩⟩)] [2, 3, 4, 5, 8, 9, 10, 11] [4, 5, 9, 10] (by kernel_rfl) ⟨(c1 ), trivial⟩ ?_
    refine e1 (os := [Con Tryd.prog 19 [] [V.agg true [u8 l.a0, u8 l.a1, u8 l.a2, u8 l.a3, u8 l.a4], V.agg true [u8 c.a0, u8 c.a1, u8 c.a2, u8 c.a3, u8 c.a4], V.agg true [u8 lv, i64 un, u8 ev], u8 inh] [] (i64 1)]) [(6, ⟨none, some ⟨i64 1, [], []⟩⟩)] [3, 4, 5, 8, 9, 10, 11, 12] [4, 5, 9, 10] (by kernel_rfl) ⟨(c2 ), trivial⟩ ?_
    refine AWP.seq ?_
    refine e0 [3, 4, 5, 8, 9, 10, 11, 12, 36] [4, 5, 9, 10] (by kernel_rfl) ?_
    refine AWP.condF (by kernel_rfl) ?_
    refine AWP.skip ?_
    refine AWP.seq ?_
    refine e0 [3, 4, 5, 8, 9, 10, 12, 38] [4, 5, 9, 10] (by kernel_rfl) ?_
    refine AWP.condF (by kernel_rfl) ?_
    refine AWP.skip ?_
    refine e0 [3, 4, 5, 8, 9, 10, 12, 13] [4, 5, 9, 10, 13] (by kernel_rfl) ?_
    refine AWP.seq ?_
    refine e0 [3, 4, 5, 8, 9, 10, 12, 13, 52] [4, 5, 9, 10, 13] (by kernel_rfl) ?_
    refine AWP.cond (b := decide (c.a1 < 255)) (by kernel_rfl) (fun hq45 => ?_) (fun hq45 => ?_)
    · simp only [decide_eq_true_eq] at hq45
      refine g1 (os := [u8 (IntKind.wrap IntKind.u8 (c.a1 + 1)) = u8 (c.a1 + 1)]) [(4, ⟨some (u8 (c.a1 + 1)), none⟩)] [3, 4, 5, 8, 9, 10, 12, 13] [4, 5, 9, 10, 13] (by kernel_rfl) ⟨(wr_u8 (by omega) (by omega)), trivial⟩ ?_
      refine e0 [3, 4, 5, 8, 9, 10, 12, 13, 14, 15] [4, 5, 9, 10, 13, 14, 15] (by kernel_rfl) ?_
      refine e0 [3, 4, 5, 8, 9, 10, 12, 13, 14, 15] [4, 5, 9, 10, 13, 14, 15] (by kernel_rfl) ?_
      refine AWP.seq ?_
      refine e0 [3, 4, 5, 8, 9, 10, 12, 13, 14, 15, 65] [4, 5, 9, 10, 13, 14, 15] (by kernel_rfl) ?_
      refine AWP.condT (by kernel_rfl) ?_
      refine g0 [3, 4, 5, 8, 9, 10, 12, 13, 14, 15] [4, 5, 9, 10, 13, 14, 15] (by kernel_rfl) ?_
      refine e1 (os := [(bl true (l.a0 == l.a0 && (l.a1 == l.a1 && (l.a2 == l.a2 && (l.a3 == l.a3 && (l.a4 == l.a4 && true)))) && (c.a0 == c.a0 && (U == c.a1 + (1 : Int) && (c.a2 == c.a2 && (c.a3 == c.a3 && (c.a4 == c.a4 && true)))) && true)) && bl true ((1 : Int) == (1 : Int) && (un == un && (ev == ev && true)))) = true → Con Tryd.prog (18 : Nat) [] [V.agg true [u8 l.a0, u8 l.a1, u8 l.a2, u8 l.a3, u8 l.a4, u8 c.a0, u8 c.a1, u8 c.a2, u8 c.a3, u8 c.a4]] [] (V.agg true [u8 l.a0, u8 l.a1, u8 l.a2, u8 l.a3, u8 l.a4, u8 (0 : Int), u8 (0 : Int), u8 (0 : Int), u8 (0 : Int), u8 (0 : Int)]) ∧ True, (bl true (l.a0 == l.a0 && (l.a1 == l.a1 && (l.a2 == l.a2 && (l.a3 == l.a3 && (l.a4 == l.a4 && true)))) && (c.a0 == c.a0 && (U == c.a1 + (1 : Int) && (c.a2 == c.a2 && (c.a3 == c.a3 && (c.a4 == c.a4 && true)))) && true)) && bl true ((1 : Int) == (1 : Int) && (un == un && (ev == ev && true))) && bl true (l.a0 == l.a0 && (l.a1 == l.a1 && (l.a2 == l.a2 && (l.a3 == l.a3 && (l.a4 == l.a4 && true)))) && ((0 : Int) == (0 : Int) && ((0 : Int) == (0 : Int) && ((0 : Int) == (0 : Int) && ((0 : Int) == (0 : Int) && ((0 : Int) == (0 : Int) && true)))) && true))) = true → Con Tryd.prog (20 : Nat) [] [V.agg true [u8 l.a0, u8 l.a1, u8 l.a2, u8 l.a3, u8 l.a4, u8 c.a0, u8 c.a1, u8 c.a2, u8 c.a3, u8 c.a4], u8 (0 : Int)] [] (V.agg true [u8 l.a0, u8 l.a1, u8 l.a2, u8 l.a3, u8 l.a4, u8 (0 : Int), u8 c.a1, u8 c.a2, u8 c.a3, u8 c.a4]) ∧ True]) [(16, ⟨none, some ⟨ladV l (F5.mk 0 0 0 0 0), [], []⟩⟩), (23, ⟨none, some ⟨V.agg true [u8 l.a0, u8 l.a1, u8 l.a2, u8 l.a3, u8 l.a4, u8 0, u8 c.a1, u8 c.a2, u8 c.a3, u8 c.a4], [], []⟩⟩)] [8] [] (by kernel_rfl) ⟨(fun _ => ⟨(con_calm (l) (c)), trivial⟩), (fun _ => ⟨(c3 ), trivial⟩), trivial⟩ ?_
      refine AWP.ret ?_
      refine ⟨Or.inr rfl, Eq.trans (b := some ([], vb (bl true (l.a0 == l.a0 && (l.a1 == l.a1 && (l.a2 == l.a2 && (l.a3 == l.a3 && (l.a4 == l.a4 && true)))) && (c.a0 == c.a0 && (U == c.a1 + 1 && (c.a2 == c.a2 && (c.a3 == c.a3 && (c.a4 == c.a4 && true)))) && true)) && bl true (1 == 1 && (un == un && (ev == ev && true))) && bl true (l.a0 == l.a0 && (l.a1 == l.a1 && (l.a2 == l.a2 && (l.a3 == l.a3 && (l.a4 == l.a4 && true)))) && (0 == 0 && (0 == 0 && (0 == 0 && (0 == 0 && (0 == 0 && true)))) && true)) && bl true (l.a0 == l.a0 && (l.a1 == l.a1 && (l.a2 == l.a2 && (l.a3 == l.a3 && (l.a4 == l.a4 && true)))) && (0 == 0 && (c.a1 == c.a1 && (c.a2 == c.a2 && (c.a3 == c.a3 && (c.a4 == c.a4 && true)))) && true))))) (by kernel_rfl) ?_⟩
      first | rfl | (simp [bl, *]; done) | (simp [bl, *]; omega)
    simp only [decide_eq_false_iff_not] at hq45
    refine AWP.skip ?_
    refine e0 [3, 4, 5, 8, 9, 10, 12, 13, 14, 15] [4, 5, 9, 10, 13, 14, 15] (by kernel_rfl) ?_
    refine e0 [3, 4, 5, 8, 9, 10, 12, 13, 14, 15] [4, 5, 9, 10, 13, 14, 15] (by kernel_rfl) ?_
    refine AWP.seq ?_
    refine e0 [3, 4, 5, 8, 9, 10, 12, 13, 14, 15, 65] [4, 5, 9, 10, 13, 14, 15] (by kernel_rfl) ?_
    refine AWP.condT (by kernel_rfl) ?_
    refine g0 [3, 4, 5, 8, 9, 10, 12, 13, 14, 15] [4, 5, 9, 10, 13, 14, 15] (by kernel_rfl) ?_
    refine e1 (os := [(bl true (l.a0 == l.a0 && (l.a1 == l.a1 && (l.a2 == l.a2 && (l.a3 == l.a3 && (l.a4 == l.a4 && true)))) && (c.a0 == c.a0 && (U == c.a1 && (c.a2 == c.a2 && (c.a3 == c.a3 && (c.a4 == c.a4 && true)))) && true)) && bl true ((1 : Int) == (1 : Int) && (un == un && (ev == ev && true)))) = true → Con Tryd.prog (18 : Nat) [] [V.agg true [u8 l.a0, u8 l.a1, u8 l.a2, u8 l.a3, u8 l.a4, u8 c.a0, u8 c.a1, u8 c.a2, u8 c.a3, u8 c.a4]] [] (V.agg true [u8 l.a0, u8 l.a1, u8 l.a2, u8 l.a3, u8 l.a4, u8 (0 : Int), u8 (0 : Int), u8 (0 : Int), u8 (0 : Int), u8 (0 : Int)]) ∧ True, (bl true (l.a0 == l.a0 && (l.a1 == l.a1 && (l.a2 == l.a2 && (l.a3 == l.a3 && (l.a4 == l.a4 && true)))) && (c.a0 == c.a0 && (U == c.a1 && (c.a2 == c.a2 && (c.a3 == c.a3 && (c.a4 == c.a4 && true)))) && true)) && bl true ((1 : Int) == (1 : Int) && (un == un && (ev == ev && true))) && bl true (l.a0 == l.a0 && (l.a1 == l.a1 && (l.a2 == l.a2 && (l.a3 == l.a3 && (l.a4 == l.a4 && true)))) && ((0 : Int) == (0 : Int) && ((0 : Int) == (0 : Int) && ((0 : Int) == (0 : Int) && ((0 : Int) == (0 : Int) && ((0 : Int) == (0 : Int) && true)))) && true))) = true → Con Tryd.prog (20 : Nat) [] [V.agg true [u8 l.a0, u8 l.a1, u8 l.a2, u8 l.a3, u8 l.a4, u8 c.a0, u8 c.a1, u8 c.a2, u8 c.a3, u8 c.a4], u8 (0 : Int)] [] (V.agg true [u8 l.a0, u8 l.a1, u8 l.a2, u8 l.a3, u8 l.a4, u8 (0 : Int), u8 c.a1, u8 c.a2, u8 c.a3, u8 c.a4]) ∧ True]) [(16, ⟨none, some ⟨ladV l (F5.mk 0 0 0 0 0), [], []⟩⟩), (23, ⟨none, some ⟨V.agg true [u8 l.a0, u8 l.a1, u8 l.a2, u8 l.a3, u8 l.a4, u8 0, u8 c.a1, u8 c.a2, u8 c.a3, u8 c.a4], [], []⟩⟩)] [8] [] (by kernel_rfl) ⟨(fun _ => ⟨(con_calm (l) (c)), trivial⟩), (fun _ => ⟨(c3 ), trivial⟩), trivial⟩ ?_
    refine AWP.ret ?_
    refine ⟨Or.inr rfl, Eq.trans (b := some ([], vb (bl true (l.a0 == l.a0 && (l.a1 == l.a1 && (l.a2 == l.a2 && (l.a3 == l.a3 && (l.a4 == l.a4 && true)))) && (c.a0 == c.a0 && (U == c.a1 && (c.a2 == c.a2 && (c.a3 == c.a3 && (c.a4 == c.a4 && true)))) && true)) && bl true (1 == 1 && (un == un && (ev == ev && true))) && bl true (l.a0 == l.a0 && (l.a1 == l.a1 && (l.a2 == l.a2 && (l.a3 == l.a3 && (l.a4 == l.a4 && true)))) && (0 == 0 && (0 == 0 && (0 == 0 && (0 == 0 && (0 == 0 && true)))) && true)) && bl true (l.a0 == l.a0 && (l.a1 == l.a1 && (l.a2 == l.a2 && (l.a3 == l.a3 && (l.a4 == l.a4 && true)))) && (0 == 0 && (c.a1 == c.a1 && (c.a2 == c.a2 && (c.a3 == c.a3 && (c.a4 == c.a4 && true)))) && true))))) (by kernel_rfl) ?_⟩
    first | rfl | (simp [bl, *]; done) | (simp [bl, *]; omega)
  · have c3 : Con Tryd.prog 20 [] [ladV l c, u8 1] [] (.agg true [u8 l.a0, u8 l.a1, u8 l.a2, u8 l.a3, u8 l.a4, u8 c.a0, u8 0, u8 c.a2, u8 c.a3, u8 c.a4]) := con_clear l c 1 (by omega)
    refine Con.of (C := ⟨Tryd.prog, tc, Tryd.f7.ntmps⟩) [] tcok Tryd.func7 rfl rfl (by kernel_rfl) (by kernel_rfl) ?_
    refine e0 [2, 3, 4, 5, 8] [4, 5] (by kernel_rfl) ?_
    refine AWP.seq ?_
    refine e1 [(0, ⟨none, some ⟨vb true, [], []⟩⟩)] [2, 3, 4, 5, 8, 17] [4, 5] (by kernel_rfl) (AllP.c (con_awake22 ) AllP.n) ?_
    refine AWP.condF (by kernel_rfl) ?_
    refine AWP.skip ?_
    refine e1 (os := [Con Tryd.prog 13 [] [V.agg true [u8 l.a0, u8 l.a1, u8 l.a2, u8 l.a3, u8 l.a4, u8 c.a0, u8 c.a1, u8 c.a2, u8 c.a3, u8 c.a4], V.agg true [u8 lv, i64 un, u8 ev], u8 inh] [] (V.tup [V.agg true [u8 l.a0, u8 l.a1, u8 l.a2, u8 l.a3, u8 l.a4, u8 c.a0, u8 U, u8 c.a2, u8 c.a3, u8 c.a4], V.agg true [u8 1, i64 un, u8 ev], vb true])]) [(3, ⟨none, some ⟨V.tup [V.agg true [u8 l.a0, u8 l.a1, u8 l.a2, u8 l.a3, u8 l.a4, u8 c.a0, u8 U, u8 c.a2, u8 c.a3, u8 c.a4], V.agg true [u8 1, i64 un, u8 ev], vb true], [], []⟩⟩)] [2, 3, 4, 5, 8, 9, 10, 11] [4, 5, 9, 10] (by kernel_rfl) ⟨(c1 ), trivial⟩ ?_
    refine e1 (os := [Con Tryd.prog 19 [] [V.agg true [u8 l.a0, u8 l.a1, u8 l.a2, u8 l.a3, u8 l.a4], V.agg true [u8 c.a0, u8 c.a1, u8 c.a2, u8 c.a3, u8 c.a4], V.agg true [u8 lv, i64 un, u8 ev], u8 inh] [] (i64 1)]) [(6, ⟨none, some ⟨i64 1, [], []⟩⟩)] [3, 4, 5, 8, 9, 10, 11, 12] [4, 5, 9, 10] (by kernel_rfl) ⟨(c2 ), trivial⟩ ?_
    refine AWP.seq ?_
    refine e0 [3, 4, 5, 8, 9, 10, 11, 12, 36] [4, 5, 9, 10] (by kernel_rfl) ?_
    refine AWP.condF (by kernel_rfl) ?_
    refine AWP.skip ?_
    refine AWP.seq ?_
    refine e0 [3, 4, 5, 8, 9, 10, 12, 38] [4, 5, 9, 10] (by kernel_rfl) ?_
    refine AWP.condF (by kernel_rfl) ?_
    refine AWP.skip ?_
    refine e0 [3, 4, 5, 8, 9, 10, 12, 13] [4, 5, 9, 10, 13] (by kernel_rfl) ?_
    refine AWP.seq ?_
    refine e0 [3, 4, 5, 8, 9, 10, 12, 13, 52] [4, 5, 9, 10, 13] (by kernel_rfl) ?_
    refine AWP.cond (b := decide (c.a1 < 255)) (by kernel_rfl) (fun hq51 => ?_) (fun hq51 => ?_)
    · simp only [decide_eq_true_eq] at hq51
      refine g1 (os := [u8 (IntKind.wrap IntKind.u8 (c.a1 + 1)) = u8 (c.a1 + 1)]) [(4, ⟨some (u8 (c.a1 + 1)), none⟩)] [3, 4, 5, 8, 9, 10, 12, 13] [4, 5, 9, 10, 13] (by kernel_rfl) ⟨(wr_u8 (by omega) (by omega)), trivial⟩ ?_
      refine e0 [3, 4, 5, 8, 9, 10, 12, 13, 14, 15] [4, 5, 9, 10, 13, 14, 15] (by kernel_rfl) ?_
      refine e0 [3, 4, 5, 8, 9, 10, 12, 13, 14, 15] [4, 5, 9, 10, 13, 14, 15] (by kernel_rfl) ?_
      refine AWP.seq ?_
      refine e0 [3, 4, 5, 8, 9, 10, 12, 13, 14, 15, 65] [4, 5, 9, 10, 13, 14, 15] (by kernel_rfl) ?_
      refine AWP.condT (by kernel_rfl) ?_
      refine g0 [3, 4, 5, 8, 9, 10, 12, 13, 14, 15] [4, 5, 9, 10, 13, 14, 15] (by kernel_rfl) ?_
      refine e1 (os := [(bl true (l.a0 == l.a0 && (l.a1 == l.a1 && (l.a2 == l.a2 && (l.a3 == l.a3 && (l.a4 == l.a4 && true)))) && (c.a0 == c.a0 && (U == c.a1 + (1 : Int) && (c.a2 == c.a2 && (c.a3 == c.a3 && (c.a4 == c.a4 && true)))) && true)) && bl true ((1 : Int) == (1 : Int) && (un == un && (ev == ev && true)))) = true → Con Tryd.prog (18 : Nat) [] [V.agg true [u8 l.a0, u8 l.a1, u8 l.a2, u8 l.a3, u8 l.a4, u8 c.a0, u8 c.a1, u8 c.a2, u8 c.a3, u8 c.a4]] [] (V.agg true [u8 l.a0, u8 l.a1, u8 l.a2, u8 l.a3, u8 l.a4, u8 (0 : Int), u8 (0 : Int), u8 (0 : Int), u8 (0 : Int), u8 (0 : Int)]) ∧ True, (bl true (l.a0 == l.a0 && (l.a1 == l.a1 && (l.a2 == l.a2 && (l.a3 == l.a3 && (l.a4 == l.a4 && true)))) && (c.a0 == c.a0 && (U == c.a1 + (1 : Int) && (c.a2 == c.a2 && (c.a3 == c.a3 && (c.a4 == c.a4 && true)))) && true)) && bl true ((1 : Int) == (1 : Int) && (un == un && (ev == ev && true))) && bl true (l.a0 == l.a0 && (l.a1 == l.a1 && (l.a2 == l.a2 && (l.a3 == l.a3 && (l.a4 == l.a4 && true)))) && ((0 : Int) == (0 : Int) && ((0 : Int) == (0 : Int) && ((0 : Int) == (0 : Int) && ((0 : Int) == (0 : Int) && ((0 : Int) == (0 : Int) && true)))) && true))) = true → Con Tryd.prog (20 : Nat) [] [V.agg true [u8 l.a0, u8 l.a1, u8 l.a2, u8 l.a3, u8 l.a4, u8 c.a0, u8 c.a1, u8 c.a2, u8 c.a3, u8 c.a4], u8 (1 : Int)] [] (V.agg true [u8 l.a0, u8 l.a1, u8 l.a2, u8 l.a3, u8 l.a4, u8 c.a0, u8 (0 : Int), u8 c.a2, u8 c.a3, u8 c.a4]) ∧ True]) [(16, ⟨none, some ⟨ladV l (F5.mk 0 0 0 0 0), [], []⟩⟩), (23, ⟨none, some ⟨V.agg true [u8 l.a0, u8 l.a1, u8 l.a2, u8 l.a3, u8 l.a4, u8 c.a0, u8 0, u8 c.a2, u8 c.a3, u8 c.a4], [], []⟩⟩)] [8] [] (by kernel_rfl) ⟨(fun _ => ⟨(con_calm (l) (c)), trivial⟩), (fun _ => ⟨(c3 ), trivial⟩), trivial⟩ ?_
      refine AWP.ret ?_
      refine ⟨Or.inr rfl, Eq.trans (b := some ([], vb (bl true (l.a0 == l.a0 && (l.a1 == l.a1 && (l.a2 == l.a2 && (l.a3 == l.a3 && (l.a4 == l.a4 && true)))) && (c.a0 == c.a0 && (U == c.a1 + 1 && (c.a2 == c.a2 && (c.a3 == c.a3 && (c.a4 == c.a4 && true)))) && true)) && bl true (1 == 1 && (un == un && (ev == ev && true))) && bl true (l.a0 == l.a0 && (l.a1 == l.a1 && (l.a2 == l.a2 && (l.a3 == l.a3 && (l.a4 == l.a4 && true)))) && (0 == 0 && (0 == 0 && (0 == 0 && (0 == 0 && (0 == 0 && true)))) && true)) && bl true (l.a0 == l.a0 && (l.a1 == l.a1 && (l.a2 == l.a2 && (l.a3 == l.a3 && (l.a4 == l.a4 && true)))) && (c.a0 == c.a0 && (0 == 0 && (c.a2 == c.a2 && (c.a3 == c.a3 && (c.a4 == c.a4 && true)))) && true))))) (by kernel_rfl) ?_⟩
      first | rfl | (simp [bl, *]; done) | (simp [bl, *]; omega)
    simp only [decide_eq_false_iff_not] at hq51
    refine AWP.skip ?_
    refine e0 [3, 4, 5, 8, 9, 10, 12, 13, 14, 15] [4, 5, 9, 10, 13, 14, 15] (by kernel_rfl) ?_
    refine e0 [3, 4, 5, 8, 9, 10, 12, 13, 14, 15] [4, 5, 9, 10, 13, 14, 15] (by kernel_rfl) ?_
    refine AWP.seq ?_
    refine e0 [3, 4, 5, 8, 9, 10, 12, 13, 14, 15, 65] [4, 5, 9, 10, 13, 14, 15] (by kernel_rfl) ?_
    refine AWP.condT (by kernel_rfl) ?_
    refine g0 [3, 4, 5, 8, 9, 10, 12, 13, 14, 15] [4, 5, 9, 10, 13, 14, 15] (by kernel_rfl) ?_
    refine e1 (os := [(bl true (l.a0 == l.a0 && (l.a1 == l.a1 && (l.a2 == l.a2 && (l.a3 == l.a3 && (l.a4 == l.a4 && true)))) && (c.a0 == c.a0 && (U == c.a1 && (c.a2 == c.a2 && (c.a3 == c.a3 && (c.a4 == c.a4 && true)))) && true)) && bl true ((1 : Int) == (1 : Int) && (un == un && (ev == ev && true)))) = true → Con Tryd.prog (18 : Nat) [] [V.agg true [u8 l.a0, u8 l.a1, u8 l.a2, u8 l.a3, u8 l.a4, u8 c.a0, u8 c.a1, u8 c.a2, u8 c.a3, u8 c.a4]] [] (V.agg true [u8 l.a0, u8 l.a1, u8 l.a2, u8 l.a3, u8 l.a4, u8 (0 : Int), u8 (0 : Int), u8 (0 : Int), u8 (0 : Int), u8 (0 : Int)]) ∧ True, (bl true (l.a0 == l.a0 && (l.a1 == l.a1 && (l.a2 == l.a2 && (l.a3 == l.a3 && (l.a4 == l.a4 && true)))) && (c.a0 == c.a0 && (U == c.a1 && (c.a2 == c.a2 && (c.a3 == c.a3 && (c.a4 == c.a4 && true)))) && true)) && bl true ((1 : Int) == (1 : Int) && (un == un && (ev == ev && true))) && bl true (l.a0 == l.a0 && (l.a1 == l.a1 && (l.a2 == l.a2 && (l.a3 == l.a3 && (l.a4 == l.a4 && true)))) && ((0 : Int) == (0 : Int) && ((0 : Int) == (0 : Int) && ((0 : Int) == (0 : Int) && ((0 : Int) == (0 : Int) && ((0 : Int) == (0 : Int) && true)))) && true))) = true → Con Tryd.prog (20 : Nat) [] [V.agg true [u8 l.a0, u8 l.a1, u8 l.a2, u8 l.a3, u8 l.a4, u8 c.a0, u8 c.a1, u8 c.a2, u8 c.a3, u8 c.a4], u8 (1 : Int)] [] (V.agg true [u8 l.a0, u8 l.a1, u8 l.a2, u8 l.a3, u8 l.a4, u8 c.a0, u8 (0 : Int), u8 c.a2, u8 c.a3, u8 c.a4]) ∧ True]) [(16, ⟨none, some ⟨ladV l (F5.mk 0 0 0 0 0), [], []⟩⟩), (23, ⟨none, some ⟨V.agg true [u8 l.a0, u8 l.a1, u8 l.a2, u8 l.a3, u8 l.a4, u8 c.a0, u8 0, u8 c.a2, u8 c.a3, u8 c.a4], [], []⟩⟩)] [8] [] (by kernel_rfl) ⟨(fun _ => ⟨(con_calm (l) (c)), trivial⟩), (fun _ => ⟨(c3 ), trivial⟩), trivial⟩ ?_
    refine AWP.ret ?_
    refine ⟨Or.inr rfl, Eq.trans (b := some ([], vb (bl true (l.a0 == l.a0 && (l.a1 == l.a1 && (l.a2 == l.a2 && (l.a3 == l.a3 && (l.a4 == l.a4 && true)))) && (c.a0 == c.a0 && (U == c.a1 && (c.a2 == c.a2 && (c.a3 == c.a3 && (c.a4 == c.a4 && true)))) && true)) && bl true (1 == 1 && (un == un && (ev == ev && true))) && bl true (l.a0 == l.a0 && (l.a1 == l.a1 && (l.a2 == l.a2 && (l.a3 == l.a3 && (l.a4 == l.a4 && true)))) && (0 == 0 && (0 == 0 && (0 == 0 && (0 == 0 && (0 == 0 && true)))) && true)) && bl true (l.a0 == l.a0 && (l.a1 == l.a1 && (l.a2 == l.a2 && (l.a3 == l.a3 && (l.a4 == l.a4 && true)))) && (c.a0 == c.a0 && (0 == 0 && (c.a2 == c.a2 && (c.a3 == c.a3 && (c.a4 == c.a4 && true)))) && true))))) (by kernel_rfl) ?_⟩
    first | rfl | (simp [bl, *]; done) | (simp [bl, *]; omega)
  · have c3 : Con Tryd.prog 20 [] [ladV l c, u8 2] [] (.agg true [u8 l.a0, u8 l.a1, u8 l.a2, u8 l.a3, u8 l.a4, u8 c.a0, u8 c.a1, u8 0, u8 c.a3, u8 c.a4]) := con_clear l c 2 (by omega)
    refine Con.of (C := ⟨Tryd.prog, tc, Tryd.f7.ntmps⟩) [] tcok Tryd.func7 rfl rfl (by kernel_rfl) (by kernel_rfl) ?_
    refine e0 [2, 3, 4, 5, 8] [4, 5] (by kernel_rfl) ?_
    refine AWP.seq ?_
    refine e1 [(0, ⟨none, some ⟨vb true, [], []⟩⟩)] [2, 3, 4, 5, 8, 17] [4, 5] (by kernel_rfl) (AllP.c (con_awake22 ) AllP.n) ?_
    refine AWP.condF (by kernel_rfl) ?_
    refine AWP.skip ?_
    refine e1 (os := [Con Tryd.prog 13 [] [V.agg true [u8 l.a0, u8 l.a1, u8 l.a2, u8 l.a3, u8 l.a4, u8 c.a0, u8 c.a1, u8 c.a2, u8 c.a3, u8 c.a4], V.agg true [u8 lv, i64 un, u8 ev], u8 inh] [] (V.tup [V.agg true [u8 l.a0, u8 l.a1, u8 l.a2, u8 l.a3, u8 l.a4, u8 c.a0, u8 U, u8 c.a2, u8 c.a3, u8 c.a4], V.agg true [u8 1, i64 un, u8 ev], vb true])]) [(3, ⟨none, some ⟨V.tup [V.agg true [u8 l.a0, u8 l.a1, u8 l.a2, u8 l.a3, u8 l.a4, u8 c.a0, u8 U, u8 c.a2, u8 c.a3, u8 c.a4], V.agg true [u8 1, i64 un, u8 ev], vb true], [], []⟩⟩)] [2, 3, 4, 5, 8, 9, 10, 11] [4, 5, 9, 10] (by kernel_rfl) ⟨(c1 ), trivial⟩ ?_
    refine e1 (os := [Con Tryd.prog 19 [] [V.agg true [u8 l.a0, u8 l.a1, u8 l.a2, u8 l.a3, u8 l.a4], V.agg true [u8 c.a0, u8 c.a1, u8 c.a2, u8 c.a3, u8 c.a4], V.agg true [u8 lv, i64 un, u8 ev], u8 inh] [] (i64 1)]) [(6, ⟨none, some ⟨i64 1, [], []⟩⟩)] [3, 4, 5, 8, 9, 10, 11, 12] [4, 5, 9, 10] (by kernel_rfl) ⟨(c2 ), trivial⟩ ?_
    refine AWP.seq ?_
    refine e0 [3, 4, 5, 8, 9, 10, 11, 12, 36] [4, 5, 9, 10] (by kernel_rfl) ?_
    refine AWP.condF (by kernel_rfl) ?_
    refine AWP.skip ?_
    refine AWP.seq ?_
    refine e0 [3, 4, 5, 8, 9, 10, 12, 38] [4, 5, 9, 10] (by kernel_rfl) ?_
    refine AWP.condF (by kernel_rfl) ?_
    refine AWP.skip ?_
    refine e0 [3, 4, 5, 8, 9, 10, 12, 13] [4, 5, 9, 10, 13] (by kernel_rfl) ?_
    refine AWP.seq ?_
    refine e0 [3, 4, 5, 8, 9, 10, 12, 13, 52] [4, 5, 9, 10, 13] (by kernel_rfl) ?_
    refine AWP.cond (b := decide (c.a1 < 255)) (by kernel_rfl) (fun hq57 => ?_) (fun hq57 => ?_)
    · simp only [decide_eq_true_eq] at hq57
      refine g1 (os := [u8 (IntKind.wrap IntKind.u8 (c.a1 + 1)) = u8 (c.a1 + 1)]) [(4, ⟨some (u8 (c.a1 + 1)), none⟩)] [3, 4, 5, 8, 9, 10, 12, 13] [4, 5, 9, 10, 13] (by kernel_rfl) ⟨(wr_u8 (by omega) (by omega)), trivial⟩ ?_
      refine e0 [3, 4, 5, 8, 9, 10, 12, 13, 14, 15] [4, 5, 9, 10, 13, 14, 15] (by kernel_rfl) ?_
      refine e0 [3, 4, 5, 8, 9, 10, 12, 13, 14, 15] [4, 5, 9, 10, 13, 14, 15] (by kernel_rfl) ?_
      refine AWP.seq ?_
      refine e0 [3, 4, 5, 8, 9, 10, 12, 13, 14, 15, 65] [4, 5, 9, 10, 13, 14, 15] (by kernel_rfl) ?_
      refine AWP.condT (by kernel_rfl) ?_
      refine g0 [3, 4, 5, 8, 9, 10, 12, 13, 14, 15] [4, 5, 9, 10, 13, 14, 15] (by kernel_rfl) ?_
      refine e1 (os := [(bl true (l.a0 == l.a0 && (l.a1 == l.a1 && (l.a2 == l.a2 && (l.a3 == l.a3 && (l.a4 == l.a4 && true)))) && (c.a0 == c.a0 && (U == c.a1 + (1 : Int) && (c.a2 == c.a2 && (c.a3 == c.a3 && (c.a4 == c.a4 && true)))) && true)) && bl true ((1 : Int) == (1 : Int) && (un == un && (ev == ev && true)))) = true → Con Tryd.prog (18 : Nat) [] [V.agg true [u8 l.a0, u8 l.a1, u8 l.a2, u8 l.a3, u8 l.a4, u8 c.a0, u8 c.a1, u8 c.a2, u8 c.a3, u8 c.a4]] [] (V.agg true [u8 l.a0, u8 l.a1, u8 l.a2, u8 l.a3, u8 l.a4, u8 (0 : Int), u8 (0 : Int), u8 (0 : Int), u8 (0 : Int), u8 (0 : Int)]) ∧ True, (bl true (l.a0 == l.a0 && (l.a1 == l.a1 && (l.a2 == l.a2 && (l.a3 == l.a3 && (l.a4 == l.a4 && true)))) && (c.a0 == c.a0 && (U == c.a1 + (1 : Int) && (c.a2 == c.a2 && (c.a3 == c.a3 && (c.a4 == c.a4 && true)))) && true)) && bl true ((1 : Int) == (1 : Int) && (un == un && (ev == ev && true))) && bl true (l.a0 == l.a0 && (l.a1 == l.a1 && (l.a2 == l.a2 && (l.a3 == l.a3 && (l.a4 == l.a4 && true)))) && ((0 : Int) == (0 : Int) && ((0 : Int) == (0 : Int) && ((0 : Int) == (0 : Int) && ((0 : Int) == (0 : Int) && ((0 : Int) == (0 : Int) && true)))) && true))) = true → Con Tryd.prog (20 : Nat) [] [V.agg true [u8 l.a0, u8 l.a1, u8 l.a2, u8 l.a3, u8 l.a4, u8 c.a0, u8 c.a1, u8 c.a2, u8 c.a3, u8 c.a4], u8 (2 : Int)] [] (V.agg true [u8 l.a0, u8 l.a1, u8 l.a2, u8 l.a3, u8 l.a4, u8 c.a0, u8 c.a1, u8 (0 : Int), u8 c.a3, u8 c.a4]) ∧ True]) [(16, ⟨none, some ⟨ladV l (F5.mk 0 0 0 0 0), [], []⟩⟩), (23, ⟨none, some ⟨V.agg true [u8 l.a0, u8 l.a1, u8 l.a2, u8 l.a3, u8 l.a4, u8 c.a0, u8 c.a1, u8 0, u8 c.a3, u8 c.a4], [], []⟩⟩)] [8] [] (by kernel_rfl) ⟨(fun _ => ⟨(con_calm (l) (c)), trivial⟩), (fun _ => ⟨(c3 ), trivial⟩), trivial⟩ ?_
      refine AWP.ret ?_
      refine ⟨Or.inr rfl, Eq.trans (b := some ([], vb (bl true (l.a0 == l.a0 && (l.a1 == l.a1 && (l.a2 == l.a2 && (l.a3 == l.a3 && (l.a4 == l.a4 && true)))) && (c.a0 == c.a0 && (U == c.a1 + 1 && (c.a2 == c.a2 && (c.a3 == c.a3 && (c.a4 == c.a4 && true)))) && true)) && bl true (1 == 1 && (un == un && (ev == ev && true))) && bl true (l.a0 == l.a0 && (l.a1 == l.a1 && (l.a2 == l.a2 && (l.a3 == l.a3 && (l.a4 == l.a4 && true)))) && (0 == 0 && (0 == 0 && (0 == 0 && (0 == 0 && (0 == 0 && true)))) && true)) && bl true (l.a0 == l.a0 && (l.a1 == l.a1 && (l.a2 == l.a2 && (l.a3 == l.a3 && (l.a4 == l.a4 && true)))) && (c.a0 == c.a0 && (c.a1 == c.a1 && (0 == 0 && (c.a3 == c.a3 && (c.a4 == c.a4 && true)))) && true))))) (by kernel_rfl) ?_⟩
      first | rfl | (simp [bl, *]; done) | (simp [bl, *]; omega)
    simp only [decide_eq_false_iff_not] at hq57
    refine AWP.skip ?_
    refine e0 [3, 4, 5, 8, 9, 10, 12, 13, 14, 15] [4, 5, 9, 10, 13, 14, 15] (by kernel_rfl) ?_
    refine e0 [3, 4, 5, 8, 9, 10, 12, 13, 14, 15] [4, 5, 9, 10, 13, 14, 15] (by kernel_rfl) ?_
    refine AWP.seq ?_
    refine e0 [3, 4, 5, 8, 9, 10, 12, 13, 14, 15, 65] [4, 5, 9, 10, 13, 14, 15] (by kernel_rfl) ?_
    refine AWP.condT (by kernel_rfl) ?_
    refine g0 [3, 4, 5, 8, 9, 10, 12, 13, 14, 15] [4, 5, 9, 10, 13, 14, 15] (by kernel_rfl) ?_
    refine e1 (os := [(bl true (l.a0 == l.a0 && (l.a1 == l.a1 && (l.a2 == l.a2 && (l.a3 == l.a3 && (l.a4 == l.a4 && true)))) && (c.a0 == c.a0 && (U == c.a1 && (c.a2 == c.a2 && (c.a3 == c.a3 && (c.a4 == c.a4 && true)))) && true)) && bl true ((1 : Int) == (1 : Int) && (un == un && (ev == ev && true)))) = true → Con Tryd.prog (18 : Nat) [] [V.agg true [u8 l.a0, u8 l.a1, u8 l.a2, u8 l.a3, u8 l.a4, u8 c.a0, u8 c.a1, u8 c.a2, u8 c.a3, u8 c.a4]] [] (V.agg true [u8 l.a0, u8 l.a1, u8 l.a2, u8 l.a3, u8 l.a4, u8 (0 : Int), u8 (0 : Int), u8 (0 : Int), u8 (0 : Int), u8 (0 : Int)]) ∧ True, (bl true (l.a0 == l.a0 && (l.a1 == l.a1 && (l.a2 == l.a2 && (l.a3 == l.a3 && (l.a4 == l.a4 && true)))) && (c.a0 == c.a0 && (U == c.a1 && (c.a2 == c.a2 && (c.a3 == c.a3 && (c.a4 == c.a4 && true)))) && true)) && bl true ((1 : Int) == (1 : Int) && (un == un && (ev == ev && true))) && bl true (l.a0 == l.a0 && (l.a1 == l.a1 && (l.a2 == l.a2 && (l.a3 == l.a3 && (l.a4 == l.a4 && true)))) && ((0 : Int) == (0 : Int) && ((0 : Int) == (0 : Int) && ((0 : Int) == (0 : Int) && ((0 : Int) == (0 : Int) && ((0 : Int) == (0 : Int) && true)))) && true))) = true → Con Tryd.prog (20 : Nat) [] [V.agg true [u8 l.a0, u8 l.a1, u8 l.a2, u8 l.a3, u8 l.a4, u8 c.a0, u8 c.a1, u8 c.a2, u8 c.a3, u8 c.a4], u8 (2 : Int)] [] (V.agg true [u8 l.a0, u8 l.a1, u8 l.a2, u8 l.a3, u8 l.a4, u8 c.a0, u8 c.a1, u8 (0 : Int), u8 c.a3, u8 c.a4]) ∧ True]) [(16, ⟨none, some ⟨ladV l (F5.mk 0 0 0 0 0), [], []⟩⟩), (23, ⟨none, some ⟨V.agg true [u8 l.a0, u8 l.a1, u8 l.a2, u8 l.a3, u8 l.a4, u8 c.a0, u8 c.a1, u8 0, u8 c.a3, u8 c.a4], [], []⟩⟩)] [8] [] (by kernel_rfl) ⟨(fun _ => ⟨(con_calm (l) (c)), trivial⟩), (fun _ => ⟨(c3 ), trivial⟩), trivial⟩ ?_
    refine AWP.ret ?_
    refine ⟨Or.inr rfl, Eq.trans (b := some ([], vb (bl true (l.a0 == l.a0 && (l.a1 == l.a1 && (l.a2 == l.a2 && (l.a3 == l.a3 && (l.a4 == l.a4 && true)))) && (c.a0 == c.a0 && (U == c.a1 && (c.a2 == c.a2 && (c.a3 == c.a3 && (c.a4 == c.a4 && true)))) && true)) && bl true (1 == 1 && (un == un && (ev == ev && true))) && bl true (l.a0 == l.a0 && (l.a1 == l.a1 && (l.a2 == l.a2 && (l.a3 == l.a3 && (l.a4 == l.a4 && true)))) && (0 == 0 && (0 == 0 && (0 == 0 && (0 == 0 && (0 == 0 && true)))) && true)) && bl true (l.a0 == l.a0 && (l.a1 == l.a1 && (l.a2 == l.a2 && (l.a3 == l.a3 && (l.a4 == l.a4 && true)))) && (c.a0 == c.a0 && (c.a1 == c.a1 && (0 == 0 && (c.a3 == c.a3 && (c.a4 == c.a4 && true)))) && true))))) (by kernel_rfl) ?_⟩
    first | rfl | (simp [bl, *]; done) | (simp [bl, *]; omega)
  · have c3 : Con Tryd.prog 20 [] [ladV l c, u8 3] [] (.agg true [u8 l.a0, u8 l.a1, u8 l.a2, u8 l.a3, u8 l.a4, u8 c.a0, u8 c.a1, u8 c.a2, u8 0, u8 c.a4]) := con_clear l c 3 (by omega)
    refine Con.of (C := ⟨Tryd.prog, tc, Tryd.f7.ntmps⟩) [] tcok Tryd.func7 rfl rfl (by kernel_rfl) (by kernel_rfl) ?_
    refine e0 [2, 3, 4, 5, 8] [4, 5] (by kernel_rfl) ?_
    refine AWP.seq ?_
    refine e1 [(0, ⟨none, some ⟨vb true, [], []⟩⟩)] [2, 3, 4, 5, 8, 17] [4, 5] (by kernel_rfl) (AllP.c (con_awake22 ) AllP.n) ?_
    refine AWP.condF (by kernel_rfl) ?_
    refine AWP.skip ?_
    refine e1 (os := [Con Tryd.prog 13 [] [V.agg true [u8 l.a0, u8 l.a1, u8 l.a2, u8 l.a3, u8 l.a4, u8 c.a0, u8 c.a1, u8 c.a2, u8 c.a3, u8 c.a4], V.agg true [u8 lv, i64 un, u8 ev], u8 inh] [] (V.tup [V.agg true [u8 l.a0, u8 l.a1, u8 l.a2, u8 l.a3, u8 l.a4, u8 c.a0, u8 U, u8 c.a2, u8 c.a3, u8 c.a4], V.agg true [u8 1, i64 un, u8 ev], vb true])]) [(3, ⟨none, some ⟨V.tup [V.agg true [u8 l.a0, u8 l.a1, u8 l.a2, u8 l.a3, u8 l.a4, u8 c.a0, u8 U, u8 c.a2, u8 c.a3, u8 c.a4], V.agg true [u8 1, i64 un, u8 ev], vb true], [], []⟩⟩)] [2, 3, 4, 5, 8, 9, 10, 11] [4, 5, 9, 10] (by kernel_rfl) ⟨(c1 ), trivial⟩ ?_
    refine e1 (os := [Con Tryd.prog 19 [] [V.agg true [u8 l.a0, u8 l.a1, u8 l.a2, u8 l.a3, u8 l.a4], V.agg true [u8 c.a0, u8 c.a1, u8 c.a2, u8 c.a3, u8 c.a4], V.agg true [u8 lv, i64 un, u8 ev], u8 inh] [] (i64 1)]) [(6, ⟨none, some ⟨i64 1, [], []⟩⟩)] [3, 4, 5, 8, 9, 10, 11, 12] [4, 5, 9, 10] (by kernel_rfl) ⟨(c2 ), trivial⟩ ?_
    refine AWP.seq ?_
    refine e0 [3, 4, 5, 8, 9, 10, 11, 12, 36] [4, 5, 9, 10] (by kernel_rfl) ?_
    refine AWP.condF (by kernel_rfl) ?_
    refine AWP.skip ?_
    refine AWP.seq ?_
    refine e0 [3, 4, 5, 8, 9, 10, 12, 38] [4, 5, 9, 10] (by kernel_rfl) ?_
    refine AWP.condF (by kernel_rfl) ?_
    refine AWP.skip ?_
    refine e0 [3, 4, 5, 8, 9, 10, 12, 13] [4, 5, 9, 10, 13] (by kernel_rfl) ?_
    refine AWP.seq ?_
    refine e0 [3, 4, 5, 8, 9, 10, 12, 13, 52] [4, 5, 9, 10, 13] (by kernel_rfl) ?_
    refine AWP.cond (b := decide (c.a1 < 255)) (by kernel_rfl) (fun hq63 => ?_) (fun hq63 => ?_)
    · simp only [decide_eq_true_eq] at hq63
      refine g1 (os := [u8 (IntKind.wrap IntKind.u8 (c.a1 + 1)) = u8 (c.a1 + 1)]) [(4, ⟨some (u8 (c.a1 + 1)), none⟩)] [3, 4, 5, 8, 9, 10, 12, 13] [4, 5, 9, 10, 13] (by kernel_rfl) ⟨(wr_u8 (by omega) (by omega)), trivial⟩ ?_
      refine e0 [3, 4, 5, 8, 9, 10, 12, 13, 14, 15] [4, 5, 9, 10, 13, 14, 15] (by kernel_rfl) ?_
      refine e0 [3, 4, 5, 8, 9, 10, 12, 13, 14, 15] [4, 5, 9, 10, 13, 14, 15] (by kernel_rfl) ?_
      refine AWP.seq ?_
      refine e0 [3, 4, 5, 8, 9, 10, 12, 13, 14, 15, 65] [4, 5, 9, 10, 13, 14, 15] (by kernel_rfl) ?_
      refine AWP.condT (by kernel_rfl) ?_
      refine g0 [3, 4, 5, 8, 9, 10, 12, 13, 14, 15] [4, 5, 9, 10, 13, 14, 15] (by kernel_rfl) ?_
      refine e1 (os := [(bl true (l.a0 == l.a0 && (l.a1 == l.a1 && (l.a2 == l.a2 && (l.a3 == l.a3 && (l.a4 == l.a4 && true)))) && (c.a0 == c.a0 && (U == c.a1 + (1 : Int) && (c.a2 == c.a2 && (c.a3 == c.a3 && (c.a4 == c.a4 && true)))) && true)) && bl true ((1 : Int) == (1 : Int) && (un == un && (ev == ev && true)))) = true → Con Tryd.prog (18 : Nat) [] [V.agg true [u8 l.a0, u8 l.a1, u8 l.a2, u8 l.a3, u8 l.a4, u8 c.a0, u8 c.a1, u8 c.a2, u8 c.a3, u8 c.a4]] [] (V.agg true [u8 l.a0, u8 l.a1, u8 l.a2, u8 l.a3, u8 l.a4, u8 (0 : Int), u8 (0 : Int), u8 (0 : Int), u8 (0 : Int), u8 (0 : Int)]) ∧ True, (bl true (l.a0 == l.a0 && (l.a1 == l.a1 && (l.a2 == l.a2 && (l.a3 == l.a3 && (l.a4 == l.a4 && true)))) && (c.a0 == c.a0 && (U == c.a1 + (1 : Int) && (c.a2 == c.a2 && (c.a3 == c.a3 && (c.a4 == c.a4 && true)))) && true)) && bl true ((1 : Int) == (1 : Int) && (un == un && (ev == ev && true))) && bl true (l.a0 == l.a0 && (l.a1 == l.a1 && (l.a2 == l.a2 && (l.a3 == l.a3 && (l.a4 == l.a4 && true)))) && ((0 : Int) == (0 : Int) && ((0 : Int) == (0 : Int) && ((0 : Int) == (0 : Int) && ((0 : Int) == (0 : Int) && ((0 : Int) == (0 : Int) && true)))) && true))) = true → Con Tryd.prog (20 : Nat) [] [V.agg true [u8 l.a0, u8 l.a1, u8 l.a2, u8 l.a3, u8 l.a4, u8 c.a0, u8 c.a1, u8 c.a2, u8 c.a3, u8 c.a4], u8 (3 : Int)] [] (V.agg true [u8 l.a0, u8 l.a1, u8 l.a2, u8 l.a3, u8 l.a4, u8 c.a0, u8 c.a1, u8 c.a2, u8 (0 : Int), u8 c.a4]) ∧ True]) [(16, ⟨none, some ⟨ladV l (F5.mk 0 0 0 0 0), [], []⟩⟩), (23, ⟨none, some ⟨V.agg true [u8 l.a0, u8 l.a1, u8 l.a2, u8 l.a3, u8 l.a4, u8 c.a0, u8 c.a1, u8 c.a2, u8 0, u8 c.a4], [], []⟩⟩)] [8] [] (by kernel_rfl) ⟨(fun _ => ⟨(con_calm (l) (c)), trivial⟩), (fun _ => ⟨(c3 ), trivial⟩), trivial⟩ ?_
      refine AWP.ret ?_
      refine ⟨Or.inr rfl, Eq.trans (b := some ([], vb (bl true (l.a0 == l.a0 && (l.a1 == l.a1 && (l.a2 == l.a2 && (l.a3 == l.a3 && (l.a4 == l.a4 && true)))) && (c.a0 == c.a0 && (U == c.a1 + 1 && (c.a2 == c.a2 && (c.a3 == c.a3 && (c.a4 == c.a4 && true)))) && true)) && bl true (1 == 1 && (un == un && (ev == ev && true))) && bl true (l.a0 == l.a0 && (l.a1 == l.a1 && (l.a2 == l.a2 && (l.a3 == l.a3 && (l.a4 == l.a4 && true)))) && (0 == 0 && (0 == 0 && (0 == 0 && (0 == 0 && (0 == 0 && true)))) && true)) && bl true (l.a0 == l.a0 && (l.a1 == l.a1 && (l.a2 == l.a2 && (l.a3 == l.a3 && (l.a4 == l.a4 && true)))) && (c.a0 == c.a0 && (c.a1 == c.a1 && (c.a2 == c.a2 && (0 == 0 && (c.a4 == c.a4 && true)))) && true))))) (by kernel_rfl) ?_⟩
      first | rfl | (simp [bl, *]; done) | (simp [bl, *]; omega)
    simp only [decide_eq_false_iff_not] at hq63
    refine AWP.skip ?_
    refine e0 [3, 4, 5, 8, 9, 10, 12, 13, 14, 15] [4, 5, 9, 10, 13, 14, 15] (by kernel_rfl) ?_
    refine e0 [3, 4, 5, 8, 9, 10, 12, 13, 14, 15] [4, 5, 9, 10, 13, 14, 15] (by kernel_rfl) ?_
    refine AWP.seq ?_
    refine e0 [3, 4, 5, 8, 9, 10, 12, 13, 14, 15, 65] [4, 5, 9, 10, 13, 14, 15] (by kernel_rfl) ?_
    refine AWP.condT (by kernel_rfl) ?_
    refine g0 [3, 4, 5, 8, 9, 10, 12, 13, 14, 15] [4, 5, 9, 10, 13, 14, 15] (by kernel_rfl) ?_
    refine e1 (os := [(bl true (l.a0 == l.a0 && (l.a1 == l.a1 && (l.a2 == l.a2 && (l.a3 == l.a3 && (l.a4 == l.a4 && true)))) && (c.a0 == c.a0 && (U == c.a1 && (c.a2 == c.a2 && (c.a3 == c.a3 && (c.a4 == c.a4 && true)))) && true)) && bl true ((1 : Int) == (1 : Int) && (un == un && (ev == ev && true)))) = true → Con Tryd.prog (18 : Nat) [] [V.agg true [u8 l.a0, u8 l.a1, u8 l.a2, u8 l.a3, u8 l.a4, u8 c.a0, u8 c.a1, u8 c.a2, u8 c.a3, u8 c.a4]] [] (V.agg true [u8 l.a0, u8 l.a1, u8 l.a2, u8 l.a3, u8 l.a4, u8 (0 : Int), u8 (0 : Int), u8 (0 : Int), u8 (0 : Int), u8 (0 : Int)]) ∧ True, (bl true (l.a0 == l.a0 && (l.a1 == l.a1 && (l.a2 == l.a2 && (l.a3 == l.a3 && (l.a4 == l.a4 && true)))) && (c.a0 == c.a0 && (U == c.a1 && (c.a2 == c.a2 && (c.a3 == c.a3 && (c.a4 == c.a4 && true)))) && true)) && bl true ((1 : Int) == (1 : Int) && (un == un && (ev == ev && true))) && bl true (l.a0 == l.a0 && (l.a1 == l.a1 && (l.a2 == l.a2 && (l.a3 == l.a3 && (l.a4 == l.a4 && true)))) && ((0 : Int) == (0 : Int) && ((0 : Int) == (0 : Int) && ((0 : Int) == (0 : Int) && ((0 : Int) == (0 : Int) && ((0 : Int) == (0 : Int) && true)))) && true))) = true → Con Tryd.prog (20 : Nat) [] [V.agg true [u8 l.a0, u8 l.a1, u8 l.a2, u8 l.a3, u8 l.a4, u8 c.a0, u8 c.a1, u8 c.a2, u8 c.a3, u8 c.a4], u8 (3 : Int)] [] (V.agg true [u8 l.a0, u8 l.a1, u8 l.a2, u8 l.a3, u8 l.a4, u8 c.a0, u8 c.a1, u8 c.a2, u8 (0 : Int), u8 c.a4]) ∧ True]) [(16, ⟨none, some ⟨ladV l (F5.mk 0 0 0 0 0), [], []⟩⟩), (23, ⟨none, some ⟨V.agg true [u8 l.a0, u8 l.a1, u8 l.a2, u8 l.a3, u8 l.a4, u8 c.a0, u8 c.a1, u8 c.a2, u8 0, u8 c.a4], [], []⟩⟩)] [8] [] (by kernel_rfl) ⟨(fun _ => ⟨(con_calm (l) (c)), trivial⟩), (fun _ => ⟨(c3 ), trivial⟩), trivial⟩ ?_
    refine AWP.ret ?_
    refine ⟨Or.inr rfl, Eq.trans (b := some ([], vb (bl true (l.a0 == l.a0 && (l.a1 == l.a1 && (l.a2 == l.a2 && (l.a3 == l.a3 && (l.a4 == l.a4 && true)))) && (c.a0 == c.a0 && (U == c.a1 && (c.a2 == c.a2 && (c.a3 == c.a3 && (c.a4 == c.a4 && true)))) && true)) && bl true (1 == 1 && (un == un && (ev == ev && true))) && bl true (l.a0 == l.a0 && (l.a1 == l.a1 && (l.a2 == l.a2 && (l.a3 == l.a3 && (l.a4 == l.a4 && true)))) && (0 == 0 && (0 == 0 && (0 == 0 && (0 == 0 && (0 == 0 && true)))) && true)) && bl true (l.a0 == l.a0 && (l.a1 == l.a1 && (l.a2 == l.a2 && (l.a3 == l.a3 && (l.a4 == l.a4 && true)))) && (c.a0 == c.a0 && (c.a1 == c.a1 && (c.a2 == c.a2 && (0 == 0 && (c.a4 == c.a4 && true)))) && true))))) (by kernel_rfl) ?_⟩
    first | rfl | (simp [bl, *]; done) | (simp [bl, *]; omega)
  · have c3 : Con Tryd.prog 20 [] [ladV l c, u8 4] [] (.agg true [u8 l.a0, u8 l.a1, u8 l.a2, u8 l.a3, u8 l.a4, u8 c.a0, u8 c.a1, u8 c.a2, u8 c.a3, u8 0]) := con_clear l c 4 (by omega)
    refine Con.of (C := ⟨Tryd.prog, tc, Tryd.f7.ntmps⟩) [] tcok Tryd.func7 rfl rfl (by kernel_rfl) (by kernel_rfl) ?_
    refine e0 [2, 3, 4, 5, 8] [4, 5] (by kernel_rfl) ?_
    refine AWP.seq ?_
    refine e1 [(0, ⟨none, some ⟨vb true, [], []⟩⟩)] [2, 3, 4, 5, 8, 17] [4, 5] (by kernel_rfl) (AllP.c (con_awake22 ) AllP.n) ?_
    refine AWP.condF (by kernel_rfl) ?_
    refine AWP.skip ?_
    refine e1 (os := [Con Tryd.prog 13 [] [V.agg true [u8 l.a0, u8 l.a1, u8 l.a2, u8 l.a3, u8 l.a4, u8 c.a0, u8 c.a1, u8 c.a2, u8 c.a3, u8 c.a4], V.agg true [u8 lv, i64 un, u8 ev], u8 inh] [] (V.tup [V.agg true [u8 l.a0, u8 l.a1, u8 l.a2, u8 l.a3, u8 l.a4, u8 c.a0, u8 U, u8 c.a2, u8 c.a3, u8 c.a4], V.agg true [u8 1, i64 un, u8 ev], vb true])]) [(3, ⟨none, some ⟨V.tup [V.agg true [u8 l.a0, u8 l.a1, u8 l.a2, u8 l.a3, u8 l.a4, u8 c.a0, u8 U, u8 c.a2, u8 c.a3, u8 c.a4], V.agg true [u8 1, i64 un, u8 ev], vb true], [], []⟩⟩)] [2, 3, 4, 5, 8, 9, 10, 11] [4, 5, 9, 10] (by kernel_rfl) ⟨(c1 ), trivial⟩ ?_
    refine e1 (os := [Con Tryd.prog 19 [] [V.agg true [u8 l.a0, u8 l.a1, u8 l.a2, u8 l.a3, u8 l.a4], V.agg true [u8 c.a0, u8 c.a1, u8 c.a2, u8 c.a3, u8 c.a4], V.agg true [u8 lv, i64 un, u8 ev], u8 inh] [] (i64 1)]) [(6, ⟨none, some ⟨i64 1, [], []⟩⟩)] [3, 4, 5, 8, 9, 10, 11, 12] [4, 5, 9, 10] (by kernel_rfl) ⟨(c2 ), trivial⟩ ?_
    refine AWP.seq ?_
    refine e0 [3, 4, 5, 8, 9, 10, 11, 12, 36] [4, 5, 9, 10] (by kernel_rfl) ?_
    refine AWP.condF (by kernel_rfl) ?_
    refine AWP.skip ?_
    refine AWP.seq ?_
    refine e0 [3, 4, 5, 8, 9, 10, 12, 38] [4, 5, 9, 10] (by kernel_rfl) ?_
    refine AWP.condF (by kernel_rfl) ?_
    refine AWP.skip ?_
    refine e0 [3, 4, 5, 8, 9, 10, 12, 13] [4, 5, 9, 10, 13] (by kernel_rfl) ?_
    refine AWP.seq ?_
    refine e0 [3, 4, 5, 8, 9, 10, 12, 13, 52] [4, 5, 9, 10, 13] (by kernel_rfl) ?_
    refine AWP.cond (b := decide (c.a1 < 255)) (by kernel_rfl) (fun hq69 => ?_) (fun hq69 => ?_)
    · simp only [decide_eq_true_eq] at hq69
      refine g1 (os := [u8 (IntKind.wrap IntKind.u8 (c.a1 + 1)) = u8 (c.a1 + 1)]) [(4, ⟨some (u8 (c.a1 + 1)), none⟩)] [3, 4, 5, 8, 9, 10, 12, 13] [4, 5, 9, 10, 13] (by kernel_rfl) ⟨(wr_u8 (by omega) (by omega)), trivial⟩ ?_
      refine e0 [3, 4, 5, 8, 9, 10, 12, 13, 14, 15] [4, 5, 9, 10, 13, 14, 15] (by kernel_rfl) ?_
      refine e0 [3, 4, 5, 8, 9, 10, 12, 13, 14, 15] [4, 5, 9, 10, 13, 14, 15] (by kernel_rfl) ?_
      refine AWP.seq ?_
      refine e0 [3, 4, 5, 8, 9, 10, 12, 13, 14, 15, 65] [4, 5, 9, 10, 13, 14, 15] (by kernel_rfl) ?_
      refine AWP.condT (by kernel_rfl) ?_
      refine g0 [3, 4, 5, 8, 9, 10, 12, 13, 14, 15] [4, 5, 9, 10, 13, 14, 15] (by kernel_rfl) ?_
      refine e1 (os := [(bl true (l.a0 == l.a0 && (l.a1 == l.a1 && (l.a2 == l.a2 && (l.a3 == l.a3 && (l.a4 == l.a4 && true)))) && (c.a0 == c.a0 && (U == c.a1 + (1 : Int) && (c.a2 == c.a2 && (c.a3 == c.a3 && (c.a4 == c.a4 && true)))) && true)) && bl true ((1 : Int) == (1 : Int) && (un == un && (ev == ev && true)))) = true → Con Tryd.prog (18 : Nat) [] [V.agg true [u8 l.a0, u8 l.a1, u8 l.a2, u8 l.a3, u8 l.a4, u8 c.a0, u8 c.a1, u8 c.a2, u8 c.a3, u8 c.a4]] [] (V.agg true [u8 l.a0, u8 l.a1, u8 l.a2, u8 l.a3, u8 l.a4, u8 (0 : Int), u8 (0 : Int), u8 (0 : Int), u8 (0 : Int), u8 (0 : Int)]) ∧ True, (bl true (l.a0 == l.a0 && (l.a1 == l.a1 && (l.a2 == l.a2 && (l.a3 == l.a3 && (l.a4 == l.a4 && true)))) && (c.a0 == c.a0 && (U == c.a1 + (1 : Int) && (c.a2 == c.a2 && (c.a3 == c.a3 && (c.a4 == c.a4 && true)))) && true)) && bl true ((1 : Int) == (1 : Int) && (un == un && (ev == ev && true))) && bl true (l.a0 == l.a0 && (l.a1 == l.a1 && (l.a2 == l.a2 && (l.a3 == l.a3 && (l.a4 == l.a4 && true)))) && ((0 : Int) == (0 : Int) && ((0 : Int) == (0 : Int) && ((0 : Int) == (0 : Int) && ((0 : Int) == (0 : Int) && ((0 : Int) == (0 : Int) && true)))) && true))) = true → Con Tryd.prog (20 : Nat) [] [V.agg true [u8 l.a0, u8 l.a1, u8 l.a2, u8 l.a3, u8 l.a4, u8 c.a0, u8 c.a1, u8 c.a2, u8 c.a3, u8 c.a4], u8 (4 : Int)] [] (V.agg true [u8 l.a0, u8 l.a1, u8 l.a2, u8 l.a3, u8 l.a4, u8 c.a0, u8 c.a1, u8 c.a2, u8 c.a3, u8 (0 : Int)]) ∧ True]) [(16, ⟨none, some ⟨ladV l (F5.mk 0 0 0 0 0), [], []⟩⟩), (23, ⟨none, some ⟨V.agg true [u8 l.a0, u8 l.a1, u8 l.a2, u8 l.a3, u8 l.a4, u8 c.a0, u8 c.a1, u8 c.a2, u8 c.a3, u8 0], [], []⟩⟩)] [8] [] (by kernel_rfl) ⟨(fun _ => ⟨(con_calm (l) (c)), trivial⟩), (fun _ => ⟨(c3 ), trivial⟩), trivial⟩ ?_
      refine AWP.ret ?_
      refine ⟨Or.inr rfl, Eq.trans (b := some ([], vb (bl true (l.a0 == l.a0 && (l.a1 == l.a1 && (l.a2 == l.a2 && (l.a3 == l.a3 && (l.a4 == l.a4 && true)))) && (c.a0 == c.a0 && (U == c.a1 + 1 && (c.a2 == c.a2 && (c.a3 == c.a3 && (c.a4 == c.a4 && true)))) && true)) && bl true (1 == 1 && (un == un && (ev == ev && true))) && bl true (l.a0 == l.a0 && (l.a1 == l.a1 && (l.a2 == l.a2 && (l.a3 == l.a3 && (l.a4 == l.a4 && true)))) && (0 == 0 && (0 == 0 && (0 == 0 && (0 == 0 && (0 == 0 && true)))) && true)) && bl true (l.a0 == l.a0 && (l.a1 == l.a1 && (l.a2 == l.a2 && (l.a3 == l.a3 && (l.a4 == l.a4 && true)))) && (c.a0 == c.a0 && (c.a1 == c.a1 && (c.a2 == c.a2 && (c.a3 == c.a3 && (0 == 0 && true)))) && true))))) (by kernel_rfl) ?_⟩
      first | rfl | (simp [bl, *]; done) | (simp [bl, *]; omega)
    simp only [decide_eq_false_iff_not] at hq69
    refine AWP.skip ?_
    refine e0 [3, 4, 5, 8, 9, 10, 12, 13, 14, 15] [4, 5, 9, 10, 13, 14, 15] (by kernel_rfl) ?_
    refine e0 [3, 4, 5, 8, 9, 10, 12, 13, 14, 15] [4, 5, 9, 10, 13, 14, 15] (by kernel_rfl) ?_
    refine AWP.seq ?_
    refine e0 [3, 4, 5, 8, 9, 10, 12, 13, 14, 15, 65] [4, 5, 9, 10, 13, 14, 15] (by kernel_rfl) ?_
    refine AWP.condT (by kernel_rfl) ?_
    refine g0 [3, 4, 5, 8, 9, 10, 12, 13, 14, 15] [4, 5, 9, 10, 13, 14, 15] (by kernel_rfl) ?_
    refine e1 (os := [(bl true (l.a0 == l.a0 && (l.a1 == l.a1 && (l.a2 == l.a2 && (l.a3 == l.a3 && (l.a4 == l.a4 && true)))) && (c.a0 == c.a0 && (U == c.a1 && (c.a2 == c.a2 && (c.a3 == c.a3 && (c.a4 == c.a4 && true)))) && true)) && bl true ((1 : Int) == (1 : Int) && (un == un && (ev == ev && true)))) = true → Con Tryd.prog (18 : Nat) [] [V.agg true [u8 l.a0, u8 l.a1, u8 l.a2, u8 l.a3, u8 l.a4, u8 c.a0, u8 c.a1, u8 c.a2, u8 c.a3, u8 c.a4]] [] (V.agg true [u8 l.a0, u8 l.a1, u8 l.a2, u8 l.a3, u8 l.a4, u8 (0 : Int), u8 (0 : Int), u8 (0 : Int), u8 (0 : Int), u8 (0 : Int)]) ∧ True, (bl true (l.a0 == l.a0 && (l.a1 == l.a1 && (l.a2 == l.a2 && (l.a3 == l.a3 && (l.a4 == l.a4 && true)))) && (c.a0 == c.a0 && (U == c.a1 && (c.a2 == c.a2 && (c.a3 == c.a3 && (c.a4 == c.a4 && true)))) && true)) && bl true ((1 : Int) == (1 : Int) && (un == un && (ev == ev && true))) && bl true (l.a0 == l.a0 && (l.a1 == l.a1 && (l.a2 == l.a2 && (l.a3 == l.a3 && (l.a4 == l.a4 && true)))) && ((0 : Int) == (0 : Int) && ((0 : Int) == (0 : Int) && ((0 : Int) == (0 : Int) && ((0 : Int) == (0 : Int) && ((0 : Int) == (0 : Int) && true)))) && true))) = true → Con Tryd.prog (20 : Nat) [] [V.agg true [u8 l.a0, u8 l.a1, u8 l.a2, u8 l.a3, u8 l.a4, u8 c.a0, u8 c.a1, u8 c.a2, u8 c.a3, u8 c.a4], u8 (4 : Int)] [] (V.agg true [u8 l.a0, u8 l.a1, u8 l.a2, u8 l.a3, u8 l.a4, u8 c.a0, u8 c.a1, u8 c.a2, u8 c.a3, u8 (0 : Int)]) ∧ True]) [(16, ⟨none, some ⟨ladV l (F5.mk 0 0 0 0 0), [], []⟩⟩), (23, ⟨none, some ⟨V.agg true [u8 l.a0, u8 l.a1, u8 l.a2, u8 l.a3, u8 l.a4, u8 c.a0, u8 c.a1, u8 c.a2, u8 c.a3, u8 0], [], []⟩⟩)] [8] [] (by kernel_rfl) ⟨(fun _ => ⟨(con_calm (l) (c)), trivial⟩), (fun _ => ⟨(c3 ), trivial⟩), trivial⟩ ?_
    refine AWP.ret ?_
    refine ⟨Or.inr rfl, Eq.trans (b := some ([], vb (bl true (l.a0 == l.a0 && (l.a1 == l.a1 && (l.a2 == l.a2 && (l.a3 == l.a3 && (l.a4 == l.a4 && true)))) && (c.a0 == c.a0 && (U == c.a1 && (c.a2 == c.a2 && (c.a3 == c.a3 && (c.a4 == c.a4 && true)))) && true)) && bl true (1 == 1 && (un == un && (ev == ev && true))) && bl true (l.a0 == l.a0 && (l.a1 == l.a1 && (l.a2 == l.a2 && (l.a3 == l.a3 && (l.a4 == l.a4 && true)))) && (0 == 0 && (0 == 0 && (0 == 0 && (0 == 0 && (0 == 0 && true)))) && true)) && bl true (l.a0 == l.a0 && (l.a1 == l.a1 && (l.a2 == l.a2 && (l.a3 == l.a3 && (l.a4 == l.a4 && true)))) && (c.a0 == c.a0 && (c.a1 == c.a1 && (c.a2 == c.a2 && (c.a3 == c.a3 && (0 == 0 && true)))) && true))))) (by kernel_rfl) ?_⟩
    first | rfl | (simp [bl, *]; done) | (simp [bl, *]; omega)
  · have c3 := con_clear_no l c w hw
    refine Con.of (C := ⟨Tryd.prog, tc, Tryd.f7.ntmps⟩) [] tcok Tryd.func7 rfl rfl (by kernel_rfl) (by kernel_rfl) ?_
    refine e0 [2, 3, 4, 5, 8] [4, 5] (by kernel_rfl) ?_
    refine AWP.seq ?_
    refine e1 [(0, ⟨none, some ⟨vb true, [], []⟩⟩)] [2, 3, 4, 5, 8, 17] [4, 5] (by kernel_rfl) (AllP.c (con_awake22 ) AllP.n) ?_
    refine AWP.condF (by kernel_rfl) ?_
    refine AWP.skip ?_
    refine e1 (os := [Con Tryd.prog 13 [] [V.agg true [u8 l.a0, u8 l.a1, u8 l.a2, u8 l.a3, u8 l.a4, u8 c.a0, u8 c.a1, u8 c.a2, u8 c.a3, u8 c.a4], V.agg true [u8 lv, i64 un, u8 ev], u8 inh] [] (V.tup [V.agg true [u8 l.a0, u8 l.a1, u8 l.a2, u8 l.a3, u8 l.a4, u8 c.a0, u8 U, u8 c.a2, u8 c.a3, u8 c.a4], V.agg true [u8 1, i64 un, u8 ev], vb true])]) [(3, ⟨none, some ⟨V.tup [V.agg true [u8 l.a0, u8 l.a1, u8 l.a2, u8 l.a3, u8 l.a4, u8 c.a0, u8 U, u8 c.a2, u8 c.a3, u8 c.a4], V.agg true [u8 1, i64 un, u8 ev], vb true], [], []⟩⟩)] [2, 3, 4, 5, 8, 9, 10, 11] [4, 5, 9, 10] (by kernel_rfl) ⟨(c1 ), trivial⟩ ?_
    refine e1 (os := [Con Tryd.prog 19 [] [V.agg true [u8 l.a0, u8 l.a1, u8 l.a2, u8 l.a3, u8 l.a4], V.agg true [u8 c.a0, u8 c.a1, u8 c.a2, u8 c.a3, u8 c.a4], V.agg true [u8 lv, i64 un, u8 ev], u8 inh] [] (i64 1)]) [(6, ⟨none, some ⟨i64 1, [], []⟩⟩)] [3, 4, 5, 8, 9, 10, 11, 12] [4, 5, 9, 10] (by kernel_rfl) ⟨(c2 ), trivial⟩ ?_
    refine AWP.seq ?_
    refine e0 [3, 4, 5, 8, 9, 10, 11, 12, 36] [4, 5, 9, 10] (by kernel_rfl) ?_
    refine AWP.condF (by kernel_rfl) ?_
    refine AWP.skip ?_
    refine AWP.seq ?_
    refine e0 [3, 4, 5, 8, 9, 10, 12, 38] [4, 5, 9, 10] (by kernel_rfl) ?_
    refine AWP.condF (by kernel_rfl) ?_
    refine AWP.skip ?_
    refine e0 [3, 4, 5, 8, 9, 10, 12, 13] [4, 5, 9, 10, 13] (by kernel_rfl) ?_
    refine AWP.seq ?_
    refine e0 [3, 4, 5, 8, 9, 10, 12, 13, 52] [4, 5, 9, 10, 13] (by kernel_rfl) ?_
    refine AWP.cond (b := decide (c.a1 < 255)) (by kernel_rfl) (fun hq75 => ?_) (fun hq75 => ?_)
    · simp only [decide_eq_true_eq] at hq75
      refine g1 (os := [u8 (IntKind.wrap IntKind.u8 (c.a1 + 1)) = u8 (c.a1 + 1)]) [(4, ⟨some (u8 (c.a1 + 1)), none⟩)] [3, 4, 5, 8, 9, 10, 12, 13] [4, 5, 9, 10, 13] (by kernel_rfl) ⟨(wr_u8 (by omega) (by omega)), trivial⟩ ?_
      refine e0 [3, 4, 5, 8, 9, 10, 12, 13, 14, 15] [4, 5, 9, 10, 13, 14, 15] (by kernel_rfl) ?_
      refine e0 [3, 4, 5, 8, 9, 10, 12, 13, 14, 15] [4, 5, 9, 10, 13, 14, 15] (by kernel_rfl) ?_
      refine AWP.seq ?_
      refine e0 [3, 4, 5, 8, 9, 10, 12, 13, 14, 15, 65] [4, 5, 9, 10, 13, 14, 15] (by kernel_rfl) ?_
      refine AWP.cond (b := decide (w < 5)) (by kernel_rfl) (fun hq76 => ?_) (fun hq76 => ?_)
      · simp only [decide_eq_true_eq] at hq76
        (exfalso; omega)
      simp only [decide_eq_false_iff_not] at hq76
      refine AWP.skip ?_
      refine e1 (os := [(bl true (l.a0 == l.a0 && (l.a1 == l.a1 && (l.a2 == l.a2 && (l.a3 == l.a3 && (l.a4 == l.a4 && true)))) && (c.a0 == c.a0 && (U == c.a1 + (1 : Int) && (c.a2 == c.a2 && (c.a3 == c.a3 && (c.a4 == c.a4 && true)))) && true)) && bl true ((1 : Int) == (1 : Int) && (un == un && (ev == ev && true)))) = true → Con Tryd.prog (18 : Nat) [] [V.agg true [u8 l.a0, u8 l.a1, u8 l.a2, u8 l.a3, u8 l.a4, u8 c.a0, u8 c.a1, u8 c.a2, u8 c.a3, u8 c.a4]] [] (V.agg true [u8 l.a0, u8 l.a1, u8 l.a2, u8 l.a3, u8 l.a4, u8 (0 : Int), u8 (0 : Int), u8 (0 : Int), u8 (0 : Int), u8 (0 : Int)]) ∧ True, (bl true (l.a0 == l.a0 && (l.a1 == l.a1 && (l.a2 == l.a2 && (l.a3 == l.a3 && (l.a4 == l.a4 && true)))) && (c.a0 == c.a0 && (U == c.a1 + (1 : Int) && (c.a2 == c.a2 && (c.a3 == c.a3 && (c.a4 == c.a4 && true)))) && true)) && bl true ((1 : Int) == (1 : Int) && (un == un && (ev == ev && true))) && bl true (l.a0 == l.a0 && (l.a1 == l.a1 && (l.a2 == l.a2 && (l.a3 == l.a3 && (l.a4 == l.a4 && true)))) && ((0 : Int) == (0 : Int) && ((0 : Int) == (0 : Int) && ((0 : Int) == (0 : Int) && ((0 : Int) == (0 : Int) && ((0 : Int) == (0 : Int) && true)))) && true))) = true → Con Tryd.prog (20 : Nat) [] [V.agg true [u8 l.a0, u8 l.a1, u8 l.a2, u8 l.a3, u8 l.a4, u8 c.a0, u8 c.a1, u8 c.a2, u8 c.a3, u8 c.a4], u8 w] [] (V.agg true [u8 l.a0, u8 l.a1, u8 l.a2, u8 l.a3, u8 l.a4, u8 c.a0, u8 c.a1, u8 c.a2, u8 c.a3, u8 c.a4]) ∧ True]) [(16, ⟨none, some ⟨ladV l (F5.mk 0 0 0 0 0), [], []⟩⟩), (23, ⟨none, some ⟨ladV l c, [], []⟩⟩)] [8] [] (by kernel_rfl) ⟨(fun _ => ⟨(con_calm (l) (c)), trivial⟩), (fun _ => ⟨(c3 ), trivial⟩), trivial⟩ ?_
      refine AWP.ret ?_
      refine ⟨Or.inr rfl, Eq.trans (b := some ([], vb (bl true (l.a0 == l.a0 && (l.a1 == l.a1 && (l.a2 == l.a2 && (l.a3 == l.a3 && (l.a4 == l.a4 && true)))) && (c.a0 == c.a0 && (U == c.a1 + 1 && (c.a2 == c.a2 && (c.a3 == c.a3 && (c.a4 == c.a4 && true)))) && true)) && bl true (1 == 1 && (un == un && (ev == ev && true))) && bl true (l.a0 == l.a0 && (l.a1 == l.a1 && (l.a2 == l.a2 && (l.a3 == l.a3 && (l.a4 == l.a4 && true)))) && (0 == 0 && (0 == 0 && (0 == 0 && (0 == 0 && (0 == 0 && true)))) && true)) && bl true (l.a0 == l.a0 && (l.a1 == l.a1 && (l.a2 == l.a2 && (l.a3 == l.a3 && (l.a4 == l.a4 && true)))) && (c.a0 == c.a0 && (c.a1 == c.a1 && (c.a2 == c.a2 && (c.a3 == c.a3 && (c.a4 == c.a4 && true)))) && true))))) (by kernel_rfl) ?_⟩
      first | rfl | (simp [bl, *]; done) | (simp [bl, *]; omega)
    simp only [decide_eq_false_iff_not] at hq75
    refine AWP.skip ?_
    refine e0 [3, 4, 5, 8, 9, 10, 12, 13, 14, 15] [4, 5, 9, 10, 13, 14, 15] (by kernel_rfl) ?_
    refine e0 [3, 4, 5, 8, 9, 10, 12, 13, 14, 15] [4, 5, 9, 10, 13, 14, 15] (by kernel_rfl) ?_
    refine AWP.seq ?_
    refine e0 [3, 4, 5, 8, 9, 10, 12, 13, 14, 15, 65] [4, 5, 9, 10, 13, 14, 15] (by kernel_rfl) ?_
    refine AWP.cond (b := decide (w < 5)) (by kernel_rfl) (fun hq77 => ?_) (fun hq77 => ?_)
    · simp only [decide_eq_true_eq] at hq77
      (exfalso; omega)
    simp only [decide_eq_false_iff_not] at hq77
    refine AWP.skip ?_
    refine e1 (os := [(bl true (l.a0 == l.a0 && (l.a1 == l.a1 && (l.a2 == l.a2 && (l.a3 == l.a3 && (l.a4 == l.a4 && true)))) && (c.a0 == c.a0 && (U == c.a1 && (c.a2 == c.a2 && (c.a3 == c.a3 && (c.a4 == c.a4 && true)))) && true)) && bl true ((1 : Int) == (1 : Int) && (un == un && (ev == ev && true)))) = true → Con Tryd.prog (18 : Nat) [] [V.agg true [u8 l.a0, u8 l.a1, u8 l.a2, u8 l.a3, u8 l.a4, u8 c.a0, u8 c.a1, u8 c.a2, u8 c.a3, u8 c.a4]] [] (V.agg true [u8 l.a0, u8 l.a1, u8 l.a2, u8 l.a3, u8 l.a4, u8 (0 : Int), u8 (0 : Int), u8 (0 : Int), u8 (0 : Int), u8 (0 : Int)]) ∧ True, (bl true (l.a0 == l.a0 && (l.a1 == l.a1 && (l.a2 == l.a2 && (l.a3 == l.a3 && (l.a4 == l.a4 && true)))) && (c.a0 == c.a0 && (U == c.a1 && (c.a2 == c.a2 && (c.a3 == c.a3 && (c.a4 == c.a4 && true)))) && true)) && bl true ((1 : Int) == (1 : Int) && (un == un && (ev == ev && true))) && bl true (l.a0 == l.a0 && (l.a1 == l.a1 && (l.a2 == l.a2 && (l.a3 == l.a3 && (l.a4 == l.a4 && true)))) && ((0 : Int) == (0 : Int) && ((0 : Int) == (0 : Int) && ((0 : Int) == (0 : Int) && ((0 : Int) == (0 : Int) && ((0 : Int) == (0 : Int) && true)))) && true))) = true → Con Tryd.prog (20 : Nat) [] [V.agg true [u8 l.a0, u8 l.a1, u8 l.a2, u8 l.a3, u8 l.a4, u8 c.a0, u8 c.a1, u8 c.a2, u8 c.a3, u8 c.a4], u8 w] [] (V.agg true [u8 l.a0, u8 l.a1, u8 l.a2, u8 l.a3, u8 l.a4, u8 c.a0, u8 c.a1, u8 c.a2, u8 c.a3, u8 c.a4]) ∧ True]) [(16, ⟨none, some ⟨ladV l (F5.mk 0 0 0 0 0), [], []⟩⟩), (23, ⟨none, some ⟨ladV l c, [], []⟩⟩)] [8] [] (by kernel_rfl) ⟨(fun _ => ⟨(con_calm (l) (c)), trivial⟩), (fun _ => ⟨(c3 ), trivial⟩), trivial⟩ ?_
    refine AWP.ret ?_
    refine ⟨Or.inr rfl, Eq.trans (b := some ([], vb (bl true (l.a0 == l.a0 && (l.a1 == l.a1 && (l.a2 == l.a2 && (l.a3 == l.a3 && (l.a4 == l.a4 && true)))) && (c.a0 == c.a0 && (U == c.a1 && (c.a2 == c.a2 && (c.a3 == c.a3 && (c.a4 == c.a4 && true)))) && true)) && bl true (1 == 1 && (un == un && (ev == ev && true))) && bl true (l.a0 == l.a0 && (l.a1 == l.a1 && (l.a2 == l.a2 && (l.a3 == l.a3 && (l.a4 == l.a4 && true)))) && (0 == 0 && (0 == 0 && (0 == 0 && (0 == 0 && (0 == 0 && true)))) && true)) && bl true (l.a0 == l.a0 && (l.a1 == l.a1 && (l.a2 == l.a2 && (l.a3 == l.a3 && (l.a4 == l.a4 && true)))) && (c.a0 == c.a0 && (c.a1 == c.a1 && (c.a2 == c.a2 && (c.a3 == c.a3 && (c.a4 == c.a4 && true)))) && true))))) (by kernel_rfl) ?_⟩
    first | rfl | (simp [bl, *]; done) | (simp [bl, *]; omega)
theorem law_raises_2 (inh : Int) (l c : F5) (lv un ev w : Int) (hi : 0 ≤ inh ∧ inh < 256) (hc : c.ok) (hl : 0 ≤ lv ∧ lv < 5) (hr : aright lv un = true) (hM : lev inh l c (5 - lv).toNat lv (-1) = 2) (hw : 0 ≤ w ∧ w < 256) :
    Con Tryd.prog 7 [] [ladV l c, .agg true [u8 lv, i64 un, u8 ev], u8 inh, u8 w] [] (vb true) := by
  have c1 : Con Tryd.prog 13 [] [ladV l c, .agg true [u8 lv, i64 un, u8 ev], u8 inh] [] (.tup [.agg true [u8 l.a0, u8 l.a1, u8 l.a2, u8 l.a3, u8 l.a4, u8 c.a0, u8 c.a1, u8 (up8 c.a2), u8 c.a3, u8 c.a4], .agg true [u8 2, i64 un, u8 ev], vb true]) := con_raise inh l c lv un ev _ hi hc hl hr hM
  have c2 := con_rlevel inh l c lv un ev _ hi hc hl hr hM
  have hu : up8 c.a2 = if c.a2 < 255 then c.a2 + 1 else c.a2 := rfl
  obtain ⟨hc1, hc2, hc3, hc4, hc5, hc6, hc7, hc8, hc9, hc0⟩ := hc
  generalize up8 c.a2 = U at *
  rcases (by omega : w = 0 ∨ w = 1 ∨ w = 2 ∨ w = 3 ∨ w = 4 ∨ 5 ≤ w) with rfl | rfl | rfl | rfl | rfl | hw
  · have c3 : Con Tryd.prog 20 [] [ladV l c, u8 0] [] (.agg true [u8 l.a0, u8 l.a1, u8 l.a2, u8 l.a3, u8 l.a4, u8 0, u8 c.a1, u8 c.a2, u8 c.a3, u8 c.a4]) := con_clear l c 0 (by omega)
    refine Con.of (C := ⟨Tryd.prog, tc, Tryd.f7.ntmps⟩) [] tcok Tryd.func7 rfl rfl (by kernel_rfl) (by kernel_rfl) ?_
    refine e0 [2, 3, 4, 5, 8] [4, 5] (by kernel_rfl) ?_
    refine AWP.seq ?_
    refine e1 [(0, ⟨none, some ⟨vb true, [], []⟩⟩)] [2, 3, 4, 5, 8, 17] [4, 5] (by kernel_rfl) (AllP.c (con_awake22 ) AllP.n) ?_
    refine AWP.condF (by kernel_rfl) ?_
    refine AWP.skip ?_
    refine e1 (os := [Con Tryd.prog 13 [] [V.agg true [u8 l.a0, u8 l.a1, u8 l.a2, u8 l.a3, u8 l.a4, u8 c.a0, u8 c.a1, u8 c.a2, u8 c.a3, u8 c.a4], V.agg true [u8 lv, i64 un, u8 ev], u8 inh] [] (V.tup [V.agg true [u8 l.a0, u8 l.a1, u8 l.a2, u8 l.a3, u8 l.a4, u8 c.a0, u8 c.a1, u8 U, u8 c.a3, u8 c.a4], V.agg true [u8 2, i64 un, u8 ev], vb true])]) [(3, ⟨none, some ⟨V.tup [V.agg true [u8 l.a0, u8 l.a1, u8 l.a2, u8 l.a3, u8 l.a4, u8 c.a0, u8 c.a1, u8 U, u8 c.a3, u8 c.a4], V.agg true [u8 2, i64 un, u8 ev], vb true], [], []⟩⟩)] [2, 3, 4, 5, 8, 9, 10, 11] [4, 5, 9, 10] (by kernel_rfl) ⟨(c1 ), trivial⟩ ?_
    refine e1 (os := [Con Tryd.prog 19 [] [V.agg true [u8 l.a0, u8 l.a1, u8 l.a2, u8 l.a3, u8 l.a4], V.agg true [u8 c.a0, u8 c.a1, u8 c.a2, u8 c.a3, u8 c.a4], V.agg true [u8 lv, i64 un, u8 ev], u8 inh] [] (i64 2)]) [(6, ⟨none, some ⟨i64 2, [], []⟩⟩)] [3, 4, 5, 8, 9, 10, 11, 12] [4, 5, 9, 10] (by kernel_rfl) ⟨(c2 ), trivial⟩ ?_
    refine AWP.seq ?_
    refine e0 [3, 4, 5, 8, 9, 10, 11, 12, 36] [4, 5, 9, 10] (by kernel_rfl) ?_
    refine AWP.condF (by kernel_rfl) ?_
    refine AWP.skip ?_
    refine AWP.seq ?_
    refine e0 [3, 4, 5, 8, 9, 10, 12, 38] [4, 5, 9, 10] (by kernel_rfl) ?_
    refine AWP.condF (by kernel_rfl) ?_
    refine AWP.skip ?_
    refine e0 [3, 4, 5, 8, 9, 10, 12, 13] [4, 5, 9, 10, 13] (by kernel_rfl) ?_
    refine AWP.seq ?_
    refine e0 [3, 4, 5, 8, 9, 10, 12, 13, 52] [4, 5, 9, 10, 13] (by kernel_rfl) ?_
    refine AWP.cond (b := decide (c.a2 < 255)) (by kernel_rfl) (fun hq81 => ?_) (fun hq81 => ?_)
    · simp only [decide_eq_true_eq] at hq81
      refine g1 (os := [u8 (IntKind.wrap IntKind.u8 (c.a2 + 1)) = u8 (c.a2 + 1)]) [(4, ⟨some (u8 (c.a2 + 1)), none⟩)] [3, 4, 5, 8, 9, 10, 12, 13] [4, 5, 9, 10, 13] (by kernel_rfl) ⟨(wr_u8 (by omega) (by omega)), trivial⟩ ?_
      refine e0 [3, 4, 5, 8, 9, 10, 12, 13, 14, 15] [4, 5, 9, 10, 13, 14, 15] (by kernel_rfl) ?_
      refine e0 [3, 4, 5, 8, 9, 10, 12, 13, 14, 15] [4, 5, 9, 10, 13, 14, 15] (by kernel_rfl) ?_
      refine AWP.seq ?_
      refine e0 [3, 4, 5, 8, 9, 10, 12, 13, 14, 15, 65] [4, 5, 9, 10, 13, 14, 15] (by kernel_rfl) ?_
      refine AWP.condT (by kernel_rfl) ?_
      refine g0 [3, 4, 5, 8, 9, 10, 12, 13, 14, 15] [4, 5, 9, 10, 13, 14, 15] (by kernel_rfl) ?_
      refine e1 (os := [(bl true (l.a0 == l.a0 && (l.a1 == l.a1 && (l.a2 == l.a2 && (l.a3 == l.a3 && (l.a4 == l.a4 && true)))) && (c.a0 == c.a0 && (c.a1 == c.a1 && (U == c.a2 + (1 : Int) && (c.a3 == c.a3 && (c.a4 == c.a4 && true)))) && true)) && bl true ((2 : Int) == (2 : Int) && (un == un && (ev == ev && true)))) = true → Con Tryd.prog (18 : Nat) [] [V.agg true [u8 l.a0, u8 l.a1, u8 l.a2, u8 l.a3, u8 l.a4, u8 c.a0, u8 c.a1, u8 c.a2, u8 c.a3, u8 c.a4]] [] (V.agg true [u8 l.a0, u8 l.a1, u8 l.a2, u8 l.a3, u8 l.a4, u8 (0 : Int), u8 (0 : Int), u8 (0 : Int), u8 (0 : Int), u8 (0 : Int)]) ∧ True, (bl true (l.a0 == l.a0 && (l.a1 == l.a1 && (l.a2 == l.a2 && (l.a3 == l.a3 && (l.a4 == l.a4 && true)))) && (c.a0 == c.a0 && (c.a1 == c.a1 && (U == c.a2 + (1 : Int) && (c.a3 == c.a3 && (c.a4 == c.a4 && true)))) && true)) && bl true ((2 : Int) == (2 : Int) && (un == un && (ev == ev && true))) && bl true (l.a0 == l.a0 && (l.a1 == l.a1 && (l.a2 == l.a2 && (l.a3 == l.a3 && (l.a4 == l.a4 && true)))) && ((0 : Int) == (0 : Int) && ((0 : Int) == (0 : Int) && ((0 : Int) == (0 : Int) && ((0 : Int) == (0 : Int) && ((0 : Int) == (0 : Int) && true)))) && true))) = true → Con Tryd.prog (20 : Nat) [] [V.agg true [u8 l.a0, u8 l.a1, u8 l.a2, u8 l.a3, u8 l.a4, u8 c.a0, u8 c.a1, u8 c.a2, u8 c.a3, u8 c.a4], u8 (0 : Int)] [] (V.agg true [u8 l.a0, u8 l.a1, u8 l.a2, u8 l.a3, u8 l.a4, u8 (0 : Int), u8 c.a1, u8 c.a2, u8 c.a3, u8 c.a4]) ∧ True]) [(16, ⟨none, some ⟨ladV l (F5.mk 0 0 0 0 0), [], []⟩⟩), (23, ⟨none, some ⟨V.agg true [u8 l.a0, u8 l.a1, u8 l.a2, u8 l.a3, u8 l.a4, u8 0, u8 c.a1, u8 c.a2, u8 c.a3, u8 c.a4], [], []⟩⟩)] [8] [] (by kernel_rfl) ⟨(fun _ => ⟨(con_calm (l) (c)), trivial⟩), (fun _ => ⟨(c3 ), trivial⟩), trivial⟩ ?_
      refine AWP.ret ?_
      refine ⟨Or.inr rfl, Eq.trans (b := some ([], vb (bl true (l.a0 == l.a0 && (l.a1 == l.a1 && (l.a2 == l.a2 && (l.a3 == l.a3 && (l.a4 == l.a4 && true)))) && (c.a0 == c.a0 && (c.a1 == c.a1 && (U == c.a2 + 1 && (c.a3 == c.a3 && (c.a4 == c.a4 && true)))) && true)) && bl true (2 == 2 && (un == un && (ev == ev && true))) && bl true (l.a0 == l.a0 && (l.a1 == l.a1 && (l.a2 == l.a2 && (l.a3 == l.a3 && (l.a4 == l.a4 && true)))) && (0 == 0 && (0 == 0 && (0 == 0 && (0 == 0 && (0 == 0 && true)))) && true)) && bl true (l.a0 == l.a0 && (l.a1 == l.a1 && (l.a2 == l.a2 && (l.a3 == l.a3 && (l.a4 == l.a4 && true)))) && (0 == 0 && (c.a1 == c.a1 && (c.a2 == c.a2 && (c.a3 == c.a3 && (c.a4 == c.a4 && true)))) && true))))) (by kernel_rfl) ?_⟩
      first | rfl | (simp [bl, *]; done) | (simp [bl, *]; omega)
    simp only [decide_eq_false_iff_not] at hq81
    refine AWP.skip ?_
    refine e0 [3, 4, 5, 8, 9, 10, 12, 13, 14, 15] [4, 5, 9, 10, 13, 14, 15] (by kernel_rfl) ?_
    refine e0 [3, 4, 5, 8, 9, 10, 12, 13, 14, 15] [4, 5, 9, 10, 13, 14, 15] (by kernel_rfl) ?_
    refine AWP.seq ?_
    refine e0 [3, 4, 5, 8, 9, 10, 12, 13, 14, 15, 65] [4, 5, 9, 10, 13, 14, 15] (by kernel_rfl) ?_
    refine AWP.condT (by kernel_rfl) ?_
    refine g0 [3, 4, 5, 8, 9, 10, 12, 13, 14, 15] [4, 5, 9, 10, 13, 14, 15] (by kernel_rfl) ?_
    refine e1 (os := [(bl true (l.a0 == l.a0 && (l.a1 == l.a1 && (l.a2 == l.a2 && (l.a3 == l.a3 && (l.a4 == l.a4 && true)))) && (c.a0 == c.a0 && (c.a1 == c.a1 && (U == c.a2 && (c.a3 == c.a3 && (c.a4 == c.a4 && true)))) && true)) && bl true ((2 : Int) == (2 : Int) && (un == un && (ev == ev && true)))) = true → Con Tryd.prog (18 : Nat) [] [V.agg true [u8 l.a0, u8 l.a1, u8 l.a2, u8 l.a3, u8 l.a4, u8 c.a0, u8 c.a1, u8 c.a2, u8 c.a3, u8 c.a4]] [] (V.agg true [u8 l.a0, u8 l.a1, u8 l.a2, u8 l.a3, u8 l.a4, u8 (0 : Int), u8 (0 : Int), u8 (0 : Int), u8 (0 : Int), u8 (0 : Int)]) ∧ True, (bl true (l.a0 == l.a0 && (l.a1 == l.a1 && (l.a2 == l.a2 && (l.a3 == l.a3 && (l.a4 == l.a4 && true)))) && (c.a0 == c.a0 && (c.a1 == c.a1 && (U == c.a2 && (c.a3 == c.a3 && (c.a4 == c.a4 && true)))) && true)) && bl true ((2 : Int) == (2 : Int) && (un == un && (ev == ev && true))) && bl true (l.a0 == l.a0 && (l.a1 == l.a1 && (l.a2 == l.a2 && (l.a3 == l.a3 && (l.a4 == l.a4 && true)))) && ((0 : Int) == (0 : Int) && ((0 : Int) == (0 : Int) && ((0 : Int) == (0 : Int) && ((0 : Int) == (0 : Int) && ((0 : Int) == (0 : Int) && true)))) && true))) = true → Con Tryd.prog (20 : Nat) [] [V.agg true [u8 l.a0, u8 l.a1, u8 l.a2, u8 l.a3, u8 l.a4, u8 c.a0, u8 c.a1, u8 c.a2, u8 c.a3, u8 c.a4], u8 (0 : Int)] [] (V.agg true [u8 l.a0, u8 l.a1, u8 l.a2, u8 l.a3, u8 l.a4, u8 (0 : Int), u8 c.a1, u8 c.a2, u8 c.a3, u8 c.a4]) ∧ True]) [(16, ⟨none, some ⟨ladV l (F5.mk 0 0 0 0 0), [], []⟩⟩), (23, ⟨none, some ⟨V.agg true [u8 l.a0, u8 l.a1, u8 l.a2, u8 l.a3, u8 l.a4, u8 0, u8 c.a1, u8 c.a2, u8 c.a3, u8 c.a4], [], []⟩⟩)] [8] [] (by kernel_rfl) ⟨(fun _ => ⟨(con_calm (l) (c)), trivial⟩), (fun _ => ⟨(c3 ), trivial⟩), trivial⟩ ?_
    refine AWP.ret ?_
    refine ⟨Or.inr rfl, Eq.trans (b := some ([], vb (bl true (l.a0 == l.a0 && (l.a1 == l.a1 && (l.a2 == l.a2 && (l.a3 == l.a3 && (l.a4 == l.a4 && true)))) && (c.a0 == c.a0 && (c.a1 == c.a1 && (U == c.a2 && (c.a3 == c.a3 && (c.a4 == c.a4 && true)))) && true)) && bl true (2 == 2 && (un == un && (ev == ev && true))) && bl true (l.a0 == l.a0 && (l.a1 == l.a1 && (l.a2 == l.a2 && (l.a3 == l.a3 && (l.a4 == l.a4 && true)))) && (0 == 0 && (0 == 0 && (0 == 0 && (0 == 0 && (0 == 0 && true)))) && true)) && bl true (l.a0 == l.a0 && (l.a1 == l.a1 && (l.a2 == l.a2 && (l.a3 == l.a3 && (l.a4 == l.a4 && true)))) && (0 == 0 && (c.a1 == c.a1 && (c.a2 == c.a2 && (c.a3 == c.a3 && (c.a4 == c.a4 && true)))) && true))))) (by kernel_rfl) ?_⟩
    first | rfl | (simp [bl, *]; done) | (simp [bl, *]; omega)
  · have c3 : Con Tryd.prog 20 [] [ladV l c, u8 1] [] (.agg true [u8 l.a0, u8 l.a1, u8 l.a2, u8 l.a3, u8 l.a4, u8 c.a0, u8 0, u8 c.a2, u8 c.a3, u8 c.a4]) := con_clear l c 1 (by omega)
    refine Con.of (C := ⟨Tryd.prog, tc, Tryd.f7.ntmps⟩) [] tcok Tryd.func7 rfl rfl (by kernel_rfl) (by kernel_rfl) ?_
    refine e0 [2, 3, 4, 5, 8] [4, 5] (by kernel_rfl) ?_
    refine AWP.seq ?_
    refine e1 [(0, ⟨none, some ⟨vb true, [], []⟩⟩)] [2, 3, 4, 5, 8, 17] [4, 5] (by kernel_rfl) (AllP.c (con_awake22 ) AllP.n) ?_
    refine AWP.condF (by kernel_rfl) ?_
    refine AWP.skip ?_
    refine e1 (os := [Con Tryd.prog 13 [] [V.agg true [u8 l.a0, u8 l.a1, u8 l.a2, u8 l.a3, u8 l.a4, u8 c.a0, u8 c.a1, u8 c.a2, u8 c.a3, u8 c.a4], V.agg true [u8 lv, i64 un, u8 ev], u8 inh] [] (V.tup [V.agg true [u8 l.a0, u8 l.a1, u8 l.a2, u8 l.a3, u8 l.a4, u8 c.a0, u8 c.a1, u8 U, u8 c.a3, u8 c.a4], V.agg true [u8 2, i64 un, u8 ev], vb true])]) [(3, ⟨none, some ⟨V.tup [V.agg true [u8 l.a0, u8 l.a1, u8 l.a2, u8 l.a3, u8 l.a4, u8 c.a0, u8 c.a1, u8 U, u8 c.a3, u8 c.a4], V.agg true [u8 2, i64 un, u8 ev], vb true], [], []⟩⟩)] [2, 3, 4, 5, 8, 9, 10, 11] [4, 5, 9, 10] (by kernel_rfl) ⟨(c1 ), trivial⟩ ?_
    refine e1 (os := [Con Tryd.prog 19 [] [V.agg true [u8 l.a0, u8 l.a1, u8 l.a2, u8 l.a3, u8 l.a4], V.agg true [u8 c.a0, u8 c.a1, u8 c.a2, u8 c.a3, u8 c.a4], V.agg true [u8 lv, i64 un, u8 ev], u8 inh] [] (i64 2)]) [(6, ⟨none, some ⟨i64 2, [], []⟩⟩)] [3, 4, 5, 8, 9, 10, 11, 12] [4, 5, 9, 10] (by kernel_rfl) ⟨(c2 ), trivial⟩ ?_
    refine AWP.seq ?_
    refine e0 [3, 4, 5, 8, 9, 10, 11, 12, 36] [4, 5, 9, 10] (by kernel_rfl) ?_
    refine AWP.condF (by kernel_rfl) ?_
    refine AWP.skip ?_
    refine AWP.seq ?_
    refine e0 [3, 4, 5, 8, 9, 10, 12, 38] [4, 5, 9, 10] (by kernel_rfl) ?_
    refine AWP.condF (by kernel_rfl) ?_
    refine AWP.skip ?_
    refine e0 [3, 4, 5, 8, 9, 10, 12, 13] [4, 5, 9, 10, 13] (by kernel_rfl) ?_
    refine AWP.seq ?_
    refine e0 [3, 4, 5, 8, 9, 10, 12, 13, 52] [4, 5, 9, 10, 13] (by kernel_rfl) ?_
    refine AWP.cond (b := decide (c.a2 < 255)) (by kernel_rfl) (fun hq87 => ?_) (fun hq87 => ?_)
    · simp only [decide_eq_true_eq] at hq87
      refine g1 (os := [u8 (IntKind.wrap IntKind.u8 (c.a2 + 1)) = u8 (c.a2 + 1)]) [(4, ⟨some (u8 (c.a2 + 1)), none⟩)] [3, 4, 5, 8, 9, 10, 12, 13] [4, 5, 9, 10, 13] (by kernel_rfl) ⟨(wr_u8 (by omega) (by omega)), trivial⟩ ?_
      refine e0 [3, 4, 5, 8, 9, 10, 12, 13, 14, 15] [4, 5, 9, 10, 13, 14, 15] (by kernel_rfl) ?_
      refine e0 [3, 4, 5, 8, 9, 10, 12, 13, 14, 15] [4, 5, 9, 10, 13, 14, 15] (by kernel_rfl) ?_
      refine AWP.seq ?_
      refine e0 [3, 4, 5, 8, 9, 10, 12, 13, 14, 15, 65] [4, 5, 9, 10, 13, 14, 15] (by kernel_rfl) ?_
      refine AWP.condT (by kernel_rfl) ?_
      refine g0 [3, 4, 5, 8, 9, 10, 12, 13, 14, 15] [4, 5, 9, 10, 13, 14, 15] (by kernel_rfl) ?_
      refine e1 (os := [(bl true (l.a0 == l.a0 && (l.a1 == l.a1 && (l.a2 == l.a2 && (l.a3 == l.a3 && (l.a4 == l.a4 && true)))) && (c.a0 == c.a0 && (c.a1 == c.a1 && (U == c.a2 + (1 : Int) && (c.a3 == c.a3 && (c.a4 == c.a4 && true)))) && true)) && bl true ((2 : Int) == (2 : Int) && (un == un && (ev == ev && true)))) = true → Con Tryd.prog (18 : Nat) [] [V.agg true [u8 l.a0, u8 l.a1, u8 l.a2, u8 l.a3, u8 l.a4, u8 c.a0, u8 c.a1, u8 c.a2, u8 c.a3, u8 c.a4]] [] (V.agg true [u8 l.a0, u8 l.a1, u8 l.a2, u8 l.a3, u8 l.a4, u8 (0 : Int), u8 (0 : Int), u8 (0 : Int), u8 (0 : Int), u8 (0 : Int)]) ∧ True, (bl true (l.a0 == l.a0 && (l.a1 == l.a1 && (l.a2 == l.a2 && (l.a3 == l.a3 && (l.a4 == l.a4 && true)))) && (c.a0 == c.a0 && (c.a1 == c.a1 && (U == c.a2 + (1 : Int) && (c.a3 == c.a3 && (c.a4 == c.a4 && true)))) && true)) && bl true ((2 : Int) == (2 : Int) && (un == un && (ev == ev && true))) && bl true (l.a0 == l.a0 && (l.a1 == l.a1 && (l.a2 == l.a2 && (l.a3 == l.a3 && (l.a4 == l.a4 && true)))) && ((0 : Int) == (0 : Int) && ((0 : Int) == (0 : Int) && ((0 : Int) == (0 : Int) && ((0 : Int) == (0 : Int) && ((0 : Int) == (0 : Int) && true)))) && true))) = true → Con Tryd.prog (20 : Nat) [] [V.agg true [u8 l.a0, u8 l.a1, u8 l.a2, u8 l.a3, u8 l.a4, u8 c.a0, u8 c.a1, u8 c.a2, u8 c.a3, u8 c.a4], u8 (1 : Int)] [] (V.agg true [u8 l.a0, u8 l.a1, u8 l.a2, u8 l.a3, u8 l.a4, u8 c.a0, u8 (0 : Int), u8 c.a2, u8 c.a3, u8 c.a4]) ∧ True]) [(16, ⟨none, some ⟨ladV l (F5.mk 0 0 0 0 0), [], []⟩⟩), (23, ⟨none, some ⟨V.agg true [u8 l.a0, u8 l.a1, u8 l.a2, u8 l.a3, u8 l.a4, u8 c.a0, u8 0, u8 c.a2, u8 c.a3, u8 c.a4], [], []⟩⟩)] [8] [] (by kernel_rfl) ⟨(fun _ => ⟨(con_calm (l) (c)), trivial⟩), (fun _ => ⟨(c3 ), trivial⟩), trivial⟩ ?_
      refine AWP.ret ?_
      refine ⟨Or.inr rfl, Eq.trans (b := some ([], vb (bl true (l.a0 == l.a0 && (l.a1 == l.a1 && (l.a2 == l.a2 && (l.a3 == l.a3 && (l.a4 == l.a4 && true)))) && (c.a0 == c.a0 && (c.a1 == c.a1 && (U == c.a2 + 1 && (c.a3 == c.a3 && (c.a4 == c.a4 && true)))) && true)) && bl true (2 == 2 && (un == un && (ev == ev && true))) && bl true (l.a0 == l.a0 && (l.a1 == l.a1 && (l.a2 == l.a2 && (l.a3 == l.a3 && (l.a4 == l.a4 && true)))) && (0 == 0 && (0 == 0 && (0 == 0 && (0 == 0 && (0 == 0 && true)))) && true)) && bl true (l.a0 == l.a0 && (l.a1 == l.a1 && (l.a2 == l.a2 && (l.a3 == l.a3 && (l.a4 == l.a4 && true)))) && (c.a0 == c.a0 && (0 == 0 && (c.a2 == c.a2 && (c.a3 == c.a3 && (c.a4 == c.a4 && true)))) && true))))) (by kernel_rfl) ?_⟩
      first | rfl | (simp [bl, *]; done) | (simp [bl, *]; omega)
    simp only [decide_eq_false_iff_not] at hq87
    refine AWP.skip ?_
    refine e0 [3, 4, 5, 8, 9, 10, 12, 13, 14, 15] [4, 5, 9, 10, 13, 14, 15] (by kernel_rfl) ?_
    refine e0 [3, 4, 5, 8, 9, 10, 12, 13, 14, 15] [4, 5, 9, 10, 13, 14, 15] (by kernel_rfl) ?_
    refine AWP.seq ?_
    refine e0 [3, 4, 5, 8, 9, 10, 12, 13, 14, 15, 65] [4, 5, 9, 10, 13, 14, 15] (by kernel_rfl) ?_
    refine AWP.condT (by kernel_rfl) ?_
    refine g0 [3, 4, 5, 8, 9, 10, 12, 13, 14, 15] [4, 5, 9, 10, 13, 14, 15] (by kernel_rfl) ?_
    refine e1 (os := [(bl true (l.a0 == l.a0 && (l.a1 == l.a1 && (l.a2 == l.a2 && (l.a3 == l.a3 && (l.a4 == l.a4 && true)))) && (c.a0 == c.a0 && (c.a1 == c.a1 && (U == c.a2 && (c.a3 == c.a3 && (c.a4 == c.a4 && true)))) && true)) && bl true ((2 : Int) == (2 : Int) && (un == un && (ev == ev && true)))) = true → Con Tryd.prog (18 : Nat) [] [V.agg true [u8 l.a0, u8 l.a1, u8 l.a2, u8 l.a3, u8 l.a4, u8 c.a0, u8 c.a1, u8 c.a2, u8 c.a3, u8 c.a4]] [] (V.agg true [u8 l.a0, u8 l.a1, u8 l.a2, u8 l.a3, u8 l.a4, u8 (0 : Int), u8 (0 : Int), u8 (0 : Int), u8 (0 : Int), u8 (0 : Int)]) ∧ True, (bl true (l.a0 == l.a0 && (l.a1 == l.a1 && (l.a2 == l.a2 && (l.a3 == l.a3 && (l.a4 == l.a4 && true)))) && (c.a0 == c.a0 && (c.a1 == c.a1 && (U == c.a2 && (c.a3 == c.a3 && (c.a4 == c.a4 && true)))) && true)) && bl true ((2 : Int) == (2 : Int) && (un == un && (ev == ev && true))) && bl true (l.a0 == l.a0 && (l.a1 == l.a1 && (l.a2 == l.a2 && (l.a3 == l.a3 && (l.a4 == l.a4 && true)))) && ((0 : Int) == (0 : Int) && ((0 : Int) == (0 : Int) && ((0 : Int) == (0 : Int) && ((0 : Int) == (0 : Int) && ((0 : Int) == (0 : Int) && true)))) && true))) = true → Con Tryd.prog (20 : Nat) [] [V.agg true [u8 l.a0, u8 l.a1, u8 l.a2, u8 l.a3, u8 l.a4, u8 c.a0, u8 c.a1, u8 c.a2, u8 c.a3, u8 c.a4], u8 (1 : Int)] [] (V.agg true [u8 l.a0, u8 l.a1, u8 l.a2, u8 l.a3, u8 l.a4, u8 c.a0, u8 (0 : Int), u8 c.a2, u8 c.a3, u8 c.a4]) ∧ True]) [(16, ⟨none, some ⟨ladV l (F5.mk 0 0 0 0 0), [], []⟩⟩), (23, ⟨none, some ⟨V.agg true [u8 l.a0, u8 l.a1, u8 l.a2, u8 l.a3, u8 l.a4, u8 c.a0, u8 0, u8 c.a2, u8 c.a3, u8 c.a4], [], []⟩⟩)] [8] [] (by kernel_rfl) ⟨(fun _ => ⟨(con_calm (l) (c)), trivial⟩), (fun _ => ⟨(c3 ), trivial⟩), trivial⟩ ?_
    refine AWP.ret ?_
    refine ⟨Or.inr rfl, Eq.trans (b := some ([], vb (bl true (l.a0 == l.a0 && (l.a1 == l.a1 && (l.a2 == l.a2 && (l.a3 == l.a3 && (l.a4 == l.a4 && true)))) && (c.a0 == c.a0 && (c.a1 == c.a1 && (U == c.a2 && (c.a3 == c.a3 && (c.a4 == c.a4 && true)))) && true)) && bl true (2 == 2 && (un == un && (ev == ev && true))) && bl true (l.a0 == l.a0 && (l.a1 == l.a1 && (l.a2 == l.a2 && (l.a3 == l.a3 && (l.a4 == l.a4 && true)))) && (0 == 0 && (0 == 0 && (0 == 0 && (0 == 0 && (0 == 0 && true)))) && true)) && bl true (l.a0 == l.a0 && (l.a1 == l.a1 && (l.a2 == l.a2 && (l.a3 == l.a3 && (l.a4 == l.a4 && true)))) && (c.a0 == c.a0 && (0 == 0 && (c.a2 == c.a2 && (c.a3 == c.a3 && (c.a4 == c.a4 && true)))) && true))))) (by kernel_rfl) ?_⟩
    first | rfl | (simp [bl, *]; done) | (simp [bl, *]; omega)
  · have c3 : Con Tryd.prog 20 [] [ladV l c, u8 2] [] (.agg true [u8 l.a0, u8 l.a1, u8 l.a2, u8 l.a3, u8 l.a4, u8 c.a0, u8 c.a1, u8 0, u8 c.a3, u8 c.a4]) := con_clear l c 2 (by omega)
    refine Con.of (C := ⟨Tryd.prog, tc, Tryd.f7.ntmps⟩) [] tcok Tryd.func7 rfl rfl (by kernel_rfl) (by kernel_rfl) ?_
    refine e0 [2, 3, 4, 5, 8] [4, 5] (by kernel_rfl) ?_
    refine AWP.seq ?_
    refine e1 [(0, ⟨none, some ⟨vb true, [], []⟩⟩)] [2, 3, 4, 5, 8, 17] [4, 5] (by kernel_rfl) (AllP.c (con_awake22 ) AllP.n) ?_
    refine AWP.condF (by kernel_rfl) ?_
    refine AWP.skip ?_
    refine e1 (os := [Con Tryd.prog 13 [] [V.agg true [u8 l.a0, u8 l.a1, u8 l.a2, u8 l.a3, u8 l.a4, u8 c.a0, u8 c.a1, u8 c.a2, u8 c.a3, u8 c.a4], V.agg true [u8 lv, i64 un, u8 ev], u8 inh] [] (V.tup [V.agg true [u8 l.a0, u8 l.a1, u8 l.a2, u8 l.a3, u8 l.a4, u8 c.a0, u8 c.a1, u8 U, u8 c.a3, u8 c.a4], V.agg true [u8 2, i64 un, u8 ev], vb true])]) [(3, ⟨none, some ⟨V.tup [V.agg true [u8 l.a0, u8 l.a1, u8 l.a2, u8 l.a3, u8 l.a4, u8 c.a0, u8 c.a1, u8 U, u8 c.a3, u8 c.a4], V.agg true [u8 2, i64 un, u8 ev], vb true], [], []⟩⟩)] [2, 3, 4, 5, 8, 9, 10, 11] [4, 5, 9, 10] (by kernel_rfl) ⟨(c1 ), trivial⟩ ?_
    refine e1 (os := [Con Tryd.prog 19 [] [V.agg true [u8 l.a0, u8 l.a1, u8 l.a2, u8 l.a3, u8 l.a4], V.agg true [u8 c.a0, u8 c.a1, u8 c.a2, u8 c.a3, u8 c.a4], V.agg true [u8 lv, i64 un, u8 ev], u8 inh] [] (i64 2)]) [(6, ⟨none, some ⟨i64 2, [], []⟩⟩)] [3, 4, 5, 8, 9, 10, 11, 12] [4, 5, 9, 10] (by kernel_rfl) ⟨(c2 ), trivial⟩ ?_
    refine AWP.seq ?_
    refine e0 [3, 4, 5, 8, 9, 10, 11, 12, 36] [4, 5, 9, 10] (by kernel_rfl) ?_
    refine AWP.condF (by kernel_rfl) ?_
    refine AWP.skip ?_
    refine AWP.seq ?_
    refine e0 [3, 4, 5, 8, 9, 10, 12, 38] [4, 5, 9, 10] (by kernel_rfl) ?_
    refine AWP.condF (by kernel_rfl) ?_
    refine AWP.skip ?_
    refine e0 [3, 4, 5, 8, 9, 10, 12, 13] [4, 5, 9, 10, 13] (by kernel_rfl) ?_
    refine AWP.seq ?_
    refine e0 [3, 4, 5, 8, 9, 10, 12, 13, 52] [4, 5, 9, 10, 13] (by kernel_rfl) ?_
    refine AWP.cond (b := decide (c.a2 < 255)) (by kernel_rfl) (fun hq93 => ?_) (fun hq93 => ?_)
    · simp only [decide_eq_true_eq] at hq93
      refine g1 (os := [u8 (IntKind.wrap IntKind.u8 (c.a2 + 1)) = u8 (c.a2 + 1)]) [(4, ⟨some (u8 (c.a2 + 1)), none⟩)] [3, 4, 5, 8, 9, 10, 12, 13] [4, 5, 9, 10, 13] (by kernel_rfl) ⟨(wr_u8 (by omega) (by omega)), trivial⟩ ?_
      refine e0 [3, 4, 5, 8, 9, 10, 12, 13, 14, 15] [4, 5, 9, 10, 13, 14, 15] (by kernel_rfl) ?_
      refine e0 [3, 4, 5, 8, 9, 10, 12, 13, 14, 15] [4, 5, 9, 10, 13, 14, 15] (by kernel_rfl) ?_
      refine AWP.seq ?_
      refine e0 [3, 4, 5, 8, 9, 10, 12, 13, 14, 15, 65] [4, 5, 9, 10, 13, 14, 15] (by kernel_rfl) ?_
      refine AWP.condT (by kernel_rfl) ?_
      refine g0 [3, 4, 5, 8, 9, 10, 12, 13, 14, 15] [4, 5, 9, 10, 13, 14, 15] (by kernel_rfl) ?_
      refine e1 (os := [(bl true (l.a0 == l.a0 && (l.a1 == l.a1 && (l.a2 == l.a2 && (l.a3 == l.a3 && (l.a4 == l.a4 && true)))) && (c.a0 == c.a0 && (c.a1 == c.a1 && (U == c.a2 + (1 : Int) && (c.a3 == c.a3 && (c.a4 == c.a4 && true)))) && true)) && bl true ((2 : Int) == (2 : Int) && (un == un && (ev == ev && true)))) = true → Con Tryd.prog (18 : Nat) [] [V.agg true [u8 l.a0, u8 l.a1, u8 l.a2, u8 l.a3, u8 l.a4, u8 c.a0, u8 c.a1, u8 c.a2, u8 c.a3, u8 c.a4]] [] (V.agg true [u8 l.a0, u8 l.a1, u8 l.a2, u8 l.a3, u8 l.a4, u8 (0 : Int), u8 (0 : Int), u8 (0 : Int), u8 (0 : Int), u8 (0 : Int)]) ∧ True, (bl true (l.a0 == l.a0 && (l.a1 == l.a1 && (l.a2 == l.a2 && (l.a3 == l.a3 && (l.a4 == l.a4 && true)))) && (c.a0 == c.a0 && (c.a1 == c.a1 && (U == c.a2 + (1 : Int) && (c.a3 == c.a3 && (c.a4 == c.a4 && true)))) && true)) && bl true ((2 : Int) == (2 : Int) && (un == un && (ev == ev && true))) && bl true (l.a0 == l.a0 && (l.a1 == l.a1 && (l.a2 == l.a2 && (l.a3 == l.a3 && (l.a4 == l.a4 && true)))) && ((0 : Int) == (0 : Int) && ((0 : Int) == (0 : Int) && ((0 : Int) == (0 : Int) && ((0 : Int) == (0 : Int) && ((0 : Int) == (0 : Int) && true)))) && true))) = true → Con Tryd.prog (20 : Nat) [] [V.agg true [u8 l.a0, u8 l.a1, u8 l.a2, u8 l.a3, u8 l.a4, u8 c.a0, u8 c.a1, u8 c.a2, u8 c.a3, u8 c.a4], u8 (2 : Int)] [] (V.agg true [u8 l.a0, u8 l.a1, u8 l.a2, u8 l.a3, u8 l.a4, u8 c.a0, u8 c.a1, u8 (0 : Int), u8 c.a3, u8 c.a4]) ∧ True]) [(16, ⟨none, some ⟨ladV l (F5.mk 0 0 0 0 0), [], []⟩⟩), (23, ⟨none, some ⟨V.agg true [u8 l.a0, u8 l.a1, u8 l.a2, u8 l.a3, u8 l.a4, u8 c.a0, u8 c.a1, u8 0, u8 c.a3, u8 c.a4], [], []⟩⟩)] [8] [] (by kernel_rfl) ⟨(fun _ => ⟨(con_calm (l) (c)), trivial⟩), (fun _ => ⟨(c3 ), trivial⟩), trivial⟩ ?_
      refine AWP.ret ?_
      refine ⟨Or.inr rfl, Eq.trans (b := some ([], vb (bl true (l.a0 == l.a0 && (l.a1 == l.a1 && (l.a2 == l.a2 && (l.a3 == l.a3 && (l.a4 == l.a4 && true)))) && (c.a0 == c.a0 && (c.a1 == c.a1 && (U == c.a2 + 1 && (c.a3 == c.a3 && (c.a4 == c.a4 && true)))) && true)) && bl true (2 == 2 && (un == un && (ev == ev && true))) && bl true (l.a0 == l.a0 && (l.a1 == l.a1 && (l.a2 == l.a2 && (l.a3 == l.a3 && (l.a4 == l.a4 && true)))) && (0 == 0 && (0 == 0 && (0 == 0 && (0 == 0 && (0 == 0 && true)))) && true)) && bl true (l.a0 == l.a0 && (l.a1 == l.a1 && (l.a2 == l.a2 && (l.a3 == l.a3 && (l.a4 == l.a4 && true)))) && (c.a0 == c.a0 && (c.a1 == c.a1 && (0 == 0 && (c.a3 == c.a3 && (c.a4 == c.a4 && true)))) && true))))) (by kernel_rfl) ?_⟩
      first | rfl | (simp [bl, *]; done) | (simp [bl, *]; omega)
    simp only [decide_eq_false_iff_not] at hq93
    refine AWP.skip ?_
    refine e0 [3, 4, 5, 8, 9, 10, 12, 13, 14, 15] [4, 5, 9, 10, 13, 14, 15] (by kernel_rfl) ?_
    refine e0 [3, 4, 5, 8, 9, 10, 12, 13, 14, 15] [4, 5, 9, 10, 13, 14, 15] (by kernel_rfl) ?_
    refine AWP.seq ?_
    refine e0 [3, 4, 5, 8, 9, 10, 12, 13, 14, 15, 65] [4, 5, 9, 10, 13, 14, 15] (by kernel_rfl) ?_
    refine AWP.condT (by kernel_rfl) ?_
    refine g0 [3, 4, 5, 8, 9, 10, 12, 13, 14, 15] [4, 5, 9, 10, 13, 14, 15] (by kernel_rfl) ?_
    refine e1 (os := [(bl true (l.a0 == l.a0 && (l.a1 == l.a1 && (l.a2 == l.a2 && (l.a3 == l.a3 && (l.a4 == l.a4 && true)))) && (c.a0 == c.a0 && (c.a1 == c.a1 && (U == c.a2 && (c.a3 == c.a3 && (c.a4 == c.a4 && true)))) && true)) && bl true ((2 : Int) == (2 : Int) && (un == un && (ev == ev && true)))) = true → Con Tryd.prog (18 : Nat) [] [V.agg true [u8 l.a0, u8 l.a1, u8 l.a2, u8 l.a3, u8 l.a4, u8 c.a0, u8 c.a1, u8 c.a2, u8 c.a3, u8 c.a4]] [] (V.agg true [u8 l.a0, u8 l.a1, u8 l.a2, u8 l.a3, u8 l.a4, u8 (0 : Int), u8 (0 : Int), u8 (0 : Int), u8 (0 : Int), u8 (0 : Int)]) ∧ True, (bl true (l.a0 == l.a0 && (l.a1 == l.a1 && (l.a2 == l.a2 && (l.a3 == l.a3 && (l.a4 == l.a4 && true)))) && (c.a0 == c.a0 && (c.a1 == c.a1 && (U == c.a2 && (c.a3 == c.a3 && (c.a4 == c.a4 && true)))) && true)) && bl true ((2 : Int) == (2 : Int) && (un == un && (ev == ev && true))) && bl true (l.a0 == l.a0 && (l.a1 == l.a1 && (l.a2 == l.a2 && (l.a3 == l.a3 && (l.a4 == l.a4 && true)))) && ((0 : Int) == (0 : Int) && ((0 : Int) == (0 : Int) && ((0 : Int) == (0 : Int) && ((0 : Int) == (0 : Int) && ((0 : Int) == (0 : Int) && true)))) && true))) = true → Con Tryd.prog (20 : Nat) [] [V.agg true [u8 l.a0, u8 l.a1, u8 l.a2, u8 l.a3, u8 l.a4, u8 c.a0, u8 c.a1, u8 c.a2, u8 c.a3, u8 c.a4], u8 (2 : Int)] [] (V.agg true [u8 l.a0, u8 l.a1, u8 l.a2, u8 l.a3, u8 l.a4, u8 c.a0, u8 c.a1, u8 (0 : Int), u8 c.a3, u8 c.a4]) ∧ True]) [(16, ⟨none, some ⟨ladV l (F5.mk 0 0 0 0 0), [], []⟩⟩), (23, ⟨none, some ⟨V.agg true [u8 l.a0, u8 l.a1, u8 l.a2, u8 l.a3, u8 l.a4, u8 c.a0, u8 c.a1, u8 0, u8 c.a3, u8 c.a4], [], []⟩⟩)] [8] [] (by kernel_rfl) ⟨(fun _ => ⟨(con_calm (l) (c)), trivial⟩), (fun _ => ⟨(c3 ), trivial⟩), trivial⟩ ?_
    refine AWP.ret ?_
    refine ⟨Or.inr rfl, Eq.trans (b := some ([], vb (bl true (l.a0 == l.a0 && (l.a1 == l.a1 && (l.a2 == l.a2 && (l.a3 == l.a3 && (l.a4 == l.a4 && true)))) && (c.a0 == c.a0 && (c.a1 == c.a1 && (U == c.a2 && (c.a3 == c.a3 && (c.a4 == c.a4 && true)))) && true)) && bl true (2 == 2 && (un == un && (ev == ev && true))) && bl true (l.a0 == l.a0 && (l.a1 == l.a1 && (l.a2 == l.a2 && (l.a3 == l.a3 && (l.a4 == l.a4 && true)))) && (0 == 0 && (0 == 0 && (0 == 0 && (0 == 0 && (0 == 0 && true)))) && true)) && bl true (l.a0 == l.a0 && (l.a1 == l.a1 && (l.a2 == l.a2 && (l.a3 == l.a3 && (l.a4 == l.a4 && true)))) && (c.a0 == c.a0 && (c.a1 == c.a1 && (0 == 0 && (c.a3 == c.a3 && (c.a4 == c.a4 && true)))) && true))))) (by kernel_rfl) ?_⟩
    first | rfl | (simp [bl, *]; done) | (simp [bl, *]; omega)
  · have c3 : Con Tryd.prog 20 [] [ladV l c, u8 3] [] (.agg true [u8 l.a0, u8 l.a1, u8 l.a2, u8 l.a3, u8 l.a4, u8 c.a0, u8 c.a1, u8 c.a2, u8 0, u8 c.a4]) := con_clear l c 3 (by omega)
    refine Con.of (C := ⟨Tryd.prog, tc, Tryd.f7.ntmps⟩) [] tcok Tryd.func7 rfl rfl (by kernel_rfl) (by kernel_rfl) ?_
    refine e0 [2, 3, 4, 5, 8] [4, 5] (by kernel_rfl) ?_
    refine AWP.seq ?_
    refine e1 [(0, ⟨none, some ⟨vb true, [], []⟩⟩)] [2, 3, 4, 5, 8, 17] [4, 5] (by kernel_rfl) (AllP.c (con_awake22 ) AllP.n) ?_
    refine AWP.condF (by kernel_rfl) ?_
    refine AWP.skip ?_
    refine e1 (os := [Con Tryd.prog 13 [] [V.agg true [u8 l.a0, u8 l.a1, u8 l.a2, u8 l.a3, u8 l.a4, u8 c.a0, u8 c.a1, u8 c.a2, u8 c.a3, u8 c.a4], V.agg true [u8 lv, i64 un, u8 ev], u8 inh] [] (V.tup [V.agg true [u8 l.a0, u8 l.a1, u8 l.a2, u8 l.a3, u8 l.a4, u8 c.a0, u8 c.a1, u8 U, u8 c.a3, u8 c.a4], V.agg true [u8 2, i64 un, u8 ev], vb true])]) [(3, ⟨none, some ⟨V.tup [V.agg true [u8 l.a0, u8 l.a1, u8 l.a2, u8 l.a3, u8 l.a4, u8 c.a0, u8 c.a1, u8 U, u8 c.a3, u8 c.a4], V.agg true [u8 2, i64 un, u8 ev], vb true], [], []⟩⟩)] [2, 3, 4, 5, 8, 9, 10, 11] [4, 5, 9, 10] (by kernel_rfl) ⟨(c1 ), trivial⟩ ?_
    refine e1 (os := [Con Tryd.prog 19 [] [V.agg true [u8 l.a0, u8 l.a1, u8 l.a2, u8 l.a3, u8 l.a4], V.agg true [u8 c.a0, u8 c.a1, u8 c.a2, u8 c.a3, u8 c.a4], V.agg true [u8 lv, i64 un, u8 ev], u8 inh] [] (i64 2)]) [(6, ⟨none, some ⟨i64 2, [], []⟩⟩)] [3, 4, 5, 8, 9, 10, 11, 12] [4, 5, 9, 10] (by kernel_rfl) ⟨(c2 ), trivial⟩ ?_
    refine AWP.seq ?_
    refine e0 [3, 4, 5, 8, 9, 10, 11, 12, 36] [4, 5, 9, 10] (by kernel_rfl) ?_
    refine AWP.condF (by kernel_rfl) ?_
    refine AWP.skip ?_
    refine AWP.seq ?_
    refine e0 [3, 4, 5, 8, 9, 10, 12, 38] [4, 5, 9, 10] (by kernel_rfl) ?_
    refine AWP.condF (by kernel_rfl) ?_
    refine AWP.skip ?_
    refine e0 [3, 4, 5, 8, 9, 10, 12, 13] [4, 5, 9, 10, 13] (by kernel_rfl) ?_
    refine AWP.seq ?_
    refine e0 [3, 4, 5, 8, 9, 10, 12, 13, 52] [4, 5, 9, 10, 13] (by kernel_rfl) ?_
    refine AWP.cond (b := decide (c.a2 < 255)) (by kernel_rfl) (fun hq99 => ?_) (fun hq99 => ?_)
    · simp only [decide_eq_true_eq] at hq99
      refine g1 (os := [u8 (IntKind.wrap IntKind.u8 (c.a2 + 1)) = u8 (c.a2 + 1)]) [(4, ⟨some (u8 (c.a2 + 1)), none⟩)] [3, 4, 5, 8, 9, 10, 12, 13] [4, 5, 9, 10, 13] (by kernel_rfl) ⟨(wr_u8 (by omega) (by omega)), trivial⟩ ?_
      refine e0 [3, 4, 5, 8, 9, 10, 12, 13, 14, 15] [4, 5, 9, 10, 13, 14, 15] (by kernel_rfl) ?_
      refine e0 [3, 4, 5, 8, 9, 10, 12, 13, 14, 15] [4, 5, 9, 10, 13, 14, 15] (by kernel_rfl) ?_
      refine AWP.seq ?_
      refine e0 [3, 4, 5, 8, 9, 10, 12, 13, 14, 15, 65] [4, 5, 9, 10, 13, 14, 15] (by kernel_rfl) ?_
      refine AWP.condT (by kernel_rfl) ?_
      refine g0 [3, 4, 5, 8, 9, 10, 12, 13, 14, 15] [4, 5, 9, 10, 13, 14, 15] (by kernel_rfl) ?_
      refine e1 (os := [(bl true (l.a0 == l.a0 && (l.a1 == l.a1 && (l.a2 == l.a2 && (l.a3 == l.a3 && (l.a4 == l.a4 && true)))) && (c.a0 == c.a0 && (c.a1 == c.a1 && (U == c.a2 + (1 : Int) && (c.a3 == c.a3 && (c.a4 == c.a4 && true)))) && true)) && bl true ((2 : Int) == (2 : Int) && (un == un && (ev == ev && true)))) = true → Con Tryd.prog (18 : Nat) [] [V.agg true [u8 l.a0, u8 l.a1, u8 l.a2, u8 l.a3, u8 l.a4, u8 c.a0, u8 c.a1, u8 c.a2, u8 c.a3, u8 c.a4]] [] (V.agg true [u8 l.a0, u8 l.a1, u8 l.a2, u8 l.a3, u8 l.a4, u8 (0 : Int), u8 (0 : Int), u8 (0 : Int), u8 (0 : Int), u8 (0 : Int)]) ∧ True, (bl true (l.a0 == l.a0 && (l.a1 == l.a1 && (l.a2 == l.a2 && (l.a3 == l.a3 && (l.a4 == l.a4 && true)))) && (c.a0 == c.a0 && (c.a1 == c.a1 && (U == c.a2 + (1 : Int) && (c.a3 == c.a3 && (c.a4 == c.a4 && true)))) && true)) && bl true ((2 : Int) == (2 : Int) && (un == un && (ev == ev && true))) && bl true (l.a0 == l.a0 && (l.a1 == l.a1 && (l.a2 == l.a2 && (l.a3 == l.a3 && (l.a4 == l.a4 && true)))) && ((0 : Int) == (0 : Int) && ((0 : Int) == (0 : Int) && ((0 : Int) == (0 : Int) && ((0 : Int) == (0 : Int) && ((0 : Int) == (0 : Int) && true)))) && true))) = true → Con Tryd.prog (20 : Nat) [] [V.agg true [u8 l.a0, u8 l.a1, u8 l.a2, u8 l.a3, u8 l.a4, u8 c.a0, u8 c.a1, u8 c.a2, u8 c.a3, u8 c.a4], u8 (3 : Int)] [] (V.agg true [u8 l.a0, u8 l.a1, u8 l.a2, u8 l.a3, u8 l.a4, u8 c.a0, u8 c.a1, u8 c.a2, u8 (0 : Int), u8 c.a4]) ∧ True]) [(16, ⟨none, some ⟨ladV l (F5.mk 0 0 0 0 0), [], []⟩⟩), (23, ⟨none, some ⟨V.agg true [u8 l.a0, u8 l.a1, u8 l.a2, u8 l.a3, u8 l.a4, u8 c.a0, u8 c.a1, u8 c.a2, u8 0, u8 c.a4], [], []⟩⟩)] [8] [] (by kernel_rfl) ⟨(fun _ => ⟨(con_calm (l) (c)), trivial⟩), (fun _ => ⟨(c3 ), trivial⟩), trivial⟩ ?_
      refine AWP.ret ?_
      refine ⟨Or.inr rfl, Eq.trans (b := some ([], vb (bl true (l.a0 == l.a0 && (l.a1 == l.a1 && (l.a2 == l.a2 && (l.a3 == l.a3 && (l.a4 == l.a4 && true)))) && (c.a0 == c.a0 && (c.a1 == c.a1 && (U == c.a2 + 1 && (c.a3 == c.a3 && (c.a4 == c.a4 && true)))) && true)) && bl true (2 == 2 && (un == un && (ev == ev && true))) && bl true (l.a0 == l.a0 && (l.a1 == l.a1 && (l.a2 == l.a2 && (l.a3 == l.a3 && (l.a4 == l.a4 && true)))) && (0 == 0 && (0 == 0 && (0 == 0 && (0 == 0 && (0 == 0 && true)))) && true)) && bl true (l.a0 == l.a0 && (l.a1 == l.a1 && (l.a2 == l.a2 && (l.a3 == l.a3 && (l.a4 == l.a4 && true)))) && (c.a0 == c.a0 && (c.a1 == c.a1 && (c.a2 == c.a2 && (0 == 0 && (c.a4 == c.a4 && true)))) && true))))) (by kernel_rfl) ?_⟩
      first | rfl | (simp [bl, *]; done) | (simp [bl, *]; omega)
    simp only [decide_eq_false_iff_not] at hq99
    refine AWP.skip ?_
    refine e0 [3, 4, 5, 8, 9, 10, 12, 13, 14, 15] [4, 5, 9, 10, 13, 14, 15] (by kernel_rfl) ?_
    refine e0 [3, 4, 5, 8, 9, 10, 12, 13, 14, 15] [4, 5, 9, 10, 13, 14, 15] (by kernel_rfl) ?_
    refine AWP.seq ?_
    refine e0 [3, 4, 5, 8, 9, 10, 12, 13, 14, 15, 65] [4, 5, 9, 10, 13, 14, 15] (by kernel_rfl) ?_
    refine AWP.condT (by kernel_rfl) ?_
    refine g0 [3, 4, 5, 8, 9, 10, 12, 13, 14, 15] [4, 5, 9, 10, 13, 14, 15] (by kernel_rfl) ?_
    refine e1 (os := [(bl true (l.a0 == l.a0 && (l.a1 == l.a1 && (l.a2 == l.a2 && (l.a3 == l.a3 && (l.a4 == l.a4 && true)))) && (c.a0 == c.a0 && (c.a1 == c.a1 && (U == c.a2 && (c.a3 == c.a3 && (c.a4 == c.a4 && true)))) && true)) && bl true ((2 : Int) == (2 : Int) && (un == un && (ev == ev && true)))) = true → Con Tryd.prog (18 : Nat) [] [V.agg true [u8 l.a0, u8 l.a1, u8 l.a2, u8 l.a3, u8 l.a4, u8 c.a0, u8 c.a1, u8 c.a2, u8 c.a3, u8 c.a4]] [] (V.agg true [u8 l.a0, u8 l.a1, u8 l.a2, u8 l.a3, u8 l.a4, u8 (0 : Int), u8 (0 : Int), u8 (0 : Int), u8 (0 : Int), u8 (0 : Int)]) ∧ True, (bl true (l.a0 == l.a0 && (l.a1 == l.a1 && (l.a2 == l.a2 && (l.a3 == l.a3 && (l.a4 == l.a4 && true)))) && (c.a0 == c.a0 && (c.a1 == c.a1 && (U == c.a2 && (c.a3 == c.a3 && (c.a4 == c.a4 && true)))) && true)) && bl true ((2 : Int) == (2 : Int) && (un == un && (ev == ev && true))) && bl true (l.a0 == l.a0 && (l.a1 == l.a1 && (l.a2 == l.a2 && (l.a3 == l.a3 && (l.a4 == l.a4 && true)))) && ((0 : Int) == (0 : Int) && ((0 : Int) == (0 : Int) && ((0 : Int) == (0 : Int) && ((0 : Int) == (0 : Int) && ((0 : Int) == (0 : Int) && true)))) && true))) = true → Con Tryd.prog (20 : Nat) [] [V.agg true [u8 l.a0, u8 l.a1, u8 l.a2, u8 l.a3, u8 l.a4, u8 c.a0, u8 c.a1, u8 c.a2, u8 c.a3, u8 c.a4], u8 (3 : Int)] [] (V.agg true [u8 l.a0, u8 l.a1, u8 l.a2, u8 l.a3, u8 l.a4, u8 c.a0, u8 c.a1, u8 c.a2, u8 (0 : Int), u8 c.a4]) ∧ True]) [(16, ⟨none, some ⟨ladV l (F5.mk 0 0 0 0 0), [], []⟩⟩), (23, ⟨none, some ⟨V.agg true [u8 l.a0, u8 l.a1, u8 l.a2, u8 l.a3, u8 l.a4, u8 c.a0, u8 c.a1, u8 c.a2, u8 0, u8 c.a4], [], []⟩⟩)] [8] [] (by kernel_rfl) ⟨(fun _ => ⟨(con_calm (l) (c)), trivial⟩), (fun _ => ⟨(c3 ), trivial⟩), trivial⟩ ?_
    refine AWP.ret ?_
    refine ⟨Or.inr rfl, Eq.trans (b := some ([], vb (bl true (l.a0 == l.a0 && (l.a1 == l.a1 && (l.a2 == l.a2 && (l.a3 == l.a3 && (l.a4 == l.a4 && true)))) && (c.a0 == c.a0 && (c.a1 == c.a1 && (U == c.a2 && (c.a3 == c.a3 && (c.a4 == c.a4 && true)))) && true)) && bl true (2 == 2 && (un == un && (ev == ev && true))) && bl true (l.a0 == l.a0 && (l.a1 == l.a1 && (l.a2 == l.a2 && (l.a3 == l.a3 && (l.a4 == l.a4 && true)))) && (0 == 0 && (0 == 0 && (0 == 0 && (0 == 0 && (0 == 0 && true)))) && true)) && bl true (l.a0 == l.a0 && (l.a1 == l.a1 && (l.a2 == l.a2 && (l.a3 == l.a3 && (l.a4 == l.a4 && true)))) && (c.a0 == c.a0 && (c.a1 == c.a1 && (c.a2 == c.a2 && (0 == 0 && (c.a4 == c.a4 && true)))) && true))))) (by kernel_rfl) ?_⟩
    first | rfl | (simp [bl, *]; done) | (simp [bl, *]; omega)
  · have c3 : Con Tryd.prog 20 [] [ladV l c, u8 4] [] (.agg true [u8 l.a0, u8 l.a1, u8 l.a2, u8 l.a3, u8 l.a4, u8 c.a0, u8 c.a1, u8 c.a2, u8 c.a3, u8 0]) := con_clear l c 4 (by omega)
    refine Con.of (C := ⟨Tryd.prog, tc, Tryd.f7.ntmps⟩) [] tcok Tryd.func7 rfl rfl (by kernel_rfl) (by kernel_rfl) ?_
    refine e0 [2, 3, 4, 5, 8] [4, 5] (by kernel_rfl) ?_
    refine AWP.seq ?_
    refine e1 [(0, ⟨none, some ⟨vb true, [], []⟩⟩)] [2, 3, 4, 5, 8, 17] [4, 5] (by kernel_rfl) (AllP.c (con_awake22 ) AllP.n) ?_
    refine AWP.condF (by kernel_rfl) ?_
    refine AWP.skip ?_
    refine e1 (os := [Con Tryd.prog 13 [] [V.agg true [u8 l.a0, u8 l.a1, u8 l.a2, u8 l.a3, u8 l.a4, u8 c.a0, u8 c.a1, u8 c.a2, u8 c.a3, u8 c.a4], V.agg true [u8 lv, i64 un, u8 ev], u8 inh] [] (V.tup [V.agg true [u8 l.a0, u8 l.a1, u8 l.a2, u8 l.a3, u8 l.a4, u8 c.a0, u8 c.a1, u8 U, u8 c.a3, u8 c.a4], V.agg true [u8 2, i64 un, u8 ev], vb true])]) [(3, ⟨none, some ⟨V.tup [V.agg true [u8 l.a0, u8 l.a1, u8 l.a2, u8 l.a3, u8 l.a4, u8 c.a0, u8 c.a1, u8 U, u8 c.a3, u8 c.a4], V.agg true [u8 2, i64 un, u8 ev], vb true], [], []⟩⟩)] [2, 3, 4, 5, 8, 9, 10, 11] [4, 5, 9, 10] (by kernel_rfl) ⟨(c1 ), trivial⟩ ?_
    refine e1 (os := [Con Tryd.prog 19 [] [V.agg true [u8 l.a0, u8 l.a1, u8 l.a2, u8 l.a3, u8 l.a4], V.agg true [u8 c.a0, u8 c.a1, u8 c.a2, u8 c.a3, u8 c.a4], V.agg true [u8 lv, i64 un, u8 ev], u8 inh] [] (i64 2)]) [(6, ⟨none, some ⟨i64 2, [], []⟩⟩)] [3, 4, 5, 8, 9, 10, 11, 12] [4, 5, 9, 10] (by kernel_rfl) ⟨(c2 ), trivial⟩ ?_
    refine AWP.seq ?_
    refine e0 [3, 4, 5, 8, 9, 10, 11, 12, 36] [4, 5, 9, 10] (by kernel_rfl) ?_
    refine AWP.condF (by kernel_rfl) ?_
    refine AWP.skip ?_
    refine AWP.seq ?_
    refine e0 [3, 4, 5, 8, 9, 10, 12, 38] [4, 5, 9, 10] (by kernel_rfl) ?_
    refine AWP.condF (by kernel_rfl) ?_
    refine AWP.skip ?_
    refine e0 [3, 4, 5, 8, 9, 10, 12, 13] [4, 5, 9, 10, 13] (by kernel_rfl) ?_
    refine AWP.seq ?_
    refine e0 [3, 4, 5, 8, 9, 10, 12, 13, 52] [4, 5, 9, 10, 13] (by kernel_rfl) ?_
    refine AWP.cond (b := decide (c.a2 < 255)) (by kernel_rfl) (fun hq105 => ?_) (fun hq105 => ?_)
    · simp only [decide_eq_true_eq] at hq105
      refine g1 (os := [u8 (IntKind.wrap IntKind.u8 (c.a2 + 1)) = u8 (c.a2 + 1)]) [(4, ⟨some (u8 (c.a2 + 1)), none⟩)] [3, 4, 5, 8, 9, 10, 12, 13] [4, 5, 9, 10, 13] (by kernel_rfl) ⟨(wr_u8 (by omega) (by omega)), trivial⟩ ?_
      refine e0 [3, 4, 5, 8, 9, 10, 12, 13, 14, 15] [4, 5, 9, 10, 13, 14, 15] (by kernel_rfl) ?_
      refine e0 [3, 4, 5, 8, 9, 10, 12, 13, 14, 15] [4, 5, 9, 10, 13, 14, 15] (by kernel_rfl) ?_
      refine AWP.seq ?_
      refine e0 [3, 4, 5, 8, 9, 10, 12, 13, 14, 15, 65] [4, 5, 9, 10, 13, 14, 15] (by kernel_rfl) ?_
      refine AWP.condT (by kernel_rfl) ?_
      refine g0 [3, 4, 5, 8, 9, 10, 12, 13, 14, 15] [4, 5, 9, 10, 13, 14, 15] (by kernel_rfl) ?_
      refine e1 (os := [(bl true (l.a0 == l.a0 && (l.a1 == l.a1 && (l.a2 == l.a2 && (l.a3 == l.a3 && (l.a4 == l.a4 && true)))) && (c.a0 == c.a0 && (c.a1 == c.a1 && (U == c.a2 + (1 : Int) && (c.a3 == c.a3 && (c.a4 == c.a4 && true)))) && true)) && bl true ((2 : Int) == (2 : Int) && (un == un && (ev == ev && true)))) = true → Con Tryd.prog (18 : Nat) [] [V.agg true [u8 l.a0, u8 l.a1, u8 l.a2, u8 l.a3, u8 l.a4, u8 c.a0, u8 c.a1, u8 c.a2, u8 c.a3, u8 c.a4]] [] (V.agg true [u8 l.a0, u8 l.a1, u8 l.a2, u8 l.a3, u8 l.a4, u8 (0 : Int), u8 (0 : Int), u8 (0 : Int), u8 (0 : Int), u8 (0 : Int)]) ∧ True, (bl true (l.a0 == l.a0 && (l.a1 == l.a1 && (l.a2 == l.a2 && (l.a3 == l.a3 && (l.a4 == l.a4 && true)))) && (c.a0 == c.a0 && (c.a1 == c.a1 && (U == c.a2 + (1 : Int) && (c.a3 == c.a3 && (c.a4 == c.a4 && true)))) && true)) && bl true ((2 : Int) == (2 : Int) && (un == un && (ev == ev && true))) && bl true (l.a0 == l.a0 && (l.a1 == l.a1 && (l.a2 == l.a2 && (l.a3 == l.a3 && (l.a4 == l.a4 && true)))) && ((0 : Int) == (0 : Int) && ((0 : Int) == (0 : Int) && ((0 : Int) == (0 : Int) && ((0 : Int) == (0 : Int) && ((0 : Int) == (0 : Int) && true)))) && true))) = true → Con Tryd.prog (20 : Nat) [] [V.agg true [u8 l.a0, u8 l.a1, u8 l.a2, u8 l.a3, u8 l.a4, u8 c.a0, u8 c.a1, u8 c.a2, u8 c.a3, u8 c.a4], u8 (4 : Int)] [] (V.agg true [u8 l.a0, u8 l.a1, u8 l.a2, u8 l.a3, u8 l.a4, u8 c.a0, u8 c.a1, u8 c.a2, u8 c.a3, u8 (0 : Int)]) ∧ True]) [(16, ⟨none, some ⟨ladV l (F5.mk 0 0 0 0 0), [], []⟩⟩), (23, ⟨none, some ⟨V.agg true [u8 l.a0, u8 l.a1, u8 l.a2, u8 l.a3, u8 l.a4, u8 c.a0, u8 c.a1, u8 c.a2, u8 c.a3, u8 0], [], []⟩⟩)] [8] [] (by kernel_rfl) ⟨(fun _ => ⟨(con_calm (l) (c)), trivial⟩), (fun _ => ⟨(c3 ), trivial⟩), trivial⟩ ?_
      refine AWP.ret ?_
      refine ⟨Or.inr rfl, Eq.trans (b := some ([], vb (bl true (l.a0 == l.a0 && (l.a1 == l.a1 && (l.a2 == l.a2 && (l.a3 == l.a3 && (l.a4 == l.a4 && true)))) && (c.a0 == c.a0 && (c.a1 == c.a1 && (U == c.a2 + 1 && (c.a3 == c.a3 && (c.a4 == c.a4 && true)))) && true)) && bl true (2 == 2 && (un == un && (ev == ev && true))) && bl true (l.a0 == l.a0 && (l.a1 == l.a1 && (l.a2 == l.a2 && (l.a3 == l.a3 && (l.a4 == l.a4 && true)))) && (0 == 0 && (0 == 0 && (0 == 0 && (0 == 0 && (0 == 0 && true)))) && true)) && bl true (l.a0 == l.a0 && (l.a1 == l.a1 && (l.a2 == l.a2 && (l.a3 == l.a3 && (l.a4 == l.a4 && true)))) && (c.a0 == c.a0 && (c.a1 == c.a1 && (c.a2 == c.a2 && (c.a3 == c.a3 && (0 == 0 && true)))) && true))))) (by kernel_rfl) ?_⟩
      first | rfl | (simp [bl, *]; done) | (simp [bl, *]; omega)
    simp only [decide_eq_false_iff_not] at hq105
    refine AWP.skip ?_
    refine e0 [3, 4, 5, 8, 9, 10, 12, 13, 14, 15] [4, 5, 9, 10, 13, 14, 15] (by kernel_rfl) ?_
    refine e0 [3, 4, 5, 8, 9, 10, 12, 13, 14, 15] [4, 5, 9, 10, 13, 14, 15] (by kernel_rfl) ?_
    refine AWP.seq ?_
    refine e0 [3, 4, 5, 8, 9, 10, 12, 13, 14, 15, 65] [4, 5, 9, 10, 13, 14, 15] (by kernel_rfl) ?_
    refine AWP.condT (by kernel_rfl) ?_
    refine g0 [3, 4, 5, 8, 9, 10, 12, 13, 14, 15] [4, 5, 9, 10, 13, 14, 15] (by kernel_rfl) ?_
    refine e1 (os := [(bl true (l.a0 == l.a0 && (l.a1 == l.a1 && (l.a2 == l.a2 && (l.a3 == l.a3 && (l.a4 == l.a4 && true)))) && (c.a0 == c.a0 && (c.a1 == c.a1 && (U == c.a2 && (c.a3 == c.a3 && (c.a4 == c.a4 && true)))) && true)) && bl true ((2 : Int) == (2 : Int) && (un == un && (ev == ev && true)))) = true → Con Tryd.prog (18 : Nat) [] [V.agg true [u8 l.a0, u8 l.a1, u8 l.a2, u8 l.a3, u8 l.a4, u8 c.a0, u8 c.a1, u8 c.a2, u8 c.a3, u8 c.a4]] [] (V.agg true [u8 l.a0, u8 l.a1, u8 l.a2, u8 l.a3, u8 l.a4, u8 (0 : Int), u8 (0 : Int), u8 (0 : Int), u8 (0 : Int), u8 (0 : Int)]) ∧ True, (bl true (l.a0 == l.a0 && (l.a1 == l.a1 && (l.a2 == l.a2 && (l.a3 == l.a3 && (l.a4 == l.a4 && true)))) && (c.a0 == c.a0 && (c.a1 == c.a1 && (U == c.a2 && (c.a3 == c.a3 && (c.a4 == c.a4 && true)))) && true)) && bl true ((2 : Int) == (2 : Int) && (un == un && (ev == ev && true))) && bl true (l.a0 == l.a0 && (l.a1 == l.a1 && (l.a2 == l.a2 && (l.a3 == l.a3 && (l.a4 == l.a4 && true)))) && ((0 : Int) == (0 : Int) && ((0 : Int) == (0 : Int) && ((0 : Int) == (0 : Int) && ((0 : Int) == (0 : Int) && ((0 : Int) == (0 : Int) && true)))) && true))) = true → Con Tryd.prog (20 : Nat) [] [V.agg true [u8 l.a0, u8 l.a1, u8 l.a2, u8 l.a3, u8 l.a4, u8 c.a0, u8 c.a1, u8 c.a2, u8 c.a3, u8 c.a4], u8 (4 : Int)] [] (V.agg true [u8 l.a0, u8 l.a1, u8 l.a2, u8 l.a3, u8 l.a4, u8 c.a0, u8 c.a1, u8 c.a2, u8 c.a3, u8 (0 : Int)]) ∧ True]) [(16, ⟨none, some ⟨ladV l (F5.mk 0 0 0 0 0), [], []⟩⟩), (23, ⟨none, some ⟨V.agg true [u8 l.a0, u8 l.a1, u8 l.a2, u8 l.a3, u8 l.a4, u8 c.a0, u8 c.a1, u8 c.a2, u8 c.a3, u8 0], [], []⟩⟩)] [8] [] (by kernel_rfl) ⟨(fun _ => ⟨(con_calm (l) (c)), trivial⟩), (fun _ => ⟨(c3 ), trivial⟩), trivial⟩ ?_
    refine AWP.ret ?_
    refine ⟨Or.inr rfl, Eq.trans (b := some ([], vb (bl true (l.a0 == l.a0 && (l.a1 == l.a1 && (l.a2 == l.a2 && (l.a3 == l.a3 && (l.a4 == l.a4 && true)))) && (c.a0 == c.a0 && (c.a1 == c.a1 && (U == c.a2 && (c.a3 == c.a3 && (c.a4 == c.a4 && true)))) && true)) && bl true (2 == 2 && (un == un && (ev == ev && true))) && bl true (l.a0 == l.a0 && (l.a1 == l.a1 && (l.a2 == l.a2 && (l.a3 == l.a3 && (l.a4 == l.a4 && true)))) && (0 == 0 && (0 == 0 && (0 == 0 && (0 == 0 && (0 == 0 && true)))) && true)) && bl true (l.a0 == l.a0 && (l.a1 == l.a1 && (l.a2 == l.a2 && (l.a3 == l.a3 && (l.a4 == l.a4 && true)))) && (c.a0 == c.a0 && (c.a1 == c.a1 && (c.a2 == c.a2 && (c.a3 == c.a3 && (0 == 0 && true)))) && true))))) (by kernel_rfl) ?_⟩
    first | rfl | (simp [bl, *]; done) | (simp [bl, *]; omega)
  · have c3 := con_clear_no l c w hw
    refine Con.of (C := ⟨Tryd.prog, tc, Tryd.f7.ntmps⟩) [] tcok Tryd.func7 rfl rfl (by kernel_rfl) (by kernel_rfl) ?_
    refine e0 [2, 3, 4, 5, 8] [4, 5] (by kernel_rfl) ?_
    refine AWP.seq ?_
    refine e1 [(0, ⟨none, some ⟨vb true, [], []⟩⟩)] [2, 3, 4, 5, 8, 17] [4, 5] (by kernel_rfl) (AllP.c (con_awake22 ) AllP.n) ?_
    refine AWP.condF (by kernel_rfl) ?_
    refine AWP.skip ?_
    refine e1 (os := [Con Tryd.prog 13 [] [V.agg true [u8 l.a0, u8 l.a1, u8 l.a2, u8 l.a3, u8 l.a4, u8 c.a0, u8 c.a1, u8 c.a2, u8 c.a3, u8 c.a4], V.agg true [u8 lv, i64 un, u8 ev], u8 inh] [] (V.tup [V.agg true [u8 l.a0, u8 l.a1, u8 l.a2, u8 l.a3, u8 l.a4, u8 c.a0, u8 c.a1, u8 U, u8 c.a3, u8 c.a4], V.agg true [u8 2, i64 un, u8 ev], vb true])]) [(3, ⟨none, some ⟨V.tup [V.agg true [u8 l.a0, u8 l.a1, u8 l.a2, u8 l.a3, u8 l.a4, u8 c.a0, u8 c.a1, u8 U, u8 c.a3, u8 c.a4], V.agg true [u8 2, i64 un, u8 ev], vb true], [], []⟩⟩)] [2, 3, 4, 5, 8, 9, 10, 11] [4, 5, 9, 10] (by kernel_rfl) ⟨(c1 ), trivial⟩ ?_
    refine e1 (os := [Con Tryd.prog 19 [] [V.agg true [u8 l.a0, u8 l.a1, u8 l.a2, u8 l.a3, u8 l.a4], V.agg true [u8 c.a0, u8 c.a1, u8 c.a2, u8 c.a3, u8 c.a4], V.agg true [u8 lv, i64 un, u8 ev], u8 inh] [] (i64 2)]) [(6, ⟨none, some ⟨i64 2, [], []⟩⟩)] [3, 4, 5, 8, 9, 10, 11, 12] [4, 5, 9, 10] (by kernel_rfl) ⟨(c2 ), trivial⟩ ?_
    refine AWP.seq ?_
    refine e0 [3, 4, 5, 8, 9, 10, 11, 12, 36] [4, 5, 9, 10] (by kernel_rfl) ?_
    refine AWP.condF (by kernel_rfl) ?_
    refine AWP.skip ?_
    refine AWP.seq ?_
    refine e0 [3, 4, 5, 8, 9, 10, 12, 38] [4, 5, 9, 10] (by kernel_rfl) ?_
    refine AWP.condF (by kernel_rfl) ?_
    refine AWP.skip ?_
    refine e0 [3, 4, 5, 8, 9, 10, 12, 13] [4, 5, 9, 10, 13] (by kernel_rfl) ?_
    refine AWP.seq ?_
    refine e0 [3, 4, 5, 8, 9, 10, 12, 13, 52] [4, 5, 9, 10, 13] (by kernel_rfl) ?_
    refine AWP.cond (b := decide (c.a2 < 255)) (by kernel_rfl) (fun hq111 => ?_) (fun hq111 => ?_)
    · simp only [decide_eq_true_eq] at hq111
      refine g1 (os := [u8 (IntKind.wrap IntKind.u8 (c.a2 + 1)) = u8 (c.a2 + 1)]) [(4, ⟨some (u8 (c.a2 + 1)), none⟩)] [3, 4, 5, 8, 9, 10, 12, 13] [4, 5, 9, 10, 13] (by kernel_rfl) ⟨(wr_u8 (by omega) (by omega)), trivial⟩ ?_
      refine e0 [3, 4, 5, 8, 9, 10, 12, 13, 14, 15] [4, 5, 9, 10, 13, 14, 15] (by kernel_rfl) ?_
      refine e0 [3, 4, 5, 8, 9, 10, 12, 13, 14, 15] [4, 5, 9, 10, 13, 14, 15] (by kernel_rfl) ?_
      refine AWP.seq ?_
      refine e0 [3, 4, 5, 8, 9, 10, 12, 13, 14, 15, 65] [4, 5, 9, 10, 13, 14, 15] (by kernel_rfl) ?_
      refine AWP.cond (b := decide (w < 5)) (by kernel_rfl) (fun hq112 => ?_) (fun hq112 => ?_)
      · simp only [decide_eq_true_eq] at hq112
        (exfalso; omega)
      simp only [decide_eq_false_iff_not] at hq112
      refine AWP.skip ?_
      refine e1 (os := [(bl true (l.a0 == l.a0 && (l.a1 == l.a1 && (l.a2 == l.a2 && (l.a3 == l.a3 && (l.a4 == l.a4 && true)))) && (c.a0 == c.a0 && (c.a1 == c.a1 && (U == c.a2 + (1 : Int) && (c.a3 == c.a3 && (c.a4 == c.a4 && true)))) && true)) && bl true ((2 : Int) == (2 : Int) && (un == un && (ev == ev && true)))) = true → Con Tryd.prog (18 : Nat) [] [V.agg true [u8 l.a0, u8 l.a1, u8 l.a2, u8 l.a3, u8 l.a4, u8 c.a0, u8 c.a1, u8 c.a2, u8 c.a3, u8 c.a4]] [] (V.agg true [u8 l.a0, u8 l.a1, u8 l.a2, u8 l.a3, u8 l.a4, u8 (0 : Int), u8 (0 : Int), u8 (0 : Int), u8 (0 : Int), u8 (0 : Int)]) ∧ True, (bl true (l.a0 == l.a0 && (l.a1 == l.a1 && (l.a2 == l.a2 && (l.a3 == l.a3 && (l.a4 == l.a4 && true)))) && (c.a0 == c.a0 && (c.a1 == c.a1 && (U == c.a2 + (1 : Int) && (c.a3 == c.a3 && (c.a4 == c.a4 && true)))) && true)) && bl true ((2 : Int) == (2 : Int) && (un == un && (ev == ev && true))) && bl true (l.a0 == l.a0 && (l.a1 == l.a1 && (l.a2 == l.a2 && (l.a3 == l.a3 && (l.a4 == l.a4 && true)))) && ((0 : Int) == (0 : Int) && ((0 : Int) == (0 : Int) && ((0 : Int) == (0 : Int) && ((0 : Int) == (0 : Int) && ((0 : Int) == (0 : Int) && true)))) && true))) = true → Con Tryd.prog (20 : Nat) [] [V.agg true [u8 l.a0, u8 l.a1, u8 l.a2, u8 l.a3, u8 l.a4, u8 c.a0, u8 c.a1, u8 c.a2, u8 c.a3, u8 c.a4], u8 w] [] (V.agg true [u8 l.a0, u8 l.a1, u8 l.a2, u8 l.a3, u8 l.a4, u8 c.a0, u8 c.a1, u8 c.a2, u8 c.a3, u8 c.a4]) ∧ True]) [(16, ⟨none, some ⟨ladV l (F5.mk 0 0 0 0 0), [], []⟩⟩), (23, ⟨none, some ⟨ladV l c, [], []⟩⟩)] [8] [] (by kernel_rfl) ⟨(fun _ => ⟨(con_calm (l) (c)), trivial⟩), (fun _ => ⟨(c3 ), trivial⟩), trivial⟩ ?_
      refine AWP.ret ?_
      refine ⟨Or.inr rfl, Eq.trans (b := some ([], vb (bl true (l.a0 == l.a0 && (l.a1 == l.a1 && (l.a2 == l.a2 && (l.a3 == l.a3 && (l.a4 == l.a4 && true)))) && (c.a0 == c.a0 && (c.a1 == c.a1 && (U == c.a2 + 1 && (c.a3 == c.a3 && (c.a4 == c.a4 && true)))) && true)) && bl true (2 == 2 && (un == un && (ev == ev && true))) && bl true (l.a0 == l.a0 && (l.a1 == l.a1 && (l.a2 == l.a2 && (l.a3 == l.a3 && (l.a4 == l.a4 && true)))) && (0 == 0 && (0 == 0 && (0 == 0 && (0 == 0 && (0 == 0 && true)))) && true)) && bl true (l.a0 == l.a0 && (l.a1 == l.a1 && (l.a2 == l.a2 && (l.a3 == l.a3 && (l.a4 == l.a4 && true)))) && (c.a0 == c.a0 && (c.a1 == c.a1 && (c.a2 == c.a2 && (c.a3 == c.a3 && (c.a4 == c.a4 && true)))) && true))))) (by kernel_rfl) ?_⟩
      first | rfl | (simp [bl, *]; done) | (simp [bl, *]; omega)
    simp only [decide_eq_false_iff_not] at hq111
    refine AWP.skip ?_
    refine e0 [3, 4, 5, 8, 9, 10, 12, 13, 14, 15] [4, 5, 9, 10, 13, 14, 15] (by kernel_rfl) ?_
    refine e0 [3, 4, 5, 8, 9, 10, 12, 13, 14, 15] [4, 5, 9, 10, 13, 14, 15] (by kernel_rfl) ?_
    refine AWP.seq ?_
    refine e0 [3, 4, 5, 8, 9, 10, 12, 13, 14, 15, 65] [4, 5, 9, 10, 13, 14, 15] (by kernel_rfl) ?_
    refine AWP.cond (b := decide (w < 5)) (by kernel_rfl) (fun hq113 => ?_) (fun hq113 => ?_)
    · simp only [decide_eq_true_eq] at hq113
      (exfalso; omega)
    simp only [decide_eq_false_iff_not] at hq113
    refine AWP.skip ?_
    refine e1 (os := [(bl true (l.a0 == l.a0 && (l.a1 == l.a1 && (l.a2 == l.a2 && (l.a3 == l.a3 && (l.a4 == l.a4 && true)))) && (c.a0 == c.a0 && (c.a1 == c.a1 && (U == c.a2 && (c.a3 == c.a3 && (c.a4 == c.a4 && true)))) && true)) && bl true ((2 : Int) == (2 : Int) && (un == un && (ev == ev && true)))) = true → Con Tryd.prog (18 : Nat) [] [V.agg true [u8 l.a0, u8 l.a1, u8 l.a2, u8 l.a3, u8 l.a4, u8 c.a0, u8 c.a1, u8 c.a2, u8 c.a3, u8 c.a4]] [] (V.agg true [u8 l.a0, u8 l.a1, u8 l.a2, u8 l.a3, u8 l.a4, u8 (0 : Int), u8 (0 : Int), u8 (0 : Int), u8 (0 : Int), u8 (0 : Int)]) ∧ True, (bl true (l.a0 == l.a0 && (l.a1 == l.a1 && (l.a2 == l.a2 && (l.a3 == l.a3 && (l.a4 == l.a4 && true)))) && (c.a0 == c.a0 && (c.a1 == c.a1 && (U == c.a2 && (c.a3 == c.a3 && (c.a4 == c.a4 && true)))) && true)) && bl true ((2 : Int) == (2 : Int) && (un == un && (ev == ev && true))) && bl true (l.a0 == l.a0 && (l.a1 == l.a1 && (l.a2 == l.a2 && (l.a3 == l.a3 && (l.a4 == l.a4 && true)))) && ((0 : Int) == (0 : Int) && ((0 : Int) == (0 : Int) && ((0 : Int) == (0 : Int) && ((0 : Int) == (0 : Int) && ((0 : Int) == (0 : Int) && true)))) && true))) = true → Con Tryd.prog (20 : Nat) [] [V.agg true [u8 l.a0, u8 l.a1, u8 l.a2, u8 l.a3, u8 l.a4, u8 c.a0, u8 c.a1, u8 c.a2, u8 c.a3, u8 c.a4], u8 w] [] (V.agg true [u8 l.a0, u8 l.a1, u8 l.a2, u8 l.a3, u8 l.a4, u8 c.a0, u8 c.a1, u8 c.a2, u8 c.a3, u8 c.a4]) ∧ True]) [(16, ⟨none, some ⟨ladV l (F5.mk 0 0 0 0 0), [], []⟩⟩), (23, ⟨none, some ⟨ladV l c, [], []⟩⟩)] [8] [] (by kernel_rfl) ⟨(fun _ => ⟨(con_calm (l) (c)), trivial⟩), (fun _ => ⟨(c3 ), trivial⟩), trivial⟩ ?_
    refine AWP.ret ?_
    refine ⟨Or.inr rfl, Eq.trans (b := some ([], vb (bl true (l.a0 == l.a0 && (l.a1 == l.a1 && (l.a2 == l.a2 && (l.a3 == l.a3 && (l.a4 == l.a4 && true)))) && (c.a0 == c.a0 && (c.a1 == c.a1 && (U == c.a2 && (c.a3 == c.a3 && (c.a4 == c.a4 && true)))) && true)) && bl true (2 == 2 && (un == un && (ev == ev && true))) && bl true (l.a0 == l.a0 && (l.a1 == l.a1 && (l.a2 == l.a2 && (l.a3 == l.a3 && (l.a4 == l.a4 && true)))) && (0 == 0 && (0 == 0 && (0 == 0 && (0 == 0 && (0 == 0 && true)))) && true)) && bl true (l.a0 == l.a0 && (l.a1 == l.a1 && (l.a2 == l.a2 && (l.a3 == l.a3 && (l.a4 == l.a4 && true)))) && (c.a0 == c.a0 && (c.a1 == c.a1 && (c.a2 == c.a2 && (c.a3 == c.a3 && (c.a4 == c.a4 && true)))) && true))))) (by kernel_rfl) ?_⟩
    first | rfl | (simp [bl, *]; done) | (simp [bl, *]; omega)
theorem law_raises_3 (inh : Int) (l c : F5) (lv un ev w : Int) (hi : 0 ≤ inh ∧ inh < 256) (hc : c.ok) (hl : 0 ≤ lv ∧ lv < 5) (hr : aright lv un = true) (hM : lev inh l c (5 - lv).toNat lv (-1) = 3) (hw : 0 ≤ w ∧ w < 256) :
    Con Tryd.prog 7 [] [ladV l c, .agg true [u8 lv, i64 un, u8 ev], u8 inh, u8 w] [] (vb true) := by
  have c1 : Con Tryd.prog 13 [] [ladV l c, .agg true [u8 lv, i64 un, u8 ev], u8 inh] [] (.tup [.agg true [u8 l.a0, u8 l.a1, u8 l.a2, u8 l.a3, u8 l.a4, u8 c.a0, u8 c.a1, u8 c.a2, u8 (up8 c.a3), u8 c.a4], .agg true [u8 3, i64 un, u8 ev], vb true]) := con_raise inh l c lv un ev _ hi hc hl hr hM
  have c2 := con_rlevel inh l c lv un ev _ hi hc hl hr hM
  have hu : up8 c.a3 = if c.a3 < 255 then c.a3 + 1 else c.a3 := rfl
  obtain ⟨hc1, hc2, hc3, hc4, hc5, hc6, hc7, hc8, hc9, hc0⟩ := hc
  generalize up8 c.a3 = U at *
  rcases (by omega : w = 0 ∨ w = 1 ∨ w = 2 ∨ w = 3 ∨ w = 4 ∨ 5 ≤ w) with rfl | rfl | rfl | rfl | rfl | hw
  · have c3 : Con Tryd.prog 20 [] [ladV l c, u8 0] [] (.agg true [u8 l.a0, u8 l.a1, u8 l.a2, u8 l.a3, u8 l.a4, u8 0, u8 c.a1, u8 c.a2, u8 c.a3, u8 c.a4]) := con_clear l c 0 (by omega)
    refine Con.of (C := ⟨Tryd.prog, tc, Tryd.f7.ntmps⟩) [] tcok Tryd.func7 rfl rfl (by kernel_rfl) (by kernel_rfl) ?_
    refine e0 [2, 3, 4, 5, 8] [4, 5] (by kernel_rfl) ?_
    refine AWP.seq ?_
    refine e1 [(0, ⟨none, some ⟨vb true, [], []⟩⟩)] [2, 3, 4, 5, 8, 17] [4, 5] (by kernel_rfl) (AllP.c (con_awake22 ) AllP.n) ?_
    refine AWP.condF (by kernel_rfl) ?_
    refine AWP.skip ?_
    refine e1 (os := [Con Tryd.prog 13 [] [V.agg true [u8 l.a0, u8 l.a1, u8 l.a2, u8 l.a3, u8 l.a4, u8 c.a0, u8 c.a1, u8 c.a2, u8 c.a3, u8 c.a4], V.agg true [u8 lv, i64 un, u8 ev], u8 inh] [] (V.tup [V.agg true [u8 l.a0, u8 l.a1, u8 l.a2, u8 l.a3, u8 l.a4, u8 c.a0, u8 c.a1, u8 c.a2, u8 U, u8 c.a4], V.agg true [u8 3, i64 un, u8 ev], vb true])]) [(3, ⟨none, some ⟨V.tup [V.agg true [u8 l.a0, u8 l.a1, u8 l.a2, u8 l.a3, u8 l.a4, u8 c.a0, u8 c.a1, u8 c.a2, u8 U, u8 c.a4], V.agg true [u8 3, i64 un, u8 ev], vb true], [], []⟩⟩)] [2, 3, 4, 5, 8, 9, 10, 11] [4, 5, 9, 10] (by kernel_rfl) ⟨(c1 ), trivial⟩ ?_
    refine e1 (os := [Con Tryd.prog 19 [] [V.agg true [u8 l.a0, u8 l.a1, u8 l.a2, u8 l.a3, u8 l.a4], V.agg true [u8 c.a0, u8 c.a1, u8 c.a2, u8 c.a3, u8 c.a4], V.agg true [u8 lv, i64 un, u8 ev], u8 inh] [] (i64 3)]) [(6, ⟨none, some ⟨i64 3, [], []⟩⟩)] [3, 4, 5, 8, 9, 10, 11, 12] [4, 5, 9, 10] (by kernel_rfl) ⟨(c2 ), trivial⟩ ?_
    refine AWP.seq ?_
    refine e0 [3, 4, 5, 8, 9, 10, 11, 12, 36] [4, 5, 9, 10] (by kernel_rfl) ?_
    refine AWP.condF (by kernel_rfl) ?_
    refine AWP.skip ?_
    refine AWP.seq ?_
    refine e0 [3, 4, 5, 8, 9, 10, 12, 38] [4, 5, 9, 10] (by kernel_rfl) ?_
    refine AWP.condF (by kernel_rfl) ?_
    refine AWP.skip ?_
    refine e0 [3, 4, 5, 8, 9, 10, 12, 13] [4, 5, 9, 10, 13] (by kernel_rfl) ?_
    refine AWP.seq ?_
    refine e0 [3, 4, 5, 8, 9, 10, 12, 13, 52] [4, 5, 9, 10, 13] (by kernel_rfl) ?_
    refine AWP.cond (b := decide (c.a3 < 255)) (by kernel_rfl) (fun hq117 => ?_) (fun hq117 => ?_)
    · simp only [decide_eq_true_eq] at hq117
      refine g1 (os := [u8 (IntKind.wrap IntKind.u8 (c.a3 + 1)) = u8 (c.a3 + 1)]) [(4, ⟨some (u8 (c.a3 + 1)), none⟩)] [3, 4, 5, 8, 9, 10, 12, 13] [4, 5, 9, 10, 13] (by kernel_rfl) ⟨(wr_u8 (by omega) (by omega)), trivial⟩ ?_
      refine e0 [3, 4, 5, 8, 9, 10, 12, 13, 14, 15] [4, 5, 9, 10, 13, 14, 15] (by kernel_rfl) ?_
      refine e0 [3, 4, 5, 8, 9, 10, 12, 13, 14, 15] [4, 5, 9, 10, 13, 14, 15] (by kernel_rfl) ?_
      refine AWP.seq ?_
      refine e0 [3, 4, 5, 8, 9, 10, 12, 13, 14, 15, 65] [4, 5, 9, 10, 13, 14, 15] (by kernel_rfl) ?_
      refine AWP.condT (by kernel_rfl) ?_
      refine g0 [3, 4, 5, 8, 9, 10, 12, 13, 14, 15] [4, 5, 9, 10, 13, 14, 15] (by kernel_rfl) ?_
      refine e1 (os := [(bl true (l.a0 == l.a0 && (l.a1 == l.a1 && (l.a2 == l.a2 && (l.a3 == l.a3 && (l.a4 == l.a4 && true)))) && (c.a0 == c.a0 && (c.a1 == c.a1 && (c.a2 == c.a2 && (U == c.a3 + (1 : Int) && (c.a4 == c.a4 && true)))) && true)) && bl true ((3 : Int) == (3 : Int) && (un == un && (ev == ev && true)))) = true → Con Tryd.prog (18 : Nat) [] [V.agg true [u8 l.a0, u8 l.a1, u8 l.a2, u8 l.a3, u8 l.a4, u8 c.a0, u8 c.a1, u8 c.a2, u8 c.a3, u8 c.a4]] [] (V.agg true [u8 l.a0, u8 l.a1, u8 l.a2, u8 l.a3, u8 l.a4, u8 (0 : Int), u8 (0 : Int), u8 (0 : Int), u8 (0 : Int), u8 (0 : Int)]) ∧ True, (bl true (l.a0 == l.a0 && (l.a1 == l.a1 && (l.a2 == l.a2 && (l.a3 == l.a3 && (l.a4 == l.a4 && true)))) && (c.a0 == c.a0 && (c.a1 == c.a1 && (c.a2 == c.a2 && (U == c.a3 + (1 : Int) && (c.a4 == c.a4 && true)))) && true)) && bl true ((3 : Int) == (3 : Int) && (un == un && (ev == ev && true))) && bl true (l.a0 == l.a0 && (l.a1 == l.a1 && (l.a2 == l.a2 && (l.a3 == l.a3 && (l.a4 == l.a4 && true)))) && ((0 : Int) == (0 : Int) && ((0 : Int) == (0 : Int) && ((0 : Int) == (0 : Int) && ((0 : Int) == (0 : Int) && ((0 : Int) == (0 : Int) && true)))) && true))) = true → Con Tryd.prog (20 : Nat) [] [V.agg true [u8 l.a0, u8 l.a1, u8 l.a2, u8 l.a3, u8 l.a4, u8 c.a0, u8 c.a1, u8 c.a2, u8 c.a3, u8 c.a4], u8 (0 : Int)] [] (V.agg true [u8 l.a0, u8 l.a1, u8 l.a2, u8 l.a3, u8 l.a4, u8 (0 : Int), u8 c.a1, u8 c.a2, u8 c.a3, u8 c.a4]) ∧ True]) [(16, ⟨none, some ⟨ladV l (F5.mk 0 0 0 0 0), [], []⟩⟩), (23, ⟨none, some ⟨V.agg true [u8 l.a0, u8 l.a1, u8 l.a2, u8 l.a3, u8 l.a4, u8 0, u8 c.a1, u8 c.a2, u8 c.a3, u8 c.a4], [], []⟩⟩)] [8] [] (by kernel_rfl) ⟨(fun _ => ⟨(con_calm (l) (c)), trivial⟩), (fun _ => ⟨(c3 ), trivial⟩), trivial⟩ ?_
      refine AWP.ret ?_
      refine ⟨Or.inr rfl, Eq.trans (b := some ([], vb (bl true (l.a0 == l.a0 && (l.a1 == l.a1 && (l.a2 == l.a2 && (l.a3 == l.a3 && (l.a4 == l.a4 && true)))) && (c.a0 == c.a0 && (c.a1 == c.a1 && (c.a2 == c.a2 && (U == c.a3 + 1 && (c.a4 == c.a4 && true)))) && true)) && bl true (3 == 3 && (un == un && (ev == ev && true))) && bl true (l.a0 == l.a0 && (l.a1 == l.a1 && (l.a2 == l.a2 && (l.a3 == l.a3 && (l.a4 == l.a4 && true)))) && (0 == 0 && (0 == 0 && (0 == 0 && (0 == 0 && (0 == 0 && true)))) && true)) && bl true (l.a0 == l.a0 && (l.a1 == l.a1 && (l.a2 == l.a2 && (l.a3 == l.a3 && (l.a4 == l.a4 && true)))) && (0 == 0 && (c.a1 == c.a1 && (c.a2 == c.a2 && (c.a3 == c.a3 && (c.a4 == c.a4 && true)))) && true))))) (by kernel_rfl) ?_⟩
      first | rfl | (simp [bl, *]; done) | (simp [bl, *]; omega)
    simp only [decide_eq_false_iff_not] at hq117
    refine AWP.skip ?_
    refine e0 [3, 4, 5, 8, 9, 10, 12, 13, 14, 15] [4, 5, 9, 10, 13, 14, 15] (by kernel_rfl) ?_
    refine e0 [3, 4, 5, 8, 9, 10, 12, 13, 14, 15] [4, 5, 9, 10, 13, 14, 15] (by kernel_rfl) ?_
    refine AWP.seq ?_
    refine e0 [3, 4, 5, 8, 9, 10, 12, 13, 14, 15, 65] [4, 5, 9, 10, 13, 14, 15] (by kernel_rfl) ?_
    refine AWP.condT (by kernel_rfl) ?_
    refine g0 [3, 4, 5, 8, 9, 10, 12, 13, 14, 15] [4, 5, 9, 10, 13, 14, 15] (by kernel_rfl) ?_
    refine e1 (os := [(bl true (l.a0 == l.a0 && (l.a1 == l.a1 && (l.a2 == l.a2 && (l.a3 == l.a3 && (l.a4 == l.a4 && true)))) && (c.a0 == c.a0 && (c.a1 == c.a1 && (c.a2 == c.a2 && (U == c.a3 && (c.a4 == c.a4 && true)))) && true)) && bl true ((3 : Int) == (3 : Int) && (un == un && (ev == ev && true)))) = true → Con Tryd.prog (18 : Nat) [] [V.agg true [u8 l.a0, u8 l.a1, u8 l.a2, u8 l.a3, u8 l.a4, u8 c.a0, u8 c.a1, u8 c.a2, u8 c.a3, u8 c.a4]] [] (V.agg true [u8 l.a0, u8 l.a1, u8 l.a2, u8 l.a3, u8 l.a4, u8 (0 : Int), u8 (0 : Int), u8 (0 : Int), u8 (0 : Int), u8 (0 : Int)]) ∧ True, (bl true (l.a0 == l.a0 && (l.a1 == l.a1 && (l.a2 == l.a2 && (l.a3 == l.a3 && (l.a4 == l.a4 && true)))) && (c.a0 == c.a0 && (c.a1 == c.a1 && (c.a2 == c.a2 && (U == c.a3 && (c.a4 == c.a4 && true)))) && true)) && bl true ((3 : Int) == (3 : Int) && (un == un && (ev == ev && true))) && bl true (l.a0 == l.a0 && (l.a1 == l.a1 && (l.a2 == l.a2 && (l.a3 == l.a3 && (l.a4 == l.a4 && true)))) && ((0 : Int) == (0 : Int) && ((0 : Int) == (0 : Int) && ((0 : Int) == (0 : Int) && ((0 : Int) == (0 : Int) && ((0 : Int) == (0 : Int) && true)))) && true))) = true → Con Tryd.prog (20 : Nat) [] [V.agg true [u8 l.a0, u8 l.a1, u8 l.a2, u8 l.a3, u8 l.a4, u8 c.a0, u8 c.a1, u8 c.a2, u8 c.a3, u8 c.a4], u8 (0 : Int)] [] (V.agg true [u8 l.a0, u8 l.a1, u8 l.a2, u8 l.a3, u8 l.a4, u8 (0 : Int), u8 c.a1, u8 c.a2, u8 c.a3, u8 c.a4]) ∧ True]) [(16, ⟨none, some ⟨ladV l (F5.mk 0 0 0 0 0), [], []⟩⟩), (23, ⟨none, some ⟨V.agg true [u8 l.a0, u8 l.a1, u8 l.a2, u8 l.a3, u8 l.a4, u8 0, u8 c.a1, u8 c.a2, u8 c.a3, u8 c.a4], [], []⟩⟩)] [8] [] (by kernel_rfl) ⟨(fun _ => ⟨(con_calm (l) (c)), trivial⟩), (fun _ => ⟨(c3 ), trivial⟩), trivial⟩ ?_
    refine AWP.ret ?_
    refine ⟨Or.inr rfl, Eq.trans (b := some ([], vb (bl true (l.a0 == l.a0 && (l.a1 == l.a1 && (l.a2 == l.a2 && (l.a3 == l.a3 && (l.a4 == l.a4 && true)))) && (c.a0 == c.a0 && (c.a1 == c.a1 && (c.a2 == c.a2 && (U == c.a3 && (c.a4 == c.a4 && true)))) && true)) && bl true (3 == 3 && (un == un && (ev == ev && true))) && bl true (l.a0 == l.a0 && (l.a1 == l.a1 && (l.a2 == l.a2 && (l.a3 == l.a3 && (l.a4 == l.a4 && true)))) && (0 == 0 && (0 == 0 && (0 == 0 && (0 == 0 && (0 == 0 && true)))) && true)) && bl true (l.a0 == l.a0 && (l.a1 == l.a1 && (l.a2 == l.a2 && (l.a3 == l.a3 && (l.a4 == l.a4 && true)))) && (0 == 0 && (c.a1 == c.a1 && (c.a2 == c.a2 && (c.a3 == c.a3 && (c.a4 == c.a4 && true)))) && true))))) (by kernel_rfl) ?_⟩
    first | rfl | (simp [bl, *]; done) | (simp [bl, *]; omega)
  · have c3 : Con Tryd.prog 20 [] [ladV l c, u8 1] [] (.agg true [u8 l.a0, u8 l.a1, u8 l.a2, u8 l.a3, u8 l.a4, u8 c.a0, u8 0, u8 c.a2, u8 c.a3, u8 c.a4]) := con_clear l c 1 (by omega)
    refine Con.of (C := ⟨Tryd.prog, tc, Tryd.f7.ntmps⟩) [] tcok Tryd.func7 rfl rfl (by kernel_rfl) (by kernel_rfl) ?_
    refine e0 [2, 3, 4, 5, 8] [4, 5] (by kernel_rfl) ?_
    refine AWP.seq ?_
    refine e1 [(0, ⟨none, some ⟨vb true, [], []⟩⟩)] [2, 3, 4, 5, 8, 17] [4, 5] (by kernel_rfl) (AllP.c (con_awake22 ) AllP.n) ?_
    refine AWP.condF (by kernel_rfl) ?_
    refine AWP.skip ?_
    refine e1 (os := [Con Tryd.prog 13 [] [V.agg true [u8 l.a0, u8 l.a1, u8 l.a2, u8 l.a3, u8 l.a4, u8 c.a0, u8 c.a1, u8 c.a2, u8 c.a3, u8 c.a4], V.agg true [u8 lv, i64 un, u8 ev], u8 inh] [] (V.tup [V.agg true [u8 l.a0, u8 l.a1, u8 l.a2, u8 l.a3, u8 l.a4, u8 c.a0, u8 c.a1, u8 c.a2, u8 U, u8 c.a4], V.agg true [u8 3, i64 un, u8 ev], vb true])]) [(3, ⟨none, some ⟨V.tup [V.agg true [u8 l.a0, u8 l.a1, u8 l.a2, u8 l.a3, u8 l.a4, u8 c.a0, u8 c.a1, u8 c.a2, u8 U, u8 c.a4], V.agg true [u8 3, i64 un, u8 ev], vb true], [], []⟩⟩)] [2, 3, 4, 5, 8, 9, 10, 11] [4, 5, 9, 10] (by kernel_rfl) ⟨(c1 ), trivial⟩ ?_
    refine e1 (os := [Con Tryd.prog 19 [] [V.agg true [u8 l.a0, u8 l.a1, u8 l.a2, u8 l.a3, u8 l.a4], V.agg true [u8 c.a0, u8 c.a1, u8 c.a2, u8 c.a3, u8 c.a4], V.agg true [u8 lv, i64 un, u8 ev], u8 inh] [] (i64 3)]) [(6, ⟨none, some ⟨i64 3, [], []⟩⟩)] [3, 4, 5, 8, 9, 10, 11, 12] [4, 5, 9, 10] (by kernel_rfl) ⟨(c2 ), trivial⟩ ?_
    refine AWP.seq ?_
    refine e0 [3, 4, 5, 8, 9, 10, 11, 12, 36] [4, 5, 9, 10] (by kernel_rfl) ?_
    refine AWP.condF (by kernel_rfl) ?_
    refine AWP.skip ?_
    refine AWP.seq ?_
    refine e0 [3, 4, 5, 8, 9, 10, 12, 38] [4, 5, 9, 10] (by kernel_rfl) ?_
    refine AWP.condF (by kernel_rfl) ?_
    refine AWP.skip ?_
    refine e0 [3, 4, 5, 8, 9, 10, 12, 13] [4, 5, 9, 10, 13] (by kernel_rfl) ?_
    refine AWP.seq ?_
    refine e0 [3, 4, 5, 8, 9, 10, 12, 13, 52] [4, 5, 9, 10, 13] (by kernel_rfl) ?_
    refine AWP.cond (b := decide (c.a3 < 255)) (by kernel_rfl) (fun hq123 => ?_) (fun hq123 => ?_)
    · simp only [decide_eq_true_eq] at hq123
      refine g1 (os := [u8 (IntKind.wrap IntKind.u8 (c.a3 + 1)) = u8 (c.a3 + 1)]) [(4, ⟨some (u8 (c.a3 + 1)), none⟩)] [3, 4, 5, 8, 9, 10, 12, 13] [4, 5, 9, 10, 13] (by kernel_rfl) ⟨(wr_u8 (by omega) (by omega)), trivial⟩ ?_
      refine e0 [3, 4, 5, 8, 9, 10, 12, 13, 14, 15] [4, 5, 9, 10, 13, 14, 15] (by kernel_rfl) ?_
      refine e0 [3, 4, 5, 8, 9, 10, 12, 13, 14, 15] [4, 5, 9, 10, 13, 14, 15] (by kernel_rfl) ?_
      refine AWP.seq ?_
      refine e0 [3, 4, 5, 8, 9, 10, 12, 13, 14, 15, 65] [4, 5, 9, 10, 13, 14, 15] (by kernel_rfl) ?_
      refine AWP.condT (by kernel_rfl) ?_
      refine g0 [3, 4, 5, 8, 9, 10, 12, 13, 14, 15] [4, 5, 9, 10, 13, 14, 15] (by kernel_rfl) ?_
      refine e1 (os := [(bl true (l.a0 == l.a0 && (l.a1 == l.a1 && (l.a2 == l.a2 && (l.a3 == l.a3 && (l.a4 == l.a4 && true)))) && (c.a0 == c.a0 && (c.a1 == c.a1 && (c.a2 == c.a2 && (U == c.a3 + (1 : Int) && (c.a4 == c.a4 && true)))) && true)) && bl true ((3 : Int) == (3 : Int) && (un == un && (ev == ev && true)))) = true → Con Tryd.prog (18 : Nat) [] [V.agg true [u8 l.a0, u8 l.a1, u8 l.a2, u8 l.a3, u8 l.a4, u8 c.a0, u8 c.a1, u8 c.a2, u8 c.a3, u8 c.a4]] [] (V.agg true [u8 l.a0, u8 l.a1, u8 l.a2, u8 l.a3, u8 l.a4, u8 (0 : Int), u8 (0 : Int), u8 (0 : Int), u8 (0 : Int), u8 (0 : Int)]) ∧ True, (bl true (l.a0 == l.a0 && (l.a1 == l.a1 && (l.a2 == l.a2 && (l.a3 == l.a3 && (l.a4 == l.a4 && true)))) && (c.a0 == c.a0 && (c.a1 == c.a1 && (c.a2 == c.a2 && (U == c.a3 + (1 : Int) && (c.a4 == c.a4 && true)))) && true)) && bl true ((3 : Int) == (3 : Int) && (un == un && (ev == ev && true))) && bl true (l.a0 == l.a0 && (l.a1 == l.a1 && (l.a2 == l.a2 && (l.a3 == l.a3 && (l.a4 == l.a4 && true)))) && ((0 : Int) == (0 : Int) && ((0 : Int) == (0 : Int) && ((0 : Int) == (0 : Int) && ((0 : Int) == (0 : Int) && ((0 : Int) == (0 : Int) && true)))) && true))) = true → Con Tryd.prog (20 : Nat) [] [V.agg true [u8 l.a0, u8 l.a1, u8 l.a2, u8 l.a3, u8 l.a4, u8 c.a0, u8 c.a1, u8 c.a2, u8 c.a3, u8 c.a4], u8 (1 : Int)] [] (V.agg true [u8 l.a0, u8 l.a1, u8 l.a2, u8 l.a3, u8 l.a4, u8 c.a0, u8 (0 : Int), u8 c.a2, u8 c.a3, u8 c.a4]) ∧ True]) [(16, ⟨none, some ⟨ladV l (F5.mk 0 0 0 0 0), [], []⟩⟩), (23, ⟨none, some ⟨V.agg true [u8 l.a0, u8 l.a1, u8 l.a2, u8 l.a3, u8 l.a4, u8 c.a0, u8 0, u8 c.a2, u8 c.a3, u8 c.a4], [], []⟩⟩)] [8] [] (by kernel_rfl) ⟨(fun _ => ⟨(con_calm (l) (c)), trivial⟩), (fun _ => ⟨(c3 ), trivial⟩), trivial⟩ ?_
      refine AWP.ret ?_
      refine ⟨Or.inr rfl, Eq.trans (b := some ([], vb (bl true (l.a0 == l.a0 && (l.a1 == l.a1 && (l.a2 == l.a2 && (l.a3 == l.a3 && (l.a4 == l.a4 && true)))) && (c.a0 == c.a0 && (c.a1 == c.a1 && (c.a2 == c.a2 && (U == c.a3 + 1 && (c.a4 == c.a4 && true)))) && true)) && bl true (3 == 3 && (un == un && (ev == ev && true))) && bl true (l.a0 == l.a0 && (l.a1 == l.a1 && (l.a2 == l.a2 && (l.a3 == l.a3 && (l.a4 == l.a4 && true)))) && (0 == 0 && (0 == 0 && (0 == 0 && (0 == 0 && (0 == 0 && true)))) && true)) && bl true (l.a0 == l.a0 && (l.a1 == l.a1 && (l.a2 == l.a2 && (l.a3 == l.a3 && (l.a4 == l.a4 && true)))) && (c.a0 == c.a0 && (0 == 0 && (c.a2 == c.a2 && (c.a3 == c.a3 && (c.a4 == c.a4 && true)))) && true))))) (by kernel_rfl) ?_⟩
      first | rfl | (simp [bl, *]; done) | (simp [bl, *]; omega)
    simp only [decide_eq_false_iff_not] at hq123
    refine AWP.skip ?_
    refine e0 [3, 4, 5, 8, 9, 10, 12, 13, 14, 15] [4, 5, 9, 10, 13, 14, 15] (by kernel_rfl) ?_
    refine e0 [3, 4, 5, 8, 9, 10, 12, 13, 14, 15] [4, 5, 9, 10, 13, 14, 15] (by kernel_rfl) ?_
    refine AWP.seq ?_
    refine e0 [3, 4, 5, 8, 9, 10, 12, 13, 14, 15, 65] [4, 5, 9, 10, 13, 14, 15] (by kernel_rfl) ?_
    refine AWP.condT (by kernel_rfl) ?_
    refine g0 [3, 4, 5, 8, 9, 10, 12, 13, 14, 15] [4, 5, 9, 10, 13, 14, 15] (by kernel_rfl) ?_
    refine e1 (os := [(bl true (l.a0 == l.a0 && (l.a1 == l.a1 && (l.a2 == l.a2 && (l.a3 == l.a3 && (l.a4 == l.a4 && true)))) && (c.a0 == c.a0 && (c.a1 == c.a1 && (c.a2 == c.a2 && (U == c.a3 && (c.a4 == c.a4 && true)))) && true)) && bl true ((3 : Int) == (3 : Int) && (un == un && (ev == ev && true)))) = true → Con Tryd.prog (18 : Nat) [] [V.agg true [u8 l.a0, u8 l.a1, u8 l.a2, u8 l.a3, u8 l.a4, u8 c.a0, u8 c.a1, u8 c.a2, u8 c.a3, u8 c.a4]] [] (V.agg true [u8 l.a0, u8 l.a1, u8 l.a2, u8 l.a3, u8 l.a4, u8 (0 : Int), u8 (0 : Int), u8 (0 : Int), u8 (0 : Int), u8 (0 : Int)]) ∧ True, (bl true (l.a0 == l.a0 && (l.a1 == l.a1 && (l.a2 == l.a2 && (l.a3 == l.a3 && (l.a4 == l.a4 && true)))) && (c.a0 == c.a0 && (c.a1 == c.a1 && (c.a2 == c.a2 && (U == c.a3 && (c.a4 == c.a4 && true)))) && true)) && bl true ((3 : Int) == (3 : Int) && (un == un && (ev == ev && true))) && bl true (l.a0 == l.a0 && (l.a1 == l.a1 && (l.a2 == l.a2 && (l.a3 == l.a3 && (l.a4 == l.a4 && true)))) && ((0 : Int) == (0 : Int) && ((0 : Int) == (0 : Int) && ((0 : Int) == (0 : Int) && ((0 : Int) == (0 : Int) && ((0 : Int) == (0 : Int) && true)))) && true))) = true → Con Tryd.prog (20 : Nat) [] [V.agg true [u8 l.a0, u8 l.a1, u8 l.a2, u8 l.a3, u8 l.a4, u8 c.a0, u8 c.a1, u8 c.a2, u8 c.a3, u8 c.a4], u8 (1 : Int)] [] (V.agg true [u8 l.a0, u8 l.a1, u8 l.a2, u8 l.a3, u8 l.a4, u8 c.a0, u8 (0 : Int), u8 c.a2, u8 c.a3, u8 c.a4]) ∧ True]) [(16, ⟨none, some ⟨ladV l (F5.mk 0 0 0 0 0), [], []⟩⟩), (23, ⟨none, some ⟨V.agg true [u8 l.a0, u8 l.a1, u8 l.a2, u8 l.a3, u8 l.a4, u8 c.a0, u8 0, u8 c.a2, u8 c.a3, u8 c.a4], [], []⟩⟩)] [8] [] (by kernel_rfl) ⟨(fun _ => ⟨(con_calm (l) (c)), trivial⟩), (fun _ => ⟨(c3 ), trivial⟩), trivial⟩ ?_
    refine AWP.ret ?_
    refine ⟨Or.inr rfl, Eq.trans (b := some ([], vb (bl true (l.a0 == l.a0 && (l.a1 == l.a1 && (l.a2 == l.a2 && (l.a3 == l.a3 && (l.a4 == l.a4 && true)))) && (c.a0 == c.a0 && (c.a1 == c.a1 && (c.a2 == c.a2 && (U == c.a3 && (c.a4 == c.a4 && true)))) && true)) && bl true (3 == 3 && (un == un && (ev == ev && true))) && bl true (l.a0 == l.a0 && (l.a1 == l.a1 && (l.a2 == l.a2 && (l.a3 == l.a3 && (l.a4 == l.a4 && true)))) && (0 == 0 && (0 == 0 && (0 == 0 && (0 == 0 && (0 == 0 && true)))) && true)) && bl true (l.a0 == l.a0 && (l.a1 == l.a1 && (l.a2 == l.a2 && (l.a3 == l.a3 && (l.a4 == l.a4 && true)))) && (c.a0 == c.a0 && (0 == 0 && (c.a2 == c.a2 && (c.a3 == c.a3 && (c.a4 == c.a4 && true)))) && true))))) (by kernel_rfl) ?_⟩
    first | rfl | (simp [bl, *]; done) | (simp [bl, *]; omega)
  · have c3 : Con Tryd.prog 20 [] [ladV l c, u8 2] [] (.agg true [u8 l.a0, u8 l.a1, u8 l.a2, u8 l.a3, u8 l.a4, u8 c.a0, u8 c.a1, u8 0, u8 c.a3, u8 c.a4]) := con_clear l c 2 (by omega)
    refine Con.of (C := ⟨Tryd.prog, tc, Tryd.f7.ntmps⟩) [] tcok Tryd.func7 rfl rfl (by kernel_rfl) (by kernel_rfl) ?_
    refine e0 [2, 3, 4, 5, 8] [4, 5] (by kernel_rfl) ?_
    refine AWP.seq ?_
    refine e1 [(0, ⟨none, some ⟨vb true, [], []⟩⟩)] [2, 3, 4, 5, 8, 17] [4, 5] (by kernel_rfl) (AllP.c (con_awake22 ) AllP.n) ?_
    refine AWP.condF (by kernel_rfl) ?_
    refine AWP.skip ?_
    refine e1 (os := [Con Tryd.prog 13 [] [V.agg true [u8 l.a0, u8 l.a1, u8 l.a2, u8 l.a3, u8 l.a4, u8 c.a0, u8 c.a1, u8 c.a2, u8 c.a3, u8 c.a4], V.agg true [u8 lv, i64 un, u8 ev], u8 inh] [] (V.tup [V.agg true [u8 l.a0, u8 l.a1, u8 l.a2, u8 l.a3, u8 l.a4, u8 c.a0, u8 c.a1, u8 c.a2, u8 U, u8 c.a4], V.agg true [u8 3, i64 un, u8 ev], vb true])]) [(3, ⟨none, some ⟨V.tup [V.agg true [u8 l.a0, u8 l.a1, u8 l.a2, u8 l.a3, u8 l.a4, u8 c.a0, u8 c.a1, u8 c.a2, u8 U, u8 c.a4], V.agg true [u8 3, i64 un, u8 ev], vb true], [], []⟩⟩)] [2, 3, 4, 5, 8, 9, 10, 11] [4, 5, 9, 10] (by kernel_rfl) ⟨(c1 ), trivial⟩ ?_
    refine e1 (os := [Con Tryd.prog 19 [] [V.agg true [u8 l.a0, u8 l.a1, u8 l.a2, u8 l.a3, u8 l.a4], V.agg true [u8 c.a0, u8 c.a1, u8 c.a2, u8 c.a3, u8 c.a4], V.agg true [u8 lv, i64 un, u8 ev], u8 inh] [] (i64 3)]) [(6, ⟨none, some ⟨i64 3, [], []⟩⟩)] [3, 4, 5, 8, 9, 10, 11, 12] [4, 5, 9, 10] (by kernel_rfl) ⟨(c2 ), trivial⟩ ?_
    refine AWP.seq ?_
    refine e0 [3, 4, 5, 8, 9, 10, 11, 12, 36] [4, 5, 9, 10] (by kernel_rfl) ?_
    refine AWP.condF (by kernel_rfl) ?_
    refine AWP.skip ?_
    refine AWP.seq ?_
    refine e0 [3, 4, 5, 8, 9, 10, 12, 38] [4, 5, 9, 10] (by kernel_rfl) ?_
    refine AWP.condF (by kernel_rfl) ?_
    refine AWP.skip ?_
    refine e0 [3, 4, 5, 8, 9, 10, 12, 13] [4, 5, 9, 10, 13] (by kernel_rfl) ?_
    refine AWP.seq ?_
    refine e0 [3, 4, 5, 8, 9, 10, 12, 13, 52] [4, 5, 9, 10, 13] (by kernel_rfl) ?_
    refine AWP.cond (b := decide (c.a3 < 255)) (by kernel_rfl) (fun hq129 => ?_) (fun hq129 => ?_)
    · simp only [decide_eq_true_eq] at hq129
      refine g1 (os := [u8 (IntKind.wrap IntKind.u8 (c.a3 + 1)) = u8 (c.a3 + 1)]) [(4, ⟨some (u8 (c.a3 + 1)), none⟩)] [3, 4, 5, 8, 9, 10, 12, 13] [4, 5, 9, 10, 13] (by kernel_rfl) ⟨(wr_u8 (by omega) (by omega)), trivial⟩ ?_
      refine e0 [3, 4, 5, 8, 9, 10, 12, 13, 14, 15] [4, 5, 9, 10, 13, 14, 15] (by kernel_rfl) ?_
      refine e0 [3, 4, 5, 8, 9, 10, 12, 13, 14, 15] [4, 5, 9, 10, 13, 14, 15] (by kernel_rfl) ?_
      refine AWP.seq ?_
      refine e0 [3, 4, 5, 8, 9, 10, 12, 13, 14, 15, 65] [4, 5, 9, 10, 13, 14, 15] (by kernel_rfl) ?_
      refine AWP.condT (by kernel_rfl) ?_
      refine g0 [3, 4, 5, 8, 9, 10, 12, 13, 14, 15] [4, 5, 9, 10, 13, 14, 15] (by kernel_rfl) ?_
      refine e1 (os := [(bl true (l.a0 == l.a0 && (l.a1 == l.a1 && (l.a2 == l.a2 && (l.a3 == l.a3 && (l.a4 == l.a4 && true)))) && (c.a0 == c.a0 && (c.a1 == c.a1 && (c.a2 == c.a2 && (U == c.a3 + (1 : Int) && (c.a4 == c.a4 && true)))) && true)) && bl true ((3 : Int) == (3 : Int) && (un == un && (ev == ev && true)))) = true → Con Tryd.prog (18 : Nat) [] [V.agg true [u8 l.a0, u8 l.a1, u8 l.a2, u8 l.a3, u8 l.a4, u8 c.a0, u8 c.a1, u8 c.a2, u8 c.a3, u8 c.a4]] [] (V.agg true [u8 l.a0, u8 l.a1, u8 l.a2, u8 l.a3, u8 l.a4, u8 (0 : Int), u8 (0 : Int), u8 (0 : Int), u8 (0 : Int), u8 (0 : Int)]) ∧ True, (bl true (l.a0 == l.a0 && (l.a1 == l.a1 && (l.a2 == l.a2 && (l.a3 == l.a3 && (l.a4 == l.a4 && true)))) && (c.a0 == c.a0 && (c.a1 == c.a1 && (c.a2 == c.a2 && (U == c.a3 + (1 : Int) && (c.a4 == c.a4 && true)))) && true)) && bl true ((3 : Int) == (3 : Int) && (un == un && (ev == ev && true))) && bl true (l.a0 == l.a0 && (l.a1 == l.a1 && (l.a2 == l.a2 && (l.a3 == l.a3 && (l.a4 == l.a4 && true)))) && ((0 : Int) == (0 : Int) && ((0 : Int) == (0 : Int) && ((0 : Int) == (0 : Int) && ((0 : Int) == (0 : Int) && ((0 : Int) == (0 : Int) && true)))) && true))) = true → Con Tryd.prog (20 : Nat) [] [V.agg true [u8 l.a0, u8 l.a1, u8 l.a2, u8 l.a3, u8 l.a4, u8 c.a0, u8 c.a1, u8 c.a2, u8 c.a3, u8 c.a4], u8 (2 : Int)] [] (V.agg true [u8 l.a0, u8 l.a1, u8 l.a2, u8 l.a3, u8 l.a4, u8 c.a0, u8 c.a1, u8 (0 : Int), u8 c.a3, u8 c.a4]) ∧ True]) [(16, ⟨none, some ⟨ladV l (F5.mk 0 0 0 0 0), [], []⟩⟩), (23, ⟨none, some ⟨V.agg true [u8 l.a0, u8 l.a1, u8 l.a2, u8 l.a3, u8 l.a4, u8 c.a0, u8 c.a1, u8 0, u8 c.a3, u8 c.a4], [], []⟩⟩)] [8] [] (by kernel_rfl) ⟨(fun _ => ⟨(con_calm (l) (c)), trivial⟩), (fun _ => ⟨(c3 ), trivial⟩), trivial⟩ ?_
      refine AWP.ret ?_
      refine ⟨Or.inr rfl, Eq.trans (b := some ([], vb (bl true (l.a0 == l.a0 && (l.a1 == l.a1 && (l.a2 == l.a2 && (l.a3 == l.a3 && (l.a4 == l.a4 && true)))) && (c.a0 == c.a0 && (c.a1 == c.a1 && (c.a2 == c.a2 && (U == c.a3 + 1 && (c.a4 == c.a4 && true)))) && true)) && bl true (3 == 3 && (un == un && (ev == ev && true))) && bl true (l.a0 == l.a0 && (l.a1 == l.a1 && (l.a2 == l.a2 && (l.a3 == l.a3 && (l.a4 == l.a4 && true)))) && (0 == 0 && (0 == 0 && (0 == 0 && (0 == 0 && (0 == 0 && true)))) && true)) && bl true (l.a0 == l.a0 && (l.a1 == l.a1 && (l.a2 == l.a2 && (l.a3 == l.a3 && (l.a4 == l.a4 && true)))) && (c.a0 == c.a0 && (c.a1 == c.a1 && (0 == 0 && (c.a3 == c.a3 && (c.a4 == c.a4 && true)))) && true))))) (by kernel_rfl) ?_⟩
      first | rfl | (simp [bl, *]; done) | (simp [bl, *]; omega)
    simp only [decide_eq_false_iff_not] at hq129
    refine AWP.skip ?_
    refine e0 [3, 4, 5, 8, 9, 10, 12, 13, 14, 15] [4, 5, 9, 10, 13, 14, 15] (by kernel_rfl) ?_
    refine e0 [3, 4, 5, 8, 9, 10, 12, 13, 14, 15] [4, 5, 9, 10, 13, 14, 15] (by kernel_rfl) ?_
    refine AWP.seq ?_
    refine e0 [3, 4, 5, 8, 9, 10, 12, 13, 14, 15, 65] [4, 5, 9, 10, 13, 14, 15] (by kernel_rfl) ?_
    refine AWP.condT (by kernel_rfl) ?_
    refine g0 [3, 4, 5, 8, 9, 10, 12, 13, 14, 15] [4, 5, 9, 10, 13, 14, 15] (by kernel_rfl) ?_
    refine e1 (os := [(bl true (l.a0 == l.a0 && (l.a1 == l.a1 && (l.a2 == l.a2 && (l.a3 == l.a3 && (l.a4 == l.a4 && true)))) && (c.a0 == c.a0 && (c.a1 == c.a1 && (c.a2 == c.a2 && (U == c.a3 && (c.a4 == c.a4 && true)))) && true)) && bl true ((3 : Int) == (3 : Int) && (un == un && (ev == ev && true)))) = true → Con Tryd.prog (18 : Nat) [] [V.agg true [u8 l.a0, u8 l.a1, u8 l.a2, u8 l.a3, u8 l.a4, u8 c.a0, u8 c.a1, u8 c.a2, u8 c.a3, u8 c.a4]] [] (V.agg true [u8 l.a0, u8 l.a1, u8 l.a2, u8 l.a3, u8 l.a4, u8 (0 : Int), u8 (0 : Int), u8 (0 : Int), u8 (0 : Int), u8 (0 : Int)]) ∧ True, (bl true (l.a0 == l.a0 && (l.a1 == l.a1 && (l.a2 == l.a2 && (l.a3 == l.a3 && (l.a4 == l.a4 && true)))) && (c.a0 == c.a0 && (c.a1 == c.a1 && (c.a2 == c.a2 && (U == c.a3 && (c.a4 == c.a4 && true)))) && true)) && bl true ((3 : Int) == (3 : Int) && (un == un && (ev == ev && true))) && bl true (l.a0 == l.a0 && (l.a1 == l.a1 && (l.a2 == l.a2 && (l.a3 == l.a3 && (l.a4 == l.a4 && true)))) && ((0 : Int) == (0 : Int) && ((0 : Int) == (0 : Int) && ((0 : Int) == (0 : Int) && ((0 : Int) == (0 : Int) && ((0 : Int) == (0 : Int) && true)))) && true))) = true → Con Tryd.prog (20 : Nat) [] [V.agg true [u8 l.a0, u8 l.a1, u8 l.a2, u8 l.a3, u8 l.a4, u8 c.a0, u8 c.a1, u8 c.a2, u8 c.a3, u8 c.a4], u8 (2 : Int)] [] (V.agg true [u8 l.a0, u8 l.a1, u8 l.a2, u8 l.a3, u8 l.a4, u8 c.a0, u8 c.a1, u8 (0 : Int), u8 c.a3, u8 c.a4]) ∧ True]) [(16, ⟨none, some ⟨ladV l (F5.mk 0 0 0 0 0), [], []⟩⟩), (23, ⟨none, some ⟨V.agg true [u8 l.a0, u8 l.a1, u8 l.a2, u8 l.a3, u8 l.a4, u8 c.a0, u8 c.a1, u8 0, u8 c.a3, u8 c.a4], [], []⟩⟩)] [8] [] (by kernel_rfl) ⟨(fun _ => ⟨(con_calm (l) (c)), trivial⟩), (fun _ => ⟨(c3 ), trivial⟩), trivial⟩ ?_
    refine AWP.ret ?_
    refine ⟨Or.inr rfl, Eq.trans (b := some ([], vb (bl true (l.a0 == l.a0 && (l.a1 == l.a1 && (l.a2 == l.a2 && (l.a3 == l.a3 && (l.a4 == l.a4 && true)))) && (c.a0 == c.a0 && (c.a1 == c.a1 && (c.a2 == c.a2 && (U == c.a3 && (c.a4 == c.a4 && true)))) && true)) && bl true (3 == 3 && (un == un && (ev == ev && true))) && bl true (l.a0 == l.a0 && (l.a1 == l.a1 && (l.a2 == l.a2 && (l.a3 == l.a3 && (l.a4 == l.a4 && true)))) && (0 == 0 && (0 == 0 && (0 == 0 && (0 == 0 && (0 == 0 && true)))) && true)) && bl true (l.a0 == l.a0 && (l.a1 == l.a1 && (l.a2 == l.a2 && (l.a3 == l.a3 && (l.a4 == l.a4 && true)))) && (c.a0 == c.a0 && (c.a1 == c.a1 && (0 == 0 && (c.a3 == c.a3 && (c.a4 == c.a4 && true)))) && true))))) (by kernel_rfl) ?_⟩
    first | rfl | (simp [bl, *]; done) | (simp [bl, *]; omega)
  · have c3 : Con Tryd.prog 20 [] [ladV l c, u8 3] [] (.agg true [u8 l.a0, u8 l.a1, u8 l.a2, u8 l.a3, u8 l.a4, u8 c.a0, u8 c.a1, u8 c.a2, u8 0, u8 c.a4]) := con_clear l c 3 (by omega)
    refine Con.of (C := ⟨Tryd.prog, tc, Tryd.f7.ntmps⟩) [] tcok Tryd.func7 rfl rfl (by kernel_rfl) (by kernel_rfl) ?_
    refine e0 [2, 3, 4, 5, 8] [4, 5] (by kernel_rfl) ?_
    refine AWP.seq ?_
    refine e1 [(0, ⟨none, some ⟨vb true, [], []⟩⟩)] [2, 3, 4, 5, 8, 17] [4, 5] (by kernel_rfl) (AllP.c (con_awake22 ) AllP.n) ?_
    refine AWP.condF (by kernel_rfl) ?_
    refine AWP.skip ?_
    refine e1 (os := [Con Tryd.prog 13 [] [V.agg true [u8 l.a0, u8 l.a1, u8 l.a2, u8 l.a3, u8 l.a4, u8 c.a0, u8 c.a1, u8 c.a2, u8 c.a3, u8 c.a4], V.agg true [u8 lv, i64 un, u8 ev], u8 inh] [] (V.tup [V.agg true [u8 l.a0, u8 l.a1, u8 l.a2, u8 l.a3, u8 l.a4, u8 c.a0, u8 c.a1, u8 c.a2, u8 U, u8 c.a4], V.agg true [u8 3, i64 un, u8 ev], vb true])]) [(3, ⟨none, some ⟨V.tup [V.agg true [u8 l.a0, u8 l.a1, u8 l.a2, u8 l.a3, u8 l.a4, u8 c.a0, u8 c.a1, u8 c.a2, u8 U, u8 c.a4], V.agg true [u8 3, i64 un, u8 ev], vb true], [], []⟩⟩)] [2, 3, 4, 5, 8, 9, 10, 11] [4, 5, 9, 10] (by kernel_rfl) ⟨(c1 ), trivial⟩ ?_
    refine e1 (os := [Con Tryd.prog 19 [] [V.agg true [u8 l.a0, u8 l.a1, u8 l.a2, u8 l.a3, u8 l.a4], V.agg true [u8 c.a0, u8 c.a1, u8 c.a2, u8 c.a3, u8 c.a4], V.agg true [u8 lv, i64 un, u8 ev], u8 inh] [] (i64 3)]) [(6, ⟨none, some ⟨i64 3, [], []⟩⟩)] [3, 4, 5, 8, 9, 10, 11, 12] [4, 5, 9, 10] (by kernel_rfl) ⟨(c2 ), trivial⟩ ?_
    refine AWP.seq ?_
    refine e0 [3, 4, 5, 8, 9, 10, 11, 12, 36] [4, 5, 9, 10] (by kernel_rfl) ?_
    refine AWP.condF (by kernel_rfl) ?_
    refine AWP.skip ?_
    refine AWP.seq ?_
    refine e0 [3, 4, 5, 8, 9, 10, 12, 38] [4, 5, 9, 10] (by kernel_rfl) ?_
    refine AWP.condF (by kernel_rfl) ?_
    refine AWP.skip ?_
    refine e0 [3, 4, 5, 8, 9, 10, 12, 13] [4, 5, 9, 10, 13] (by kernel_rfl) ?_
    refine AWP.seq ?_
    refine e0 [3, 4, 5, 8, 9, 10, 12, 13, 52] [4, 5, 9, 10, 13] (by kernel_rfl) ?_
    refine AWP.cond (b := decide (c.a3 < 255)) (by kernel_rfl) (fun hq135 => ?_) (fun hq135 => ?_)
    · simp only [decide_eq_true_eq] at hq135
      refine g1 (os := [u8 (IntKind.wrap IntKind.u8 (c.a3 + 1)) = u8 (c.a3 + 1)]) [(4, ⟨some (u8 (c.a3 + 1)), none⟩)] [3, 4, 5, 8, 9, 10, 12, 13] [4, 5, 9, 10, 13] (by kernel_rfl) ⟨(wr_u8 (by omega) (by omega)), trivial⟩ ?_
      refine e0 [3, 4, 5, 8, 9, 10, 12, 13, 14, 15] [4, 5, 9, 10, 13, 14, 15] (by kernel_rfl) ?_
      refine e0 [3, 4, 5, 8, 9, 10, 12, 13, 14, 15] [4, 5, 9, 10, 13, 14, 15] (by kernel_rfl) ?_
      refine AWP.seq ?_
      refine e0 [3, 4, 5, 8, 9, 10, 12, 13, 14, 15, 65] [4, 5, 9, 10, 13, 14, 15] (by kernel_rfl) ?_
      refine AWP.condT (by kernel_rfl) ?_
      refine g0 [3, 4, 5, 8, 9, 10, 12, 13, 14, 15] [4, 5, 9, 10, 13, 14, 15] (by kernel_rfl) ?_
      refine e1 (os := [(bl true (l.a0 == l.a0 && (l.a1 == l.a1 && (l.a2 == l.a2 && (l.a3 == l.a3 && (l.a4 == l.a4 && true)))) && (c.a0 == c.a0 && (c.a1 == c.a1 && (c.a2 == c.a2 && (U == c.a3 + (1 : Int) && (c.a4 == c.a4 && true)))) && true)) && bl true ((3 : Int) == (3 : Int) && (un == un && (ev == ev && true)))) = true → Con Tryd.prog (18 : Nat) [] [V.agg true [u8 l.a0, u8 l.a1, u8 l.a2, u8 l.a3, u8 l.a4, u8 c.a0, u8 c.a1, u8 c.a2, u8 c.a3, u8 c.a4]] [] (V.agg true [u8 l.a0, u8 l.a1, u8 l.a2, u8 l.a3, u8 l.a4, u8 (0 : Int), u8 (0 : Int), u8 (0 : Int), u8 (0 : Int), u8 (0 : Int)]) ∧ True, (bl true (l.a0 == l.a0 && (l.a1 == l.a1 && (l.a2 == l.a2 && (l.a3 == l.a3 && (l.a4 == l.a4 && true)))) && (c.a0 == c.a0 && (c.a1 == c.a1 && (c.a2 == c.a2 && (U == c.a3 + (1 : Int) && (c.a4 == c.a4 && true)))) && true)) && bl true ((3 : Int) == (3 : Int) && (un == un && (ev == ev && true))) && bl true (l.a0 == l.a0 && (l.a1 == l.a1 && (l.a2 == l.a2 && (l.a3 == l.a3 && (l.a4 == l.a4 && true)))) && ((0 : Int) == (0 : Int) && ((0 : Int) == (0 : Int) && ((0 : Int) == (0 : Int) && ((0 : Int) == (0 : Int) && ((0 : Int) == (0 : Int) && true)))) && true))) = true → Con Tryd.prog (20 : Nat) [] [V.agg true [u8 l.a0, u8 l.a1, u8 l.a2, u8 l.a3, u8 l.a4, u8 c.a0, u8 c.a1, u8 c.a2, u8 c.a3, u8 c.a4], u8 (3 : Int)] [] (V.agg true [u8 l.a0, u8 l.a1, u8 l.a2, u8 l.a3, u8 l.a4, u8 c.a0, u8 c.a1, u8 c.a2, u8 (0 : Int), u8 c.a4]) ∧ True]) [(16, ⟨none, some ⟨ladV l (F5.mk 0 0 0 0 0), [], []⟩⟩), (23, ⟨none, some ⟨V.agg true [u8 l.a0, u8 l.a1, u8 l.a2, u8 l.a3, u8 l.a4, u8 c.a0, u8 c.a1, u8 c.a2, u8 0, u8 c.a4], [], []⟩⟩)] [8] [] (by kernel_rfl) ⟨(fun _ => ⟨(con_calm (l) (c)), trivial⟩), (fun _ => ⟨(c3 ), trivial⟩), trivial⟩ ?_
      refine AWP.ret ?_
      refine ⟨Or.inr rfl, Eq.trans (b := some ([], vb (bl true (l.a0 == l.a0 && (l.a1 == l.a1 && (l.a2 == l.a2 && (l.a3 == l.a3 && (l.a4 == l.a4 && true)))) && (c.a0 == c.a0 && (c.a1 == c.a1 && (c.a2 == c.a2 && (U == c.a3 + 1 && (c.a4 == c.a4 && true)))) && true)) && bl true (3 == 3 && (un == un && (ev == ev && true))) && bl true (l.a0 == l.a0 && (l.a1 == l.a1 && (l.a2 == l.a2 && (l.a3 == l.a3 && (l.a4 == l.a4 && true)))) && (0 == 0 && (0 == 0 && (0 == 0 && (0 == 0 && (0 == 0 && true)))) && true)) && bl true (l.a0 == l.a0 && (l.a1 == l.a1 && (l.a2 == l.a2 && (l.a3 == l.a3 && (l.a4 == l.a4 && true)))) && (c.a0 == c.a0 && (c.a1 == c.a1 && (c.a2 == c.a2 && (0 == 0 && (c.a4 == c.a4 && true)))) && true))))) (by kernel_rfl) ?_⟩
      first | rfl | (simp [bl, *]; done) | (simp [bl, *]; omega)
    simp only [decide_eq_false_iff_not] at hq135
    refine AWP.skip ?_
    refine e0 [3, 4, 5, 8, 9, 10, 12, 13, 14, 15] [4, 5, 9, 10, 13, 14, 15] (by kernel_rfl) ?_
    refine e0 [3, 4, 5, 8, 9, 10, 12, 13, 14, 15] [4, 5, 9, 10, 13, 14, 15] (by kernel_rfl) ?_
    refine AWP.seq ?_
    refine e0 [3, 4, 5, 8, 9, 10, 12, 13, 14, 15, 65] [4, 5, 9, 10, 13, 14, 15] (by kernel_rfl) ?_
    refine AWP.condT (by kernel_rfl) ?_
    refine g0 [3, 4, 5, 8, 9, 10, 12, 13, 14, 15] [4, 5, 9, 10, 13, 14, 15] (by kernel_rfl) ?_
    refine e1 (os := [(bl true (l.a0 == l.a0 && (l.a1 == l.a1 && (l.a2 == l.a2 && (l.a3 == l.a3 && (l.a4 == l.a4 && true)))) && (c.a0 == c.a0 && (c.a1 == c.a1 && (c.a2 == c.a2 && (U == c.a3 && (c.a4 == c.a4 && true)))) && true)) && bl true ((3 : Int) == (3 : Int) && (un == un && (ev == ev && true)))) = true → Con Tryd.prog (18 : Nat) [] [V.agg true [u8 l.a0, u8 l.a1, u8 l.a2, u8 l.a3, u8 l.a4, u8 c.a0, u8 c.a1, u8 c.a2, u8 c.a3, u8 c.a4]] [] (V.agg true [u8 l.a0, u8 l.a1, u8 l.a2, u8 l.a3, u8 l.a4, u8 (0 : Int), u8 (0 : Int), u8 (0 : Int), u8 (0 : Int), u8 (0 : Int)]) ∧ True, (bl true (l.a0 == l.a0 && (l.a1 == l.a1 && (l.a2 == l.a2 && (l.a3 == l.a3 && (l.a4 == l.a4 && true)))) && (c.a0 == c.a0 && (c.a1 == c.a1 && (c.a2 == c.a2 && (U == c.a3 && (c.a4 == c.a4 && true)))) && true)) && bl true ((3 : Int) == (3 : Int) && (un == un && (ev == ev && true))) && bl true (l.a0 == l.a0 && (l.a1 == l.a1 && (l.a2 == l.a2 && (l.a3 == l.a3 && (l.a4 == l.a4 && true)))) && ((0 : Int) == (0 : Int) && ((0 : Int) == (0 : Int) && ((0 : Int) == (0 : Int) && ((0 : Int) == (0 : Int) && ((0 : Int) == (0 : Int) && true)))) && true))) = true → Con Tryd.prog (20 : Nat) [] [V.agg true [u8 l.a0, u8 l.a1, u8 l.a2, u8 l.a3, u8 l.a4, u8 c.a0, u8 c.a1, u8 c.a2, u8 c.a3, u8 c.a4], u8 (3 : Int)] [] (V.agg true [u8 l.a0, u8 l.a1, u8 l.a2, u8 l.a3, u8 l.a4, u8 c.a0, u8 c.a1, u8 c.a2, u8 (0 : Int), u8 c.a4]) ∧ True]) [(16, ⟨none, some ⟨ladV l (F5.mk 0 0 0 0 0), [], []⟩⟩), (23, ⟨none, some ⟨V.agg true [u8 l.a0, u8 l.a1, u8 l.a2, u8 l.a3, u8 l.a4, u8 c.a0, u8 c.a1, u8 c.a2, u8 0, u8 c.a4], [], []⟩⟩)] [8] [] (by kernel_rfl) ⟨(fun _ => ⟨(con_calm (l) (c)), trivial⟩), (fun _ => ⟨(c3 ), trivial⟩), trivial⟩ ?_
    refine AWP.ret ?_
    refine ⟨Or.inr rfl, Eq.trans (b := some ([], vb (bl true (l.a0 == l.a0 && (l.a1 == l.a1 && (l.a2 == l.a2 && (l.a3 == l.a3 && (l.a4 == l.a4 && true)))) && (c.a0 == c.a0 && (c.a1 == c.a1 && (c.a2 == c.a2 && (U == c.a3 && (c.a4 == c.a4 && true)))) && true)) && bl true (3 == 3 && (un == un && (ev == ev && true))) && bl true (l.a0 == l.a0 && (l.a1 == l.a1 && (l.a2 == l.a2 && (l.a3 == l.a3 && (l.a4 == l.a4 && true)))) && (0 == 0 && (0 == 0 && (0 == 0 && (0 == 0 && (0 == 0 && true)))) && true)) && bl true (l.a0 == l.a0 && (l.a1 == l.a1 && (l.a2 == l.a2 && (l.a3 == l.a3 && (l.a4 == l.a4 && true)))) && (c.a0 == c.a0 && (c.a1 == c.a1 && (c.a2 == c.a2 && (0 == 0 && (c.a4 == c.a4 && true)))) && true))))) (by kernel_rfl) ?_⟩
    first | rfl | (simp [bl, *]; done) | (simp [bl, *]; omega)
  · have c3 : Con Tryd.prog 20 [] [ladV l c, u8 4] [] (.agg true [u8 l.a0, u8 l.a1, u8 l.a2, u8 l.a3, u8 l.a4, u8 c.a0, u8 c.a1, u8 c.a2, u8 c.a3, u8 0]) := con_clear l c 4 (by omega)
    refine Con.of (C := ⟨Tryd.prog, tc, Tryd.f7.ntmps⟩) [] tcok Tryd.func7 rfl rfl (by kernel_rfl) (by kernel_rfl) ?_
    refine e0 [2, 3, 4, 5, 8] [4, 5] (by kernel_rfl) ?_
    refine AWP.seq ?_
    refine e1 [(0, ⟨none, some ⟨vb true, [], []⟩⟩)] [2, 3, 4, 5, 8, 17] [4, 5] (by kernel_rfl) (AllP.c (con_awake22 ) AllP.n) ?_
    refine AWP.condF (by kernel_rfl) ?_
    refine AWP.skip ?_
    refine e1 (os := [Con Tryd.prog 13 [] [V.agg true [u8 l.a0, u8 l.a1, u8 l.a2, u8 l.a3, u8 l.a4, u8 c.a0, u8 c.a1, u8 c.a2, u8 c.a3, u8 c.a4], V.agg true [u8 lv, i64 un, u8 ev], u8 inh] [] (V.tup [V.agg true [u8 l.a0, u8 l.a1, u8 l.a2, u8 l.a3, u8 l.a4, u8 c.a0, u8 c.a1, u8 c.a2, u8 U, u8 c.a4], V.agg true [u8 3, i64 un, u8 ev], vb true])]) [(3, ⟨none, some ⟨V.tup [V.agg true [u8 l.a0, u8 l.a1, u8 l.a2, u8 l.a3, u8 l.a4, u8 c.a0, u8 c.a1, u8 c.a2, u8 U, u8 c.a4], V.agg true [u8 3, i64 un, u8 ev], vb true], [], []⟩⟩)] [2, 3, 4, 5, 8, 9, 10, 11] [4, 5, 9, 10] (by kernel_rfl) ⟨(c1 ), trivial⟩ ?_
    refine e1 (os := [Con Tryd.prog 19 [] [V.agg true [u8 l.a0, u8 l.a1, u8 l.a2, u8 l.a3, u8 l.a4], V.agg true [u8 c.a0, u8 c.a1, u8 c.a2, u8 c.a3, u8 c.a4], V.agg true [u8 lv, i64 un, u8 ev], u8 inh] [] (i64 3)]) [(6, ⟨none, some ⟨i64 3, [], []⟩⟩)] [3, 4, 5, 8, 9, 10, 11, 12] [4, 5, 9, 10] (by kernel_rfl) ⟨(c2 ), trivial⟩ ?_
    refine AWP.seq ?_
    refine e0 [3, 4, 5, 8, 9, 10, 11, 12, 36] [4, 5, 9, 10] (by kernel_rfl) ?_
    refine AWP.condF (by kernel_rfl) ?_
    refine AWP.skip ?_
    refine AWP.seq ?_
    refine e0 [3, 4, 5, 8, 9, 10, 12, 38] [4, 5, 9, 10] (by kernel_rfl) ?_
    refine AWP.condF (by kernel_rfl) ?_
    refine AWP.skip ?_
    refine e0 [3, 4, 5, 8, 9, 10, 12, 13] [4, 5, 9, 10, 13] (by kernel_rfl) ?_
    refine AWP.seq ?_
    refine e0 [3, 4, 5, 8, 9, 10, 12, 13, 52] [4, 5, 9, 10, 13] (by kernel_rfl) ?_
    refine AWP.cond (b := decide (c.a3 < 255)) (by kernel_rfl) (fun hq141 => ?_) (fun hq141 => ?_)
    · simp only [decide_eq_true_eq] at hq141
      refine g1 (os := [u8 (IntKind.wrap IntKind.u8 (c.a3 + 1)) = u8 (c.a3 + 1)]) [(4, ⟨some (u8 (c.a3 + 1)), none⟩)] [3, 4, 5, 8, 9, 10, 12, 13] [4, 5, 9, 10, 13] (by kernel_rfl) ⟨(wr_u8 (by omega) (by omega)), trivial⟩ ?_
      refine e0 [3, 4, 5, 8, 9, 10, 12, 13, 14, 15] [4, 5, 9, 10, 13, 14, 15] (by kernel_rfl) ?_
      refine e0 [3, 4, 5, 8, 9, 10, 12, 13, 14, 15] [4, 5, 9, 10, 13, 14, 15] (by kernel_rfl) ?_
      refine AWP.seq ?_
      refine e0 [3, 4, 5, 8, 9, 10, 12, 13, 14, 15, 65] [4, 5, 9, 10, 13, 14, 15] (by kernel_rfl) ?_
      refine AWP.condT (by kernel_rfl) ?_
      refine g0 [3, 4, 5, 8, 9, 10, 12, 13, 14, 15] [4, 5, 9, 10, 13, 14, 15] (by kernel_rfl) ?_
      refine e1 (os := [(bl true (l.a0 == l.a0 && (l.a1 == l.a1 && (l.a2 == l.a2 && (l.a3 == l.a3 && (l.a4 == l.a4 && true)))) && (c.a0 == c.a0 && (c.a1 == c.a1 && (c.a2 == c.a2 && (U == c.a3 + (1 : Int) && (c.a4 == c.a4 && true)))) && true)) && bl true ((3 : Int) == (3 : Int) && (un == un && (ev == ev && true)))) = true → Con Tryd.prog (18 : Nat) [] [V.agg true [u8 l.a0, u8 l.a1, u8 l.a2, u8 l.a3, u8 l.a4, u8 c.a0, u8 c.a1, u8 c.a2, u8 c.a3, u8 c.a4]] [] (V.agg true [u8 l.a0, u8 l.a1, u8 l.a2, u8 l.a3, u8 l.a4, u8 (0 : Int), u8 (0 : Int), u8 (0 : Int), u8 (0 : Int), u8 (0 : Int)]) ∧ True, (bl true (l.a0 == l.a0 && (l.a1 == l.a1 && (l.a2 == l.a2 && (l.a3 == l.a3 && (l.a4 == l.a4 && true)))) && (c.a0 == c.a0 && (c.a1 == c.a1 && (c.a2 == c.a2 && (U == c.a3 + (1 : Int) && (c.a4 == c.a4 && true)))) && true)) && bl true ((3 : Int) == (3 : Int) && (un == un && (ev == ev && true))) && bl true (l.a0 == l.a0 && (l.a1 == l.a1 && (l.a2 == l.a2 && (l.a3 == l.a3 && (l.a4 == l.a4 && true)))) && ((0 : Int) == (0 : Int) && ((0 : Int) == (0 : Int) && ((0 : Int) == (0 : Int) && ((0 : Int) == (0 : Int) && ((0 : Int) == (0 : Int) && true)))) && true))) = true → Con Tryd.prog (20 : Nat) [] [V.agg true [u8 l.a0, u8 l.a1, u8 l.a2, u8 l.a3, u8 l.a4, u8 c.a0, u8 c.a1, u8 c.a2, u8 c.a3, u8 c.a4], u8 (4 : Int)] [] (V.agg true [u8 l.a0, u8 l.a1, u8 l.a2, u8 l.a3, u8 l.a4, u8 c.a0, u8 c.a1, u8 c.a2, u8 c.a3, u8 (0 : Int)]) ∧ True]) [(16, ⟨none, some ⟨ladV l (F5.mk 0 0 0 0 0), [], []⟩⟩), (23, ⟨none, some ⟨V.agg true [u8 l.a0, u8 l.a1, u8 l.a2, u8 l.a3, u8 l.a4, u8 c.a0, u8 c.a1, u8 c.a2, u8 c.a3, u8 0], [], []⟩⟩)] [8] [] (by kernel_rfl) ⟨(fun _ => ⟨(con_calm (l) (c)), trivial⟩), (fun _ => ⟨(c3 ), trivial⟩), trivial⟩ ?_
      refine AWP.ret ?_
      refine ⟨Or.inr rfl, Eq.trans (b := some ([], vb (bl true (l.a0 == l.a0 && (l.a1 == l.a1 && (l.a2 == l.a2 && (l.a3 == l.a3 && (l.a4 == l.a4 && true)))) && (c.a0 == c.a0 && (c.a1 == c.a1 && (c.a2 == c.a2 && (U == c.a3 + 1 && (c.a4 == c.a4 && true)))) && true)) && bl true (3 == 3 && (un == un && (ev == ev && true))) && bl true (l.a0 == l.a0 && (l.a1 == l.a1 && (l.a2 == l.a2 && (l.a3 == l.a3 && (l.a4 == l.a4 && true)))) && (0 == 0 && (0 == 0 && (0 == 0 && (0 == 0 && (0 == 0 && true)))) && true)) && bl true (l.a0 == l.a0 && (l.a1 == l.a1 && (l.a2 == l.a2 && (l.a3 == l.a3 && (l.a4 == l.a4 && true)))) && (c.a0 == c.a0 && (c.a1 == c.a1 && (c.a2 == c.a2 && (c.a3 == c.a3 && (0 == 0 && true)))) && true))))) (by kernel_rfl) ?_⟩
      first | rfl | (simp [bl, *]; done) | (simp [bl, *]; omega)
    simp only [decide_eq_false_iff_not] at hq141
    refine AWP.skip ?_
    refine e0 [3, 4, 5, 8, 9, 10, 12, 13, 14, 15] [4, 5, 9, 10, 13, 14, 15] (by kernel_rfl) ?_
    refine e0 [3, 4, 5, 8, 9, 10, 12, 13, 14, 15] [4, 5, 9, 10, 13, 14, 15] (by kernel_rfl) ?_
    refine AWP.seq ?_
    refine e0 [3, 4, 5, 8, 9, 10, 12, 13, 14, 15, 65] [4, 5, 9, 10, 13, 14, 15] (by kernel_rfl) ?_
    refine AWP.condT (by kernel_rfl) ?_
    refine g0 [3, 4, 5, 8, 9, 10, 12, 13, 14, 15] [4, 5, 9, 10, 13, 14, 15] (by kernel_rfl) ?_
    refine e1 (os := [(bl true (l.a0 == l.a0 && (l.a1 == l.a1 && (l.a2 == l.a2 && (l.a3 == l.a3 && (l.a4 == l.a4 && true)))) && (c.a0 == c.a0 && (c.a1 == c.a1 && (c.a2 == c.a2 && (U == c.a3 && (c.a4 == c.a4 && true)))) && true)) && bl true ((3 : Int) == (3 : Int) && (un == un && (ev == ev && true)))) = true → Con Tryd.prog (18 : Nat) [] [V.agg true [u8 l.a0, u8 l.a1, u8 l.a2, u8 l.a3, u8 l.a4, u8 c.a0, u8 c.a1, u8 c.a2, u8 c.a3, u8 c.a4]] [] (V.agg true [u8 l.a0, u8 l.a1, u8 l.a2, u8 l.a3, u8 l.a4, u8 (0 : Int), u8 (0 : Int), u8 (0 : Int), u8 (0 : Int), u8 (0 : Int)]) ∧ True, (bl true (l.a0 == l.a0 && (l.a1 == l.a1 && (l.a2 == l.a2 && (l.a3 == l.a3 && (l.a4 == l.a4 && true)))) && (c.a0 == c.a0 && (c.a1 == c.a1 && (c.a2 == c.a2 && (U == c.a3 && (c.a4 == c.a4 && true)))) && true)) && bl true ((3 : Int) == (3 : Int) && (un == un && (ev == ev && true))) && bl true (l.a0 == l.a0 && (l.a1 == l.a1 && (l.a2 == l.a2 && (l.a3 == l.a3 && (l.a4 == l.a4 && true)))) && ((0 : Int) == (0 : Int) && ((0 : Int) == (0 : Int) && ((0 : Int) == (0 : Int) && ((0 : Int) == (0 : Int) && ((0 : Int) == (0 : Int) && true)))) && true))) = true → Con Tryd.prog (20 : Nat) [] [V.agg true [u8 l.a0, u8 l.a1, u8 l.a2, u8 l.a3, u8 l.a4, u8 c.a0, u8 c.a1, u8 c.a2, u8 c.a3, u8 c.a4], u8 (4 : Int)] [] (V.agg true [u8 l.a0, u8 l.a1, u8 l.a2, u8 l.a3, u8 l.a4, u8 c.a0, u8 c.a1, u8 c.a2, u8 c.a3, u8 (0 : Int)]) ∧ True]) [(16, ⟨none, some ⟨ladV l (F5.mk 0 0 0 0 0), [], []⟩⟩), (23, ⟨none, some ⟨V.agg true [u8 l.a0, u8 l.a1, u8 l.a2, u8 l.a3, u8 l.a4, u8 c.a0, u8 c.a1, u8 c.a2, u8 c.a3, u8 0], [], []⟩⟩)] [8] [] (by kernel_rfl) ⟨(fun _ => ⟨(con_calm (l) (c)), trivial⟩), (fun _ => ⟨(c3 ), trivial⟩), trivial⟩ ?_
    refine AWP.ret ?_
    refine ⟨Or.inr rfl, Eq.trans (b := some ([], vb (bl true (l.a0 == l.a0 && (l.a1 == l.a1 && (l.a2 == l.a2 && (l.a3 == l.a3 && (l.a4 == l.a4 && true)))) && (c.a0 == c.a0 && (c.a1 == c.a1 && (c.a2 == c.a2 && (U == c.a3 && (c.a4 == c.a4 && true)))) && true)) && bl true (3 == 3 && (un == un && (ev == ev && true))) && bl true (l.a0 == l.a0 && (l.a1 == l.a1 && (l.a2 == l.a2 && (l.a3 == l.a3 && (l.a4 == l.a4 && true)))) && (0 == 0 && (0 == 0 && (0 == 0 && (0 == 0 && (0 == 0 && true)))) && true)) && bl true (l.a0 == l.a0 && (l.a1 == l.a1 && (l.a2 == l.a2 && (l.a3 == l.a3 && (l.a4 == l.a4 && true)))) && (c.a0 == c.a0 && (c.a1 == c.a1 && (c.a2 == c.a2 && (c.a3 == c.a3 && (0 == 0 && true)))) && true))))) (by kernel_rfl) ?_⟩
    first | rfl | (simp [bl, *]; done) | (simp [bl, *]; omega)
  · have c3 := con_clear_no l c w hw
    refine Con.of (C := ⟨Tryd.prog, tc, Tryd.f7.ntmps⟩) [] tcok Tryd.func7 rfl rfl (by kernel_rfl) (by kernel_rfl) ?_
    refine e0 [2, 3, 4, 5, 8] [4, 5] (by kernel_rfl) ?_
    refine AWP.seq ?_
    refine e1 [(0, ⟨none, some ⟨vb true, [], []⟩⟩)] [2, 3, 4, 5, 8, 17] [4, 5] (by kernel_rfl) (AllP.c (con_awake22 ) AllP.n) ?_
    refine AWP.condF (by kernel_rfl) ?_
    refine AWP.skip ?_
    refine e1 (os := [Con Tryd.prog 13 [] [V.agg true [u8 l.a0, u8 l.a1, u8 l.a2, u8 l.a3, u8 l.a4, u8 c.a0, u8 c.a1, u8 c.a2, u8 c.a3, u8 c.a4], V.agg true [u8 lv, i64 un, u8 ev], u8 inh] [] (V.tup [V.agg true [u8 l.a0, u8 l.a1, u8 l.a2, u8 l.a3, u8 l.a4, u8 c.a0, u8 c.a1, u8 c.a2, u8 U, u8 c.a4], V.agg true [u8 3, i64 un, u8 ev], vb true])]) [(3, ⟨none, some ⟨V.tup [V.agg true [u8 l.a0, u8 l.a1, u8 l.a2, u8 l.a3, u8 l.a4, u8 c.a0, u8 c.a1, u8 c.a2, u8 U, u8 c.a4], V.agg true [u8 3, i64 un, u8 ev], vb true], [], []⟩⟩)] [2, 3, 4, 5, 8, 9, 10, 11] [4, 5, 9, 10] (by kernel_rfl) ⟨(c1 ), trivial⟩ ?_
    refine e1 (os := [Con Tryd.prog 19 [] [V.agg true [u8 l.a0, u8 l.a1, u8 l.a2, u8 l.a3, u8 l.a4], V.agg true [u8 c.a0, u8 c.a1, u8 c.a2, u8 c.a3, u8 c.a4], V.agg true [u8 lv, i64 un, u8 ev], u8 inh] [] (i64 3)]) [(6, ⟨none, some ⟨i64 3, [], []⟩⟩)] [3, 4, 5, 8, 9, 10, 11, 12] [4, 5, 9, 10] (by kernel_rfl) ⟨(c2 ), trivial⟩ ?_
    refine AWP.seq ?_
    refine e0 [3, 4, 5, 8, 9, 10, 11, 12, 36] [4, 5, 9, 10] (by kernel_rfl) ?_
    refine AWP.condF (by kernel_rfl) ?_
    refine AWP.skip ?_
    refine AWP.seq ?_
    refine e0 [3, 4, 5, 8, 9, 10, 12, 38] [4, 5, 9, 10] (by kernel_rfl) ?_
    refine AWP.condF (by kernel_rfl) ?_
    refine AWP.skip ?_
    refine e0 [3, 4, 5, 8, 9, 10, 12, 13] [4, 5, 9, 10, 13] (by kernel_rfl) ?_
    refine AWP.seq ?_
    refine e0 [3, 4, 5, 8, 9, 10, 12, 13, 52] [4, 5, 9, 10, 13] (by kernel_rfl) ?_
    refine AWP.cond (b := decide (c.a3 < 255)) (by kernel_rfl) (fun hq147 => ?_) (fun hq147 => ?_)
    · simp only [decide_eq_true_eq] at hq147
      refine g1 (os := [u8 (IntKind.wrap IntKind.u8 (c.a3 + 1)) = u8 (c.a3 + 1)]) [(4, ⟨some (u8 (c.a3 + 1)), none⟩)] [3, 4, 5, 8, 9, 10, 12, 13] [4, 5, 9, 10, 13] (by kernel_rfl) ⟨(wr_u8 (by omega) (by omega)), trivial⟩ ?_
      refine e0 [3, 4, 5, 8, 9, 10, 12, 13, 14, 15] [4, 5, 9, 10, 13, 14, 15] (by kernel_rfl) ?_
      refine e0 [3, 4, 5, 8, 9, 10, 12, 13, 14, 15] [4, 5, 9, 10, 13, 14, 15] (by kernel_rfl) ?_
      refine AWP.seq ?_
      refine e0 [3, 4, 5, 8, 9, 10, 12, 13, 14, 15, 65] [4, 5, 9, 10, 13, 14, 15] (by kernel_rfl) ?_
      refine AWP.cond (b := decide (w < 5)) (by kernel_rfl) (fun hq148 => ?_) (fun hq148 => ?_)
      · simp only [decide_eq_true_eq] at hq148
        (exfalso; omega)
      simp only [decide_eq_false_iff_not] at hq148
      refine AWP.skip ?_
      refine e1 (os := [(bl true (l.a0 == l.a0 && (l.a1 == l.a1 && (l.a2 == l.a2 && (l.a3 == l.a3 && (l.a4 == l.a4 && true)))) && (c.a0 == c.a0 && (c.a1 == c.a1 && (c.a2 == c.a2 && (U == c.a3 + (1 : Int) && (c.a4 == c.a4 && true)))) && true)) && bl true ((3 : Int) == (3 : Int) && (un == un && (ev == ev && true)))) = true → Con Tryd.prog (18 : Nat) [] [V.agg true [u8 l.a0, u8 l.a1, u8 l.a2, u8 l.a3, u8 l.a4, u8 c.a0, u8 c.a1, u8 c.a2, u8 c.a3, u8 c.a4]] [] (V.agg true [u8 l.a0, u8 l.a1, u8 l.a2, u8 l.a3, u8 l.a4, u8 (0 : Int), u8 (0 : Int), u8 (0 : Int), u8 (0 : Int), u8 (0 : Int)]) ∧ True, (bl true (l.a0 == l.a0 && (l.a1 == l.a1 && (l.a2 == l.a2 && (l.a3 == l.a3 && (l.a4 == l.a4 && true)))) && (c.a0 == c.a0 && (c.a1 == c.a1 && (c.a2 == c.a2 && (U == c.a3 + (1 : Int) && (c.a4 == c.a4 && true)))) && true)) && bl true ((3 : Int) == (3 : Int) && (un == un && (ev == ev && true))) && bl true (l.a0 == l.a0 && (l.a1 == l.a1 && (l.a2 == l.a2 && (l.a3 == l.a3 && (l.a4 == l.a4 && true)))) && ((0 : Int) == (0 : Int) && ((0 : Int) == (0 : Int) && ((0 : Int) == (0 : Int) && ((0 : Int) == (0 : Int) && ((0 : Int) == (0 : Int) && true)))) && true))) = true → Con Tryd.prog (20 : Nat) [] [V.agg true [u8 l.a0, u8 l.a1, u8 l.a2, u8 l.a3, u8 l.a4, u8 c.a0, u8 c.a1, u8 c.a2, u8 c.a3, u8 c.a4], u8 w] [] (V.agg true [u8 l.a0, u8 l.a1, u8 l.a2, u8 l.a3, u8 l.a4, u8 c.a0, u8 c.a1, u8 c.a2, u8 c.a3, u8 c.a4]) ∧ True]) [(16, ⟨none, some ⟨ladV l (F5.mk 0 0 0 0 0), [], []⟩⟩), (23, ⟨none, some ⟨ladV l c, [], []⟩⟩)] [8] [] (by kernel_rfl) ⟨(fun _ => ⟨(con_calm (l) (c)), trivial⟩), (fun _ => ⟨(c3 ), trivial⟩), trivial⟩ ?_
      refine AWP.ret ?_
      refine ⟨Or.inr rfl, Eq.trans (b := some ([], vb (bl true (l.a0 == l.a0 && (l.a1 == l.a1 && (l.a2 == l.a2 && (l.a3 == l.a3 && (l.a4 == l.a4 && true)))) && (c.a0 == c.a0 && (c.a1 == c.a1 && (c.a2 == c.a2 && (U == c.a3 + 1 && (c.a4 == c.a4 && true)))) && true)) && bl true (3 == 3 && (un == un && (ev == ev && true))) && bl true (l.a0 == l.a0 && (l.a1 == l.a1 && (l.a2 == l.a2 && (l.a3 == l.a3 && (l.a4 == l.a4 && true)))) && (0 == 0 && (0 == 0 && (0 == 0 && (0 == 0 && (0 == 0 && true)))) && true)) && bl true (l.a0 == l.a0 && (l.a1 == l.a1 && (l.a2 == l.a2 && (l.a3 == l.a3 && (l.a4 == l.a4 && true)))) && (c.a0 == c.a0 && (c.a1 == c.a1 && (c.a2 == c.a2 && (c.a3 == c.a3 && (c.a4 == c.a4 && true)))) && true))))) (by kernel_rfl) ?_⟩
      first | rfl | (simp [bl, *]; done) | (simp [bl, *]; omega)
    simp only [decide_eq_false_iff_not] at hq147
    refine AWP.skip ?_
    refine e0 [3, 4, 5, 8, 9, 10, 12, 13, 14, 15] [4, 5, 9, 10, 13, 14, 15] (by kernel_rfl) ?_
    refine e0 [3, 4, 5, 8, 9, 10, 12, 13, 14, 15] [4, 5, 9, 10, 13, 14, 15] (by kernel_rfl) ?_
    refine AWP.seq ?_
    refine e0 [3, 4, 5, 8, 9, 10, 12, 13, 14, 15, 65] [4, 5, 9, 10, 13, 14, 15] (by kernel_rfl) ?_
    refine AWP.cond (b := decide (w < 5)) (by kernel_rfl) (fun hq149 => ?_) (fun hq149 => ?_)
    · simp only [decide_eq_true_eq] at hq149
      (exfalso; omega)
    simp only [decide_eq_false_iff_not] at hq149
    refine AWP.skip ?_
    refine e1 (os := [(bl true (l.a0 == l.a0 && (l.a1 == l.a1 && (l.a2 == l.a2 && (l.a3 == l.a3 && (l.a4 == l.a4 && true)))) && (c.a0 == c.a0 && (c.a1 == c.a1 && (c.a2 == c.a2 && (U == c.a3 && (c.a4 == c.a4 && true)))) && true)) && bl true ((3 : Int) == (3 : Int) && (un == un && (ev == ev && true)))) = true → Con Tryd.prog (18 : Nat) [] [V.agg true [u8 l.a0, u8 l.a1, u8 l.a2, u8 l.a3, u8 l.a4, u8 c.a0, u8 c.a1, u8 c.a2, u8 c.a3, u8 c.a4]] [] (V.agg true [u8 l.a0, u8 l.a1, u8 l.a2, u8 l.a3, u8 l.a4, u8 (0 : Int), u8 (0 : Int), u8 (0 : Int), u8 (0 : Int), u8 (0 : Int)]) ∧ True, (bl true (l.a0 == l.a0 && (l.a1 == l.a1 && (l.a2 == l.a2 && (l.a3 == l.a3 && (l.a4 == l.a4 && true)))) && (c.a0 == c.a0 && (c.a1 == c.a1 && (c.a2 == c.a2 && (U == c.a3 && (c.a4 == c.a4 && true)))) && true)) && bl true ((3 : Int) == (3 : Int) && (un == un && (ev == ev && true))) && bl true (l.a0 == l.a0 && (l.a1 == l.a1 && (l.a2 == l.a2 && (l.a3 == l.a3 && (l.a4 == l.a4 && true)))) && ((0 : Int) == (0 : Int) && ((0 : Int) == (0 : Int) && ((0 : Int) == (0 : Int) && ((0 : Int) == (0 : Int) && ((0 : Int) == (0 : Int) && true)))) && true))) = true → Con Tryd.prog (20 : Nat) [] [V.agg true [u8 l.a0, u8 l.a1, u8 l.a2, u8 l.a3, u8 l.a4, u8 c.a0, u8 c.a1, u8 c.a2, u8 c.a3, u8 c.a4], u8 w] [] (V.agg true [u8 l.a0, u8 l.a1, u8 l.a2, u8 l.a3, u8 l.a4, u8 c.a0, u8 c.a1, u8 c.a2, u8 c.a3, u8 c.a4]) ∧ True]) [(16, ⟨none, some ⟨ladV l (F5.mk 0 0 0 0 0), [], []⟩⟩), (23, ⟨none, some ⟨ladV l c, [], []⟩⟩)] [8] [] (by kernel_rfl) ⟨(fun _ => ⟨(con_calm (l) (c)), trivial⟩), (fun _ => ⟨(c3 ), trivial⟩), trivial⟩ ?_
    refine AWP.ret ?_
    refine ⟨Or.inr rfl, Eq.trans (b := some ([], vb (bl true (l.a0 == l.a0 && (l.a1 == l.a1 && (l.a2 == l.a2 && (l.a3 == l.a3 && (l.a4 == l.a4 && true)))) && (c.a0 == c.a0 && (c.a1 == c.a1 && (c.a2 == c.a2 && (U == c.a3 && (c.a4 == c.a4 && true)))) && true)) && bl true (3 == 3 && (un == un && (ev == ev && true))) && bl true (l.a0 == l.a0 && (l.a1 == l.a1 && (l.a2 == l.a2 && (l.a3 == l.a3 && (l.a4 == l.a4 && true)))) && (0 == 0 && (0 == 0 && (0 == 0 && (0 == 0 && (0 == 0 && true)))) && true)) && bl true (l.a0 == l.a0 && (l.a1 == l.a1 && (l.a2 == l.a2 && (l.a3 == l.a3 && (l.a4 == l.a4 && true)))) && (c.a0 == c.a0 && (c.a1 == c.a1 && (c.a2 == c.a2 && (c.a3 == c.a3 && (c.a4 == c.a4 && true)))) && true))))) (by kernel_rfl) ?_⟩
    first | rfl | (simp [bl, *]; done) | (simp [bl, *]; omega)
end Go.Proofs.YtklbonfbiakebaaDoor
