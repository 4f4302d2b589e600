/- Chapter 16: MonitorArgs. -/
import Derived.Test.YtlfjnkobnkfioaaRg
import Derived.Test.YtlfjnkobnkfioaaMonD
import Derived.Test.YtlfjnkobnkfioaaMonB
namespace Go.Proofs.Ytlfjnkobnkfioaa
open Go.Ab
set_option linter.unusedSimpArgs false
set_option linter.unusedVariables false
set_option maxHeartbeats 8000000
set_option maxRecDepth 100000
theorem mcells_last {rows : List (List V)} {n : Int} (h : ∀ r ∈ rows, r.length = 11) (hl : rows.length ≤ 16) : gI (mcells rows n) 256 = i64 n := by
  unfold mcells gI
  rw [List.getD_eq_getElem?_getD, List.getElem?_append_right (by rw [rows_len h]; omega), List.getElem?_append_right (by rw [rows_len h, rep_len]; omega), rows_len h, rep_len, show 256 - rows.length * 16 - (16 - rows.length) * 16 = 0 by omega]
  rfl
theorem mcells_drop {rows : List (List V)} {n : Int} (h : ∀ r ∈ rows, r.length = 11) : ∀ (j : Nat) (x : List V), rows[j]? = some x → ∃ r, (mcells rows n).drop (j * 16) = x ++ r := by
  unfold mcells
  generalize (List.replicate (16 - rows.length) z16).flatten ++ [i64 n] = R
  induction rows with
  | nil => intro j x hx; simp at hx
  | cons q t ih =>
    intro j x hx
    have hq := h q (List.mem_cons_self ..)
    cases j with
    | zero =>
      cases hx
      exact ⟨z5 ++ ((t.map (· ++ z5)).flatten ++ R), by simp⟩
    | succ j =>
      obtain ⟨r, hr⟩ := ih (fun z hz => h z (List.mem_cons_of_mem _ hz)) j x (by simpa using hx)
      refine ⟨r, ?_⟩
      rw [← hr, List.map_cons, List.flatten_cons, show (j + 1) * 16 = (q ++ z5).length + j * 16 by rw [List.length_append, hq]; show _ = 11 + 5 + j * 16; omega, ← List.drop_drop, List.append_assoc, List.drop_left]
def RR (Y : List V) (j : Nat) : Prop := ∃ (kd pa lo hi ma wa rp ev lv un : Int) (en : Bool) (r : List V), Y.drop (j * 11) = u8 kd :: i64 pa :: i32 lo :: i32 hi :: u32 ma :: u32 wa :: u8 rp :: u8 ev :: u8 lv :: i64 un :: vb en :: r ∧ mrt kd pa lo hi rp lv un = true
theorem rr_not {Y : List V} {j : Nat} {kd pa lo hi ma wa rp ev lv un : Int} {en : Bool} {r : List V} (kx : Y.drop (j * 11) = u8 kd :: i64 pa :: i32 lo :: i32 hi :: u32 ma :: u32 wa :: u8 rp :: u8 ev :: u8 lv :: i64 un :: vb en :: r) (h : mrt kd pa lo hi rp lv un = false) : ¬ RR Y j := by
  rintro ⟨kd', pa', lo', hi', ma', wa', rp', ev', lv', un', en', r', h1, h2⟩
  rw [kx] at h1
  cases h1
  rw [h] at h2
  cases h2
theorem law_args (Y : List V) (m : Nat) (hm : m ≤ 20) (hx : ∀ j : Nat, j < m → ∃ (kd pa lo hi ma wa rp ev lv un : Int) (en : Bool) (r : List V), Y.drop (j * 11) = u8 kd :: i64 pa :: i32 lo :: i32 hi :: u32 ma :: u32 wa :: u8 rp :: u8 ev :: u8 lv :: i64 un :: vb en :: r) (xs : List V) (n : Nat) (hn : n ≤ 9223372036854775807) (hmn : min n 20 = m) (hY : xs.take (m * 11) = Y) (hxl : n * 11 ≤ xs.length) (kd0 pa0 lo0 hi0 ma0 wa0 rp0 ev0 lv0 un0 i : Int) (en0 : Bool) : Con Try.prog 3 [] [.vs xs n, .agg true [u8 kd0, i64 pa0, i32 lo0, i32 hi0, u32 ma0, u32 wa0, u8 rp0, u8 ev0, u8 lv0, i64 un0, vb en0], i64 i] [] (vb true) := by
  have wf1 : imin (n : Int) 20 = (m : Int) := by unfold imin; split <;> omega
  refine Con.of (C := ⟨Try.prog, tc, Try.f3.ntmps⟩) [] tcok Try.func3 rfl rfl (by kernel_rfl) (by kernel_rfl) ?_
  refine xe0 [0, 2, 4, 6] [4] (by kernel_rfl) ?_
  refine AWP.seq ?_
  refine xe1 [(0, ⟨none, some ⟨vb true, [], []⟩⟩)] [0, 2, 4, 6, 16] [4] (by kernel_rfl) (AllP.c (con_awake16 ) AllP.n) ?_
  refine AWP.condF (by kernel_rfl) ?_
  refine AWP.skip ?_
  refine xe1 (os := [i64 (imin (↑n : Int) 20) = i64 (↑m : Int), (0 : Int) ≤ (↑(0 : Nat) : Int) ∧ (↑(0 : Nat) : Int) ≤ (↑m : Int) ∧ (↑m : Int) ≤ (↑n : Int), V.vs (subV xs none (some (i64 (↑m : Int))) (Int.toNat (↑0 : Int) * 11) (Int.toNat (↑m : Int) * 11) ((Int.toNat (↑m : Int) - Int.toNat (↑0 : Int)) * 11)) (Int.toNat (↑m : Int) - 0) = V.vs (subV xs none (some (i64 (↑m : Int))) (Int.toNat (↑0 : Int) * 11) (Int.toNat (↑m : Int) * 11) ((Int.toNat (↑m : Int) - Int.toNat (↑0 : Int)) * 11)) (Int.toNat (↑m : Int) - 0)]) [(3, ⟨some (i64 (↑m : Int)), none⟩), (4, ⟨some (V.vs (subV xs none (some (i64 (↑m : Int))) (Int.toNat (↑0 : Int) * 11) (Int.toNat (↑m : Int) * 11) ((Int.toNat (↑m : Int) - Int.toNat (↑0 : Int)) * 11)) (Int.toNat (↑m : Int) - 0)), none⟩)] [0, 2, 4, 6] [4] (by kernel_rfl) ⟨(in_eq wf1), (by omega), rfl, trivial⟩ ?_
  refine xe0 [0, 2, 4, 6, 7] [4] (by kernel_rfl) ?_
  refine AWP.seq ?_
  refine xe0 [0, 2, 4, 6, 7, 25, 26, 27] [4] (by kernel_rfl) ?_
  refine AWP.block ?_
  simp only [subV, Int.toNat_natCast, Nat.sub_zero, Int.toNat_zero, hY]
  refine AWP.loopI [0, 2, 4, 6, 7, 25, 26, 27] [4] (fun N s' => ∃ (p : Int) (q : Bool), s' = St.mk [(0, T.plain (V.vs Y m)), (2, T.plain (i64 i)), (4, T.plain (V.ptr 4 0)), (6, T.plain (vb false)), (7, T.plain (vb q)), (25, T.plain (V.vs Y m)), (26, T.plain (i64 (m : Int))), (27, T.plain (i64 p))] [(4, Blk.mk [u8 kd0, i64 pa0, i32 lo0, i32 hi0, u32 ma0, u32 wa0, u8 rp0, u8 ev0, u8 lv0, i64 un0, vb en0] true 11 none)] ∧ (q = true ∧ m ≤ 16 ∧ (∀ j, j < p.toNat → RR Y j) ∨ q = false ∧ (16 < m ∨ m ≤ 16 ∧ ∃ j, j < p.toNat ∧ ¬ RR Y j ∧ ∀ k, k < j → RR Y k)) ∧ 0 ≤ p ∧ p ≤ m ∧ (N : Int) = m - p) m (s0 := St.mk [(0, T.plain (V.vs Y m)), (2, T.plain (i64 i)), (4, T.plain (V.ptr 4 0)), (6, T.plain (vb false)), (7, T.plain (vb (decide ((m : Int) ≤ 16)))), (25, T.plain (V.vs Y m)), (26, T.plain (i64 (m : Int))), (27, T.plain (i64 0))] [(4, Blk.mk [u8 kd0, i64 pa0, i32 lo0, i32 hi0, u32 ma0, u32 wa0, u8 rp0, u8 ev0, u8 lv0, i64 un0, vb en0] true 11 none)]) (by kernel_rfl) ?_ ?_
  · refine ⟨0, _, rfl, ?_, by omega, by omega, by omega⟩
    by_cases h16 : m ≤ 16
    · exact .inl ⟨by simp; omega, h16, fun j hj => by cases hj⟩
    · exact .inr ⟨by simp; omega, .inl (by omega)⟩
  rintro N s' ⟨p, q, rfl, hq, hp, hp2, hN⟩
  by_cases hlt : p < m
  · obtain ⟨kd, pa, lo, hi, ma, wa, rp, ev, lv, un, en, r, kx⟩ := hx p.toNat (by omega)
    have c1 := con_rright kd pa lo hi ma wa rp ev lv un en
    have c2 := con_mrightg kd pa lo hi ma wa rp ev lv un en
    have hs1 : (p + 1).toNat = p.toNat + 1 := by omega
    cases hb : mrt kd pa lo hi rp lv un with
    | true =>
      rw [hb] at c1 c2
      have hR : RR Y p.toNat := ⟨kd, pa, lo, hi, ma, wa, rp, ev, lv, un, en, r, kx, hb⟩
      rcases hq with ⟨rfl, h16, hall⟩ | ⟨rfl, hw⟩
      · have hnx : ∀ j, j < (p + 1).toNat → RR Y j := fun j hj => by
          by_cases e : j = p.toNat
          · rw [e]; exact hR
          · exact hall j (by omega)
        refine xe0 [0, 2, 4, 6, 7, 25, 26, 27, 28] [4] (by kernel_rfl) ?_
        refine AWP.seq ?_
        refine AWP.cond (b := decide (p < (↑m : Int))) (by kernel_rfl) (fun hq1 => ?_) (fun hq1 => ?_)
        · simp only [decide_eq_true_eq] at hq1
          refine AWP.skip ?_
          refine AWP.seq ?_
          refine AWP.block ?_
          refine xe1 (os := [(0 : Int) ≤ p ∧ p < (↑m : Int), V.vp (List.drop (Int.toNat p * 11) Y) = V.vp (u8 kd :: i64 pa :: i32 lo :: i32 hi :: u32 ma :: u32 wa :: u8 rp :: u8 ev :: u8 lv :: i64 un :: vb en :: r)]) [(0, ⟨some (V.vp (u8 kd :: i64 pa :: i32 lo :: i32 hi :: u32 ma :: u32 wa :: u8 rp :: u8 ev :: u8 lv :: i64 un :: vb en :: r)), none⟩)] [0, 2, 4, 6, 7, 9, 25, 26, 27] [4, 9] (by kernel_rfl) ⟨(by omega), (congrArg V.vp kx), trivial⟩ ?_
          refine xe1 (os := [true = true → Con Try.prog (12 : Nat) [] [V.agg true [u8 kd, i64 pa, i32 lo, i32 hi, u32 ma, u32 wa, u8 rp, u8 ev, u8 lv, i64 un, vb en]] [] (vb true) ∧ True]) [(3, ⟨none, some ⟨vb true, [], []⟩⟩)] [0, 2, 4, 6, 7, 9, 25, 26, 27] [4, 9] (by kernel_rfl) ⟨(fun _ => ⟨(c1 ), trivial⟩), trivial⟩ ?_
          refine xe1 (os := [Con Try.prog 13 [] [V.agg true [u8 kd, i64 pa, i32 lo, i32 hi, u32 ma, u32 wa, u8 rp, u8 ev, u8 lv, i64 un, vb en]] [] (vb true), Con Try.prog 12 [] [V.agg true [u8 kd, i64 pa, i32 lo, i32 hi, u32 ma, u32 wa, u8 rp, u8 ev, u8 lv, i64 un, vb en]] [] (vb true)]) [(1, ⟨none, some ⟨vb true, [], []⟩⟩), (3, ⟨none, some ⟨vb true, [], []⟩⟩)] [0, 2, 4, 6, 7, 25, 26, 27, 40] [4] (by kernel_rfl) ⟨(c2 ), (c1 ), trivial⟩ ?_
          refine AWP.condF (by kernel_rfl) ?_
          refine AWP.skip ?_
          refine AWP.region tcok hmix [(0, ⟨some (i64 (p + 1)), none⟩)] (os := [i64 (IntKind.wrap IntKind.i64 (p + 1)) = i64 (p + 1)]) (sf := St.mk [(0, tp (V.vs Y m)), (2, tp (i64 i)), (4, tp (V.ptr 4 0)), (6, tp (vb false)), (7, tp (vb true)), (25, tp (V.vs Y m)), (26, tp (i64 (↑m : Int))), (27, tp (i64 (p + 1))), (40, tp (vb false)), (41, tp (i64 (p + 1)))] [(4, Blk.mk [u8 kd0, i64 pa0, i32 lo0, i32 hi0, u32 ma0, u32 wa0, u8 rp0, u8 ev0, u8 lv0, i64 un0, vb en0] true 11 none)]) (by kernel_rfl) ⟨(wr_i64 (by omega) (by omega)), trivial⟩ ?_
          refine ⟨St.mk [(0, tp (V.vs Y m)), (2, tp (i64 i)), (4, tp (V.ptr 4 0)), (6, tp (vb false)), (7, tp (vb true)), (25, tp (V.vs Y m)), (26, tp (i64 (↑m : Int))), (27, tp (i64 (p + 1)))] [(4, Blk.mk [u8 kd0, i64 pa0, i32 lo0, i32 hi0, u32 ma0, u32 wa0, u8 rp0, u8 ev0, u8 lv0, i64 un0, vb en0] true 11 none)], by kernel_rfl, ?_⟩
          (exact ⟨(m - (p + 1)).toNat, (by omega), p + 1, _, rfl, .inl ⟨rfl, h16, hnx⟩, (by omega), (by omega), (by omega)⟩)
        simp only [decide_eq_false_iff_not] at hq1
        (exfalso; omega)
      · have hnx : 16 < m ∨ m ≤ 16 ∧ ∃ j, j < (p + 1).toNat ∧ ¬ RR Y j ∧ ∀ k, k < j → RR Y k := hw.elim .inl fun ⟨h1, j, h2, h3⟩ => .inr ⟨h1, j, by omega, h3⟩
        refine xe0 [0, 2, 4, 6, 7, 25, 26, 27, 28] [4] (by kernel_rfl) ?_
        refine AWP.seq ?_
        refine AWP.cond (b := decide (p < (↑m : Int))) (by kernel_rfl) (fun hq3 => ?_) (fun hq3 => ?_)
        · simp only [decide_eq_true_eq] at hq3
          refine AWP.skip ?_
          refine AWP.seq ?_
          refine AWP.block ?_
          refine xe1 (os := [(0 : Int) ≤ p ∧ p < (↑m : Int), V.vp (List.drop (Int.toNat p * 11) Y) = V.vp (u8 kd :: i64 pa :: i32 lo :: i32 hi :: u32 ma :: u32 wa :: u8 rp :: u8 ev :: u8 lv :: i64 un :: vb en :: r)]) [(0, ⟨some (V.vp (u8 kd :: i64 pa :: i32 lo :: i32 hi :: u32 ma :: u32 wa :: u8 rp :: u8 ev :: u8 lv :: i64 un :: vb en :: r)), none⟩)] [0, 2, 4, 6, 7, 9, 25, 26, 27] [4, 9] (by kernel_rfl) ⟨(by omega), (congrArg V.vp kx), trivial⟩ ?_
          refine xe1 (os := [false = true → Con Try.prog (12 : Nat) [] [V.agg true [u8 kd, i64 pa, i32 lo, i32 hi, u32 ma, u32 wa, u8 rp, u8 ev, u8 lv, i64 un, vb en]] [] (vb true) ∧ True]) [(3, ⟨none, some ⟨vb true, [], []⟩⟩)] [0, 2, 4, 6, 7, 9, 25, 26, 27] [4, 9] (by kernel_rfl) ⟨(fun _ => ⟨(c1 ), trivial⟩), trivial⟩ ?_
          refine xe1 (os := [Con Try.prog 13 [] [V.agg true [u8 kd, i64 pa, i32 lo, i32 hi, u32 ma, u32 wa, u8 rp, u8 ev, u8 lv, i64 un, vb en]] [] (vb true), Con Try.prog 12 [] [V.agg true [u8 kd, i64 pa, i32 lo, i32 hi, u32 ma, u32 wa, u8 rp, u8 ev, u8 lv, i64 un, vb en]] [] (vb true)]) [(1, ⟨none, some ⟨vb true, [], []⟩⟩), (3, ⟨none, some ⟨vb true, [], []⟩⟩)] [0, 2, 4, 6, 7, 25, 26, 27, 40] [4] (by kernel_rfl) ⟨(c2 ), (c1 ), trivial⟩ ?_
          refine AWP.condF (by kernel_rfl) ?_
          refine AWP.skip ?_
          refine AWP.region tcok hmix [(0, ⟨some (i64 (p + 1)), none⟩)] (os := [i64 (IntKind.wrap IntKind.i64 (p + 1)) = i64 (p + 1)]) (sf := St.mk [(0, tp (V.vs Y m)), (2, tp (i64 i)), (4, tp (V.ptr 4 0)), (6, tp (vb false)), (7, tp (vb false)), (25, tp (V.vs Y m)), (26, tp (i64 (↑m : Int))), (27, tp (i64 (p + 1))), (40, tp (vb false)), (41, tp (i64 (p + 1)))] [(4, Blk.mk [u8 kd0, i64 pa0, i32 lo0, i32 hi0, u32 ma0, u32 wa0, u8 rp0, u8 ev0, u8 lv0, i64 un0, vb en0] true 11 none)]) (by kernel_rfl) ⟨(wr_i64 (by omega) (by omega)), trivial⟩ ?_
          refine ⟨St.mk [(0, tp (V.vs Y m)), (2, tp (i64 i)), (4, tp (V.ptr 4 0)), (6, tp (vb false)), (7, tp (vb false)), (25, tp (V.vs Y m)), (26, tp (i64 (↑m : Int))), (27, tp (i64 (p + 1)))] [(4, Blk.mk [u8 kd0, i64 pa0, i32 lo0, i32 hi0, u32 ma0, u32 wa0, u8 rp0, u8 ev0, u8 lv0, i64 un0, vb en0] true 11 none)], by kernel_rfl, ?_⟩
          (exact ⟨(m - (p + 1)).toNat, (by omega), p + 1, _, rfl, .inr ⟨rfl, hnx⟩, (by omega), (by omega), (by omega)⟩)
        simp only [decide_eq_false_iff_not] at hq3
        (exfalso; omega)
    | false =>
      rw [hb] at c1 c2
      have hR : ¬ RR Y p.toNat := rr_not kx hb
      rcases hq with ⟨rfl, h16, hall⟩ | ⟨rfl, hw⟩
      · have hnx : 16 < m ∨ m ≤ 16 ∧ ∃ j, j < (p + 1).toNat ∧ ¬ RR Y j ∧ ∀ k, k < j → RR Y k := .inr ⟨h16, p.toNat, by omega, hR, hall⟩
        refine xe0 [0, 2, 4, 6, 7, 25, 26, 27, 28] [4] (by kernel_rfl) ?_
        refine AWP.seq ?_
        refine AWP.cond (b := decide (p < (↑m : Int))) (by kernel_rfl) (fun hq5 => ?_) (fun hq5 => ?_)
        · simp only [decide_eq_true_eq] at hq5
          refine AWP.skip ?_
          refine AWP.seq ?_
          refine AWP.block ?_
          refine xe1 (os := [(0 : Int) ≤ p ∧ p < (↑m : Int), V.vp (List.drop (Int.toNat p * 11) Y) = V.vp (u8 kd :: i64 pa :: i32 lo :: i32 hi :: u32 ma :: u32 wa :: u8 rp :: u8 ev :: u8 lv :: i64 un :: vb en :: r)]) [(0, ⟨some (V.vp (u8 kd :: i64 pa :: i32 lo :: i32 hi :: u32 ma :: u32 wa :: u8 rp :: u8 ev :: u8 lv :: i64 un :: vb en :: r)), none⟩)] [0, 2, 4, 6, 7, 9, 25, 26, 27] [4, 9] (by kernel_rfl) ⟨(by omega), (congrArg V.vp kx), trivial⟩ ?_
          refine xe1 (os := [true = true → Con Try.prog (12 : Nat) [] [V.agg true [u8 kd, i64 pa, i32 lo, i32 hi, u32 ma, u32 wa, u8 rp, u8 ev, u8 lv, i64 un, vb en]] [] (vb false) ∧ True]) [(3, ⟨none, some ⟨vb false, [], []⟩⟩)] [0, 2, 4, 6, 7, 9, 25, 26, 27] [4, 9] (by kernel_rfl) ⟨(fun _ => ⟨(c1 ), trivial⟩), trivial⟩ ?_
          refine xe1 (os := [Con Try.prog 13 [] [V.agg true [u8 kd, i64 pa, i32 lo, i32 hi, u32 ma, u32 wa, u8 rp, u8 ev, u8 lv, i64 un, vb en]] [] (vb false), Con Try.prog 12 [] [V.agg true [u8 kd, i64 pa, i32 lo, i32 hi, u32 ma, u32 wa, u8 rp, u8 ev, u8 lv, i64 un, vb en]] [] (vb false)]) [(1, ⟨none, some ⟨vb false, [], []⟩⟩), (3, ⟨none, some ⟨vb false, [], []⟩⟩)] [0, 2, 4, 6, 7, 25, 26, 27, 40] [4] (by kernel_rfl) ⟨(c2 ), (c1 ), trivial⟩ ?_
          refine AWP.condF (by kernel_rfl) ?_
          refine AWP.skip ?_
          refine AWP.region tcok hmix [(0, ⟨some (i64 (p + 1)), none⟩)] (os := [i64 (IntKind.wrap IntKind.i64 (p + 1)) = i64 (p + 1)]) (sf := St.mk [(0, tp (V.vs Y m)), (2, tp (i64 i)), (4, tp (V.ptr 4 0)), (6, tp (vb false)), (7, tp (vb false)), (25, tp (V.vs Y m)), (26, tp (i64 (↑m : Int))), (27, tp (i64 (p + 1))), (40, tp (vb false)), (41, tp (i64 (p + 1)))] [(4, Blk.mk [u8 kd0, i64 pa0, i32 lo0, i32 hi0, u32 ma0, u32 wa0, u8 rp0, u8 ev0, u8 lv0, i64 un0, vb en0] true 11 none)]) (by kernel_rfl) ⟨(wr_i64 (by omega) (by omega)), trivial⟩ ?_
          refine ⟨St.mk [(0, tp (V.vs Y m)), (2, tp (i64 i)), (4, tp (V.ptr 4 0)), (6, tp (vb false)), (7, tp (vb false)), (25, tp (V.vs Y m)), (26, tp (i64 (↑m : Int))), (27, tp (i64 (p + 1)))] [(4, Blk.mk [u8 kd0, i64 pa0, i32 lo0, i32 hi0, u32 ma0, u32 wa0, u8 rp0, u8 ev0, u8 lv0, i64 un0, vb en0] true 11 none)], by kernel_rfl, ?_⟩
          (exact ⟨(m - (p + 1)).toNat, (by omega), p + 1, _, rfl, .inr ⟨rfl, hnx⟩, (by omega), (by omega), (by omega)⟩)
        simp only [decide_eq_false_iff_not] at hq5
        (exfalso; omega)
      · have hnx : 16 < m ∨ m ≤ 16 ∧ ∃ j, j < (p + 1).toNat ∧ ¬ RR Y j ∧ ∀ k, k < j → RR Y k := hw.elim .inl fun ⟨h1, j, h2, h3⟩ => .inr ⟨h1, j, by omega, h3⟩
        refine xe0 [0, 2, 4, 6, 7, 25, 26, 27, 28] [4] (by kernel_rfl) ?_
        refine AWP.seq ?_
        refine AWP.cond (b := decide (p < (↑m : Int))) (by kernel_rfl) (fun hq7 => ?_) (fun hq7 => ?_)
        · simp only [decide_eq_true_eq] at hq7
          refine AWP.skip ?_
          refine AWP.seq ?_
          refine AWP.block ?_
          refine xe1 (os := [(0 : Int) ≤ p ∧ p < (↑m : Int), V.vp (List.drop (Int.toNat p * 11) Y) = V.vp (u8 kd :: i64 pa :: i32 lo :: i32 hi :: u32 ma :: u32 wa :: u8 rp :: u8 ev :: u8 lv :: i64 un :: vb en :: r)]) [(0, ⟨some (V.vp (u8 kd :: i64 pa :: i32 lo :: i32 hi :: u32 ma :: u32 wa :: u8 rp :: u8 ev :: u8 lv :: i64 un :: vb en :: r)), none⟩)] [0, 2, 4, 6, 7, 9, 25, 26, 27] [4, 9] (by kernel_rfl) ⟨(by omega), (congrArg V.vp kx), trivial⟩ ?_
          refine xe1 (os := [false = true → Con Try.prog (12 : Nat) [] [V.agg true [u8 kd, i64 pa, i32 lo, i32 hi, u32 ma, u32 wa, u8 rp, u8 ev, u8 lv, i64 un, vb en]] [] (vb false) ∧ True]) [(3, ⟨none, some ⟨vb false, [], []⟩⟩)] [0, 2, 4, 6, 7, 9, 25, 26, 27] [4, 9] (by kernel_rfl) ⟨(fun _ => ⟨(c1 ), trivial⟩), trivial⟩ ?_
          refine xe1 (os := [Con Try.prog 13 [] [V.agg true [u8 kd, i64 pa, i32 lo, i32 hi, u32 ma, u32 wa, u8 rp, u8 ev, u8 lv, i64 un, vb en]] [] (vb false), Con Try.prog 12 [] [V.agg true [u8 kd, i64 pa, i32 lo, i32 hi, u32 ma, u32 wa, u8 rp, u8 ev, u8 lv, i64 un, vb en]] [] (vb false)]) [(1, ⟨none, some ⟨vb false, [], []⟩⟩), (3, ⟨none, some ⟨vb false, [], []⟩⟩)] [0, 2, 4, 6, 7, 25, 26, 27, 40] [4] (by kernel_rfl) ⟨(c2 ), (c1 ), trivial⟩ ?_
          refine AWP.condF (by kernel_rfl) ?_
          refine AWP.skip ?_
          refine AWP.region tcok hmix [(0, ⟨some (i64 (p + 1)), none⟩)] (os := [i64 (IntKind.wrap IntKind.i64 (p + 1)) = i64 (p + 1)]) (sf := St.mk [(0, tp (V.vs Y m)), (2, tp (i64 i)), (4, tp (V.ptr 4 0)), (6, tp (vb false)), (7, tp (vb false)), (25, tp (V.vs Y m)), (26, tp (i64 (↑m : Int))), (27, tp (i64 (p + 1))), (40, tp (vb false)), (41, tp (i64 (p + 1)))] [(4, Blk.mk [u8 kd0, i64 pa0, i32 lo0, i32 hi0, u32 ma0, u32 wa0, u8 rp0, u8 ev0, u8 lv0, i64 un0, vb en0] true 11 none)]) (by kernel_rfl) ⟨(wr_i64 (by omega) (by omega)), trivial⟩ ?_
          refine ⟨St.mk [(0, tp (V.vs Y m)), (2, tp (i64 i)), (4, tp (V.ptr 4 0)), (6, tp (vb false)), (7, tp (vb false)), (25, tp (V.vs Y m)), (26, tp (i64 (↑m : Int))), (27, tp (i64 (p + 1)))] [(4, Blk.mk [u8 kd0, i64 pa0, i32 lo0, i32 hi0, u32 ma0, u32 wa0, u8 rp0, u8 ev0, u8 lv0, i64 un0, vb en0] true 11 none)], by kernel_rfl, ?_⟩
          (exact ⟨(m - (p + 1)).toNat, (by omega), p + 1, _, rfl, .inr ⟨rfl, hnx⟩, (by omega), (by omega), (by omega)⟩)
        simp only [decide_eq_false_iff_not] at hq7
        (exfalso; omega)
  have hpm : p = m := by omega
  subst hpm
  rw [Int.toNat_natCast] at hq
  have g1 := con_rright kd0 pa0 lo0 hi0 ma0 wa0 rp0 ev0 lv0 un0 en0
  have g2 := con_mrightg kd0 pa0 lo0 hi0 ma0 wa0 rp0 ev0 lv0 un0 en0
  generalize mrt kd0 pa0 lo0 hi0 rp0 lv0 un0 = b0 at g1 g2
  rcases hq with ⟨rfl, h16, hall⟩ | ⟨rfl, hw⟩
  · have hrl : ∀ r ∈ rowsOf Y m, r.length = 11 := fun r hr => by
      unfold rowsOf at hr
      obtain ⟨j, hj, rfl⟩ := List.mem_map.1 hr
      obtain ⟨kd, pa, lo, hi, ma, wa, rp, ev, lv, un, en, q, kx, _⟩ := hall j (List.mem_range.1 hj)
      rw [kx]
      rfl
    have hro : (rowsOf Y m).length = m := by simp [rowsOf]
    have d1 := con_newg Y m h16 hall
    have hM : (mcells (rowsOf Y m) m).length = 257 := mcells_len hrl (by omega)
    have hM2 : gI (mcells (rowsOf Y m) m) 256 = i64 (m : Int) := mcells_last hrl (by omega)
    have d2 := con_lenlen _ _ hM hM2
    have d3 := con_stat_n _ _ i hM hM2 (by omega)
    have d4 := con_rule_n _ _ i hM hM2 (by omega)
    by_cases hi : 0 ≤ i ∧ i < m
    · obtain ⟨kd, pa, lo, hi', ma, wa, rp, ev, lv, un, en, r, kx, _⟩ := hall i.toNat (by omega)
      have hrow : (rowsOf Y m)[i.toNat]? = some [u8 kd, i64 pa, i32 lo, i32 hi', u32 ma, u32 wa, u8 rp, u8 ev, u8 lv, i64 un, vb en] := by
        unfold rowsOf
        rw [List.getElem?_map, List.getElem?_range (by omega), Option.map_some, kx]
        rfl
      obtain ⟨r2, kz⟩ := mcells_drop (n := m) hrl i.toNat _ hrow
      have d5 := con_rule_y _ _ i kd pa lo hi' ma wa rp ev lv un en r2 hM hM2 (by omega) hi kz
      clear d3 d4
      have hd : (decide (i ≥ 0) && decide (i < (m : Int))) = true := by (simp; omega)
      generalize mcells (rowsOf Y m) m = M at *
      refine xe0 [0, 2, 4, 6, 7, 25, 26, 27, 28] [4] (by kernel_rfl) ?_
      refine AWP.seq ?_
      refine AWP.cond (b := decide ((↑m : Int) < (↑m : Int))) (by kernel_rfl) (fun hq9 => ?_) (fun hq9 => ?_)
      · simp only [decide_eq_true_eq] at hq9
        (exfalso; omega)
      simp only [decide_eq_false_iff_not] at hq9
      refine AWP.exit ?_
      refine xe1 (os := [Con Try.prog 14 [] [V.vs Y m] [] (V.tup [V.agg true M, i64 0]), List.length M = (257 : Nat), (0 : Nat) = (0 : Nat)]) [(1, ⟨none, some ⟨V.tup [V.agg true M, i64 0], [], []⟩⟩), (6, ⟨some V.top, none⟩)] [0, 2, 4, 6, 7, 10, 11] [4, 10] (by kernel_rfl) ⟨(d1 ), (by omega), (by omega), trivial⟩ ?_
      refine AWP.seq ?_
      refine xe1 (os := [true = false → false = true → false = false → Con Try.prog (15 : Nat) [] [V.agg true M] [] (i64 (↑m : Int)) ∧ True]) [(12, ⟨none, some ⟨i64 (↑m : Int), [], []⟩⟩)] [0, 2, 4, 6, 10, 63] [4, 10] (by kernel_rfl) ⟨(fun _ _ _ => ⟨(d2 ), trivial⟩), trivial⟩ ?_
      refine AWP.condF (by kernel_rfl) ?_
      refine AWP.skip ?_
      refine xe1 (os := [Con Try.prog 16 [] [V.agg true M, i64 i] [] (V.tup [V.agg true [u8 kd, i64 pa, i32 lo, i32 hi', u32 ma, u32 wa, u8 rp, u8 ev, u8 lv, i64 un, vb en], vb true])]) [(2, ⟨none, some ⟨V.tup [V.agg true [u8 kd, i64 pa, i32 lo, i32 hi', u32 ma, u32 wa, u8 rp, u8 ev, u8 lv, i64 un, vb en], vb true], [], []⟩⟩)] [0, 2, 4, 6, 10, 12, 13] [4, 10, 12] (by kernel_rfl) ⟨(d5 ), trivial⟩ ?_
      refine xe1 (os := [decide (i ≥ (0 : Int)) = true → Con Try.prog (15 : Nat) [] [V.agg true M] [] (i64 (↑m : Int)) ∧ True]) [(5, ⟨none, some ⟨i64 (↑m : Int), [], []⟩⟩)] [0, 2, 4, 6, 10, 12, 13, 14] [4, 10, 12] (by kernel_rfl) ⟨(fun _ => ⟨(d2 ), trivial⟩), trivial⟩ ?_
      refine xe1 (os := [(!(decide (i ≥ (0 : Int)) && decide (i < (↑m : Int)))) = false → bl true (true == (decide (i ≥ (0 : Int)) && decide (i < (↑m : Int)))) = true → ((0 : Int) ≤ i ∧ i < (↑m : Int)) ∧ V.vp (List.drop (Int.toNat i * (11 : Nat)) Y) = V.vp (u8 kd :: i64 pa :: i32 lo :: i32 hi' :: u32 ma :: u32 wa :: u8 rp :: u8 ev :: u8 lv :: i64 un :: vb en :: r) ∧ True, bl true (kd == (0 : Int) && (pa == (0 : Int) && (lo == (0 : Int) && (hi' == (0 : Int) && (ma == (0 : Int) && (wa == (0 : Int) && true))))) && (rp == (0 : Int) && (ev == (0 : Int) && (lv == (0 : Int) && (un == (0 : Int) && (en == false && true)))))) = true → (decide (i ≥ (0 : Int)) && decide (i < (↑m : Int))) = false → (bl true (true == (decide (i ≥ (0 : Int)) && decide (i < (↑m : Int)))) && (!(decide (i ≥ (0 : Int)) && decide (i < (↑m : Int))) || bl true (kd == kd && (pa == pa && (lo == lo && (hi' == hi' && (ma == ma && (wa == wa && true))))) && (rp == rp && (ev == ev && (lv == lv && (un == un && (en == en && true)))))))) = true → False, (bl true (true == (decide (i ≥ (0 : Int)) && decide (i < (↑m : Int)))) && (!(decide (i ≥ (0 : Int)) && decide (i < (↑m : Int))) || bl true (kd == kd && (pa == pa && (lo == lo && (hi' == hi' && (ma == ma && (wa == wa && true))))) && (rp == rp && (ev == ev && (lv == lv && (un == un && (en == en && true))))))) && (decide (i ≥ (0 : Int)) && decide (i < (↑m : Int)) || bl true (kd == (0 : Int) && (pa == (0 : Int) && (lo == (0 : Int) && (hi' == (0 : Int) && (ma == (0 : Int) && (wa == (0 : Int) && true))))) && (rp == (0 : Int) && (ev == (0 : Int) && (lv == (0 : Int) && (un == (0 : Int) && (en == false && true)))))) && true)) = true → Con Try.prog (13 : Nat) [] [V.agg true [u8 kd0, i64 pa0, i32 lo0, i32 hi0, u32 ma0, u32 wa0, u8 rp0, u8 ev0, u8 lv0, i64 un0, vb en0]] [] (vb b0) ∧ True, (bl true (true == (decide (i ≥ (0 : Int)) && decide (i < (↑m : Int)))) && (!(decide (i ≥ (0 : Int)) && decide (i < (↑m : Int))) || bl true (kd == kd && (pa == pa && (lo == lo && (hi' == hi' && (ma == ma && (wa == wa && true))))) && (rp == rp && (ev == ev && (lv == lv && (un == un && (en == en && true))))))) && (decide (i ≥ (0 : Int)) && decide (i < (↑m : Int)) || bl true (kd == (0 : Int) && (pa == (0 : Int) && (lo == (0 : Int) && (hi' == (0 : Int) && (ma == (0 : Int) && (wa == (0 : Int) && true))))) && (rp == (0 : Int) && (ev == (0 : Int) && (lv == (0 : Int) && (un == (0 : Int) && (en == false && true)))))) && true)) = true → Con Try.prog (12 : Nat) [] [V.agg true [u8 kd0, i64 pa0, i32 lo0, i32 hi0, u32 ma0, u32 wa0, u8 rp0, u8 ev0, u8 lv0, i64 un0, vb en0]] [] (vb b0) ∧ True]) [(10, ⟨some (V.vp (u8 kd :: i64 pa :: i32 lo :: i32 hi' :: u32 ma :: u32 wa :: u8 rp :: u8 ev :: u8 lv :: i64 un :: vb en :: r)), none⟩), (24, ⟨some (V.tup [u8 0]), none⟩), (31, ⟨none, some ⟨vb b0, [], []⟩⟩), (33, ⟨none, some ⟨vb b0, [], []⟩⟩)] [6] [] (by kernel_rfl) ⟨(by intro hc0 hc1; first | (cases hc0; done) | ((try simp only [Bool.or_false, Bool.false_or, Bool.true_and, Bool.and_true, decide_eq_true_eq, decide_eq_false_iff_not, Bool.and_eq_true, Bool.or_eq_true, Bool.or_eq_false_iff, Bool.not_eq_true', Bool.and_eq_false_iff, beq_iff_eq, bne_iff_ne, bne_eq_false_iff_eq, beq_eq_false_iff_ne, Bool.not_eq_false'] at hc0 hc1); exact ⟨(by omega), (congrArg V.vp kx), trivial⟩)), (by (intro hc0 hc1 hc2; first | (cases hc0; done) | (exfalso; simp_all; done) | ((try simp only [Bool.or_false, Bool.false_or, Bool.true_and, Bool.and_true, decide_eq_true_eq, decide_eq_false_iff_not, Bool.and_eq_true, Bool.or_eq_true, Bool.or_eq_false_iff, Bool.not_eq_true', Bool.and_eq_false_iff, beq_iff_eq, bne_iff_ne, bne_eq_false_iff_eq, beq_eq_false_iff_ne, Bool.not_eq_false'] at hc0 hc1 hc2); omega))), (fun _ => ⟨(g2 ), trivial⟩), (fun _ => ⟨(g1 ), trivial⟩), trivial⟩ ?_
      refine AWP.ret ?_
      refine ⟨Or.inr rfl, Eq.trans (b := some ([], vb (bl true (true == (decide (i ≥ 0) && decide (i < (↑m : Int)))) && (!(decide (i ≥ 0) && decide (i < (↑m : Int))) || bl true (kd == kd && (pa == pa && (lo == lo && (hi' == hi' && (ma == ma && (wa == wa && true))))) && (rp == rp && (ev == ev && (lv == lv && (un == un && (en == en && true))))))) && (decide (i ≥ 0) && decide (i < (↑m : Int)) || bl true (kd == 0 && (pa == 0 && (lo == 0 && (hi' == 0 && (ma == 0 && (wa == 0 && true))))) && (rp == 0 && (ev == 0 && (lv == 0 && (un == 0 && (en == false && true)))))) && true) && bl true (b0 == b0)))) (by kernel_rfl) ?_⟩
      first | rfl | (simp only [hd]; simp [bl]; done) | (simp; done) | (simp [bl]; done) | (simp [bl, z11, z5]; done) | (exfalso; omega) | (exfalso; simp [bl] at hq9; done)
    · have d3' := d3 hi
      have d4' := d4 hi
      clear d3 d4
      have hd : (decide (i ≥ 0) && decide (i < (m : Int))) = false := by (simp; omega)
      generalize mcells (rowsOf Y m) m = M at *
      refine xe0 [0, 2, 4, 6, 7, 25, 26, 27, 28] [4] (by kernel_rfl) ?_
      refine AWP.seq ?_
      refine AWP.cond (b := decide ((↑m : Int) < (↑m : Int))) (by kernel_rfl) (fun hq11 => ?_) (fun hq11 => ?_)
      · simp only [decide_eq_true_eq] at hq11
        (exfalso; omega)
      simp only [decide_eq_false_iff_not] at hq11
      refine AWP.exit ?_
      refine xe1 (os := [Con Try.prog 14 [] [V.vs Y m] [] (V.tup [V.agg true M, i64 0]), List.length M = (257 : Nat), (0 : Nat) = (0 : Nat)]) [(1, ⟨none, some ⟨V.tup [V.agg true M, i64 0], [], []⟩⟩), (6, ⟨some V.top, none⟩)] [0, 2, 4, 6, 7, 10, 11] [4, 10] (by kernel_rfl) ⟨(d1 ), (by omega), (by omega), trivial⟩ ?_
      refine AWP.seq ?_
      refine xe1 (os := [true = false → false = true → false = false → Con Try.prog (15 : Nat) [] [V.agg true M] [] (i64 (↑m : Int)) ∧ True]) [(12, ⟨none, some ⟨i64 (↑m : Int), [], []⟩⟩)] [0, 2, 4, 6, 10, 63] [4, 10] (by kernel_rfl) ⟨(fun _ _ _ => ⟨(d2 ), trivial⟩), trivial⟩ ?_
      refine AWP.condF (by kernel_rfl) ?_
      refine AWP.skip ?_
      refine xe1 (os := [Con Try.prog 16 [] [V.agg true M, i64 i] [] (V.tup [V.agg true [u8 0, i64 0, i32 0, i32 0, u32 0, u32 0, u8 0, u8 0, u8 0, i64 0, vb false], vb false])]) [(2, ⟨none, some ⟨V.tup [V.agg true z11, vb false], [], []⟩⟩)] [0, 2, 4, 6, 10, 12, 13] [4, 10, 12] (by kernel_rfl) ⟨(d4' ), trivial⟩ ?_
      refine xe1 (os := [decide (i ≥ (0 : Int)) = true → Con Try.prog (15 : Nat) [] [V.agg true M] [] (i64 (↑m : Int)) ∧ True]) [(5, ⟨none, some ⟨i64 (↑m : Int), [], []⟩⟩)] [0, 2, 4, 6, 10, 12, 13, 14] [4, 10, 12] (by kernel_rfl) ⟨(fun _ => ⟨(d2 ), trivial⟩), trivial⟩ ?_
      refine xe1 (os := [(!(decide (i ≥ (0 : Int)) && decide (i < (↑m : Int)))) = false → bl true (false == (decide (i ≥ (0 : Int)) && decide (i < (↑m : Int)))) = true → ((0 : Int) ≤ i ∧ i < (↑m : Int)) ∧ V.vp (List.drop (Int.toNat i * (11 : Nat)) Y) = V.vp (List.drop (Int.toNat i * (11 : Nat)) Y) ∧ True, (!(decide (i ≥ (0 : Int)) && decide (i < (↑m : Int)))) = false → bl true (false == (decide (i ≥ (0 : Int)) && decide (i < (↑m : Int)))) = true → (11 : Nat) ≤ List.length (List.drop (Int.toNat i * (11 : Nat)) Y) ∧ V.agg true (List.take (11 : Nat) (List.drop (0 : Nat) (List.drop (Int.toNat i * (11 : Nat)) Y))) = V.agg true (List.take (11 : Nat) (List.drop (0 : Nat) (List.drop (Int.toNat i * (11 : Nat)) Y))) ∧ True, (!(decide (i ≥ (0 : Int)) && decide (i < (↑m : Int)))) = false → bl true (false == (decide (i ≥ (0 : Int)) && decide (i < (↑m : Int)))) = true → False, true = true → (decide (i ≥ (0 : Int)) && decide (i < (↑m : Int))) = false → (bl true (false == (decide (i ≥ (0 : Int)) && decide (i < (↑m : Int)))) && (!(decide (i ≥ (0 : Int)) && decide (i < (↑m : Int))) || false)) = true → Con Try.prog (17 : Nat) [] [V.agg true M, i64 i] [] (u8 (0 : Int)) ∧ True, (bl true (false == (decide (i ≥ (0 : Int)) && decide (i < (↑m : Int)))) && (!(decide (i ≥ (0 : Int)) && decide (i < (↑m : Int))) || false) && (decide (i ≥ (0 : Int)) && decide (i < (↑m : Int)) || true)) = true → Con Try.prog (13 : Nat) [] [V.agg true [u8 kd0, i64 pa0, i32 lo0, i32 hi0, u32 ma0, u32 wa0, u8 rp0, u8 ev0, u8 lv0, i64 un0, vb en0]] [] (vb b0) ∧ True, (bl true (false == (decide (i ≥ (0 : Int)) && decide (i < (↑m : Int)))) && (!(decide (i ≥ (0 : Int)) && decide (i < (↑m : Int))) || false) && (decide (i ≥ (0 : Int)) && decide (i < (↑m : Int)) || true)) = true → Con Try.prog (12 : Nat) [] [V.agg true [u8 kd0, i64 pa0, i32 lo0, i32 hi0, u32 ma0, u32 wa0, u8 rp0, u8 ev0, u8 lv0, i64 un0, vb en0]] [] (vb b0) ∧ True]) [(10, ⟨some (V.vp (List.drop (Int.toNat i * 11) Y)), none⟩), (11, ⟨some (V.agg true (List.take 11 (List.drop 0 (List.drop (Int.toNat i * 11) Y)))), none⟩), (12, ⟨some (V.tup [vb false]), none⟩), (24, ⟨none, some ⟨u8 0, [], []⟩⟩), (31, ⟨none, some ⟨vb b0, [], []⟩⟩), (33, ⟨none, some ⟨vb b0, [], []⟩⟩)] [6] [] (by kernel_rfl) ⟨(by intro hc0 hc1; first | (cases hc0; done) | ((try simp only [Bool.or_false, Bool.false_or, Bool.true_and, Bool.and_true, decide_eq_true_eq, decide_eq_false_iff_not, Bool.and_eq_true, Bool.or_eq_true, Bool.or_eq_false_iff, Bool.not_eq_true', Bool.and_eq_false_iff, beq_iff_eq, bne_iff_ne, bne_eq_false_iff_eq, beq_eq_false_iff_ne, Bool.not_eq_false'] at hc0 hc1); exact ⟨(by first | omega | (simp [len_u8s]; omega) | (simp [len_u8s]; done)), rfl, trivial⟩)), (by intro hc0 hc1; first | (cases hc0; done) | ((try simp only [Bool.or_false, Bool.false_or, Bool.true_and, Bool.and_true, decide_eq_true_eq, decide_eq_false_iff_not, Bool.and_eq_true, Bool.or_eq_true, Bool.or_eq_false_iff, Bool.not_eq_true', Bool.and_eq_false_iff, beq_iff_eq, bne_iff_ne, bne_eq_false_iff_eq, beq_eq_false_iff_ne, Bool.not_eq_false'] at hc0 hc1); exact ⟨(by first | omega | (simp [len_u8s]; omega) | (simp [len_u8s]; done)), rfl, trivial⟩)), (by (intro hc0 hc1; first | (cases hc0; done) | (exfalso; simp_all; done) | ((try simp only [Bool.or_false, Bool.false_or, Bool.true_and, Bool.and_true, decide_eq_true_eq, decide_eq_false_iff_not, Bool.and_eq_true, Bool.or_eq_true, Bool.or_eq_false_iff, Bool.not_eq_true', Bool.and_eq_false_iff, beq_iff_eq, bne_iff_ne, bne_eq_false_iff_eq, beq_eq_false_iff_ne, Bool.not_eq_false'] at hc0 hc1); omega))), (fun _ _ _ => ⟨(d3' ), trivial⟩), (fun _ => ⟨(g2 ), trivial⟩), (fun _ => ⟨(g1 ), trivial⟩), trivial⟩ ?_
      refine AWP.ret ?_
      refine ⟨Or.inr rfl, Eq.trans (b := some ([], vb (bl true (false == (decide (i ≥ 0) && decide (i < (↑m : Int)))) && (!(decide (i ≥ 0) && decide (i < (↑m : Int))) || false) && (decide (i ≥ 0) && decide (i < (↑m : Int)) || true) && bl true (b0 == b0)))) (by kernel_rfl) ?_⟩
      first | rfl | (simp only [hd]; simp [bl]; done) | (simp; done) | (simp [bl]; done) | (simp [bl, z11, z5]; done) | (exfalso; omega) | (exfalso; simp [bl] at hq11; done)
  · have d1 : Con Try.prog 14 [] [.vs Y m] [] (.tup [.agg true (mcells [] 0), i64 1]) := by
      rcases hw with h17 | ⟨h16, j, hj, hj2, hj3⟩
      · exact con_newl Y m h17 (by omega)
      · refine con_newx Y m j h16 hj fun k hk => ?_
        obtain ⟨kd, pa, lo, hi, ma, wa, rp, ev, lv, un, en, r, kx⟩ := hx k hk
        refine ⟨kd, pa, lo, hi, ma, wa, rp, ev, lv, un, en, r, kx, fun hkj => ?_, fun hkj => ?_⟩
        · cases hb : mrt kd pa lo hi rp lv un with
          | true => rfl
          | false => exact absurd (hj3 k hkj) (rr_not kx hb)
        · cases hb : mrt kd pa lo hi rp lv un with
          | false => rfl
          | true => exact absurd ⟨kd, pa, lo, hi, ma, wa, rp, ev, lv, un, en, r, kx, hb⟩ (hkj ▸ hj2)
    have hM : (mcells [] 0).length = 257 := mcells_len (fun r hr => by cases hr) (by simp)
    have hM2 : gI (mcells [] 0) 256 = i64 0 := mcells_last (fun r hr => by cases hr) (by simp)
    have d2 := con_lenlen _ _ hM hM2
    have d3 := con_stat_n _ _ i hM hM2 (by omega) (by omega)
    have d4 := con_rule_n _ _ i hM hM2 (by omega) (by omega)
    have hd : (decide (i ≥ 0) && decide (i < 0)) = false := by simp
    generalize mcells [] 0 = M at *
    refine xe0 [0, 2, 4, 6, 7, 25, 26, 27, 28] [4] (by kernel_rfl) ?_
    refine AWP.seq ?_
    refine AWP.cond (b := decide ((↑m : Int) < (↑m : Int))) (by kernel_rfl) (fun hq13 => ?_) (fun hq13 => ?_)
    · simp only [decide_eq_true_eq] at hq13
      (exfalso; omega)
    simp only [decide_eq_false_iff_not] at hq13
    refine AWP.exit ?_
    refine xe1 (os := [Con Try.prog 14 [] [V.vs Y m] [] (V.tup [V.agg true M, i64 1]), List.length M = (257 : Nat), (0 : Nat) = (0 : Nat)]) [(1, ⟨none, some ⟨V.tup [V.agg true M, i64 1], [], []⟩⟩), (6, ⟨some V.top, none⟩)] [0, 2, 4, 6, 7, 10, 11] [4, 10] (by kernel_rfl) ⟨(d1 ), (by omega), (by omega), trivial⟩ ?_
    refine AWP.seq ?_
    refine xe1 (os := [false = false → true = true → false = false → Con Try.prog (15 : Nat) [] [V.agg true M] [] (i64 (0 : Int)) ∧ True]) [(12, ⟨none, some ⟨i64 0, [], []⟩⟩)] [0, 2, 4, 6, 10, 63] [4, 10] (by kernel_rfl) ⟨(fun _ _ _ => ⟨(d2 ), trivial⟩), trivial⟩ ?_
    refine AWP.condF (by kernel_rfl) ?_
    refine AWP.skip ?_
    refine xe1 (os := [Con Try.prog 16 [] [V.agg true M, i64 i] [] (V.tup [V.agg true [u8 0, i64 0, i32 0, i32 0, u32 0, u32 0, u8 0, u8 0, u8 0, i64 0, vb false], vb false])]) [(2, ⟨none, some ⟨V.tup [V.agg true z11, vb false], [], []⟩⟩)] [0, 2, 4, 6, 10, 12, 13] [4, 10, 12] (by kernel_rfl) ⟨(d4 ), trivial⟩ ?_
    refine xe1 (os := [decide (i ≥ (0 : Int)) = true → Con Try.prog (15 : Nat) [] [V.agg true M] [] (i64 (0 : Int)) ∧ True]) [(5, ⟨none, some ⟨i64 0, [], []⟩⟩)] [0, 2, 4, 6, 10, 12, 13, 14] [4, 10, 12] (by kernel_rfl) ⟨(fun _ => ⟨(d2 ), trivial⟩), trivial⟩ ?_
    refine xe1 (os := [(!(decide (i ≥ (0 : Int)) && decide (i < (0 : Int)))) = false → bl true (false == (decide (i ≥ (0 : Int)) && decide (i < (0 : Int)))) = true → ((0 : Int) ≤ i ∧ i < (↑m : Int)) ∧ V.vp (List.drop (Int.toNat i * (11 : Nat)) Y) = V.vp (List.drop (Int.toNat i * (11 : Nat)) Y) ∧ True, (!(decide (i ≥ (0 : Int)) && decide (i < (0 : Int)))) = false → bl true (false == (decide (i ≥ (0 : Int)) && decide (i < (0 : Int)))) = true → (11 : Nat) ≤ List.length (List.drop (Int.toNat i * (11 : Nat)) Y) ∧ V.agg true (List.take (11 : Nat) (List.drop (0 : Nat) (List.drop (Int.toNat i * (11 : Nat)) Y))) = V.agg true (List.take (11 : Nat) (List.drop (0 : Nat) (List.drop (Int.toNat i * (11 : Nat)) Y))) ∧ True, (!(decide (i ≥ (0 : Int)) && decide (i < (0 : Int)))) = false → bl true (false == (decide (i ≥ (0 : Int)) && decide (i < (0 : Int)))) = true → False, true = true → (decide (i ≥ (0 : Int)) && decide (i < (0 : Int))) = false → (bl true (false == (decide (i ≥ (0 : Int)) && decide (i < (0 : Int)))) && (!(decide (i ≥ (0 : Int)) && decide (i < (0 : Int))) || false)) = true → Con Try.prog (17 : Nat) [] [V.agg true M, i64 i] [] (u8 (0 : Int)) ∧ True, (bl true (false == (decide (i ≥ (0 : Int)) && decide (i < (0 : Int)))) && (!(decide (i ≥ (0 : Int)) && decide (i < (0 : Int))) || false) && (decide (i ≥ (0 : Int)) && decide (i < (0 : Int)) || true)) = true → Con Try.prog (13 : Nat) [] [V.agg true [u8 kd0, i64 pa0, i32 lo0, i32 hi0, u32 ma0, u32 wa0, u8 rp0, u8 ev0, u8 lv0, i64 un0, vb en0]] [] (vb b0) ∧ True, (bl true (false == (decide (i ≥ (0 : Int)) && decide (i < (0 : Int)))) && (!(decide (i ≥ (0 : Int)) && decide (i < (0 : Int))) || false) && (decide (i ≥ (0 : Int)) && decide (i < (0 : Int)) || true)) = true → Con Try.prog (12 : Nat) [] [V.agg true [u8 kd0, i64 pa0, i32 lo0, i32 hi0, u32 ma0, u32 wa0, u8 rp0, u8 ev0, u8 lv0, i64 un0, vb en0]] [] (vb b0) ∧ True]) [(10, ⟨some (V.vp (List.drop (Int.toNat i * 11) Y)), none⟩), (11, ⟨some (V.agg true (List.take 11 (List.drop 0 (List.drop (Int.toNat i * 11) Y)))), none⟩), (12, ⟨some (V.tup [vb false]), none⟩), (24, ⟨none, some ⟨u8 0, [], []⟩⟩), (31, ⟨none, some ⟨vb b0, [], []⟩⟩), (33, ⟨none, some ⟨vb b0, [], []⟩⟩)] [6] [] (by kernel_rfl) ⟨(by intro hc0 hc1; first | (cases hc0; done) | ((try simp only [Bool.or_false, Bool.false_or, Bool.true_and, Bool.and_true, decide_eq_true_eq, decide_eq_false_iff_not, Bool.and_eq_true, Bool.or_eq_true, Bool.or_eq_false_iff, Bool.not_eq_true', Bool.and_eq_false_iff, beq_iff_eq, bne_iff_ne, bne_eq_false_iff_eq, beq_eq_false_iff_ne, Bool.not_eq_false'] at hc0 hc1); exact ⟨(by first | omega | (simp [len_u8s]; omega) | (simp [len_u8s]; done)), rfl, trivial⟩)), (by intro hc0 hc1; first | (cases hc0; done) | ((try simp only [Bool.or_false, Bool.false_or, Bool.true_and, Bool.and_true, decide_eq_true_eq, decide_eq_false_iff_not, Bool.and_eq_true, Bool.or_eq_true, Bool.or_eq_false_iff, Bool.not_eq_true', Bool.and_eq_false_iff, beq_iff_eq, bne_iff_ne, bne_eq_false_iff_eq, beq_eq_false_iff_ne, Bool.not_eq_false'] at hc0 hc1); exact ⟨(by first | omega | (simp [len_u8s]; omega) | (simp [len_u8s]; done)), rfl, trivial⟩)), (by (intro hc0 hc1; first | (cases hc0; done) | (exfalso; simp_all; done) | ((try simp only [Bool.or_false, Bool.false_or, Bool.true_and, Bool.and_true, decide_eq_true_eq, decide_eq_false_iff_not, Bool.and_eq_true, Bool.or_eq_true, Bool.or_eq_false_iff, Bool.not_eq_true', Bool.and_eq_false_iff, beq_iff_eq, bne_iff_ne, bne_eq_false_iff_eq, beq_eq_false_iff_ne, Bool.not_eq_false'] at hc0 hc1); omega))), (fun _ _ _ => ⟨(d3 ), trivial⟩), (fun _ => ⟨(g2 ), trivial⟩), (fun _ => ⟨(g1 ), trivial⟩), trivial⟩ ?_
    refine AWP.ret ?_
    refine ⟨Or.inr rfl, Eq.trans (b := some ([], vb (bl true (false == (decide (i ≥ 0) && decide (i < 0))) && (!(decide (i ≥ 0) && decide (i < 0)) || false) && (decide (i ≥ 0) && decide (i < 0) || true) && bl true (b0 == b0)))) (by kernel_rfl) ?_⟩
    first | rfl | (simp only [hd]; simp [bl]; done) | (simp; done) | (simp [bl]; done) | (simp [bl, z11, z5]; done) | (exfalso; omega) | (exfalso; simp [bl] at hq13; done)
theorem flat_len {rows : List (List V)} (h : ∀ r ∈ rows, r.length = 11) : rows.flatten.length = rows.length * 11 := by
  induction rows with
  | nil => rfl
  | cons r t ih =>
    rw [List.flatten_cons, List.length_append, ih (fun q hq => h q (List.mem_cons_of_mem _ hq)), h r (List.mem_cons_self ..), List.length_cons]
    omega
theorem law_MonitorArgs (x y z : V) (hx : TyV tc 9 22 x) (hy : TyV tc 9 27 y) (hz : TyV tc 9 3 z) : Con Try.prog 3 [] [x, y, z] [] (vb true) := by
  obtain ⟨cs, n, e, hn, rows, h1, h2, h3⟩ := hx
  cases e
  obtain ⟨kd, pa, lo, hi, ma, wa, rp, ev, lv, un, en, rfl, _⟩ := mrule_of hy
  obtain ⟨i, e2, _, _⟩ := hz
  cases e2
  have hr : ∀ r ∈ rows, ∃ (kd pa lo hi ma wa rp ev lv un : Int) (en : Bool), r = [u8 kd, i64 pa, i32 lo, i32 hi, u32 ma, u32 wa, u8 rp, u8 ev, u8 lv, i64 un, vb en] := fun r hr => by
    obtain ⟨kd, pa, lo, hi, ma, wa, rp, ev, lv, un, en, e, _⟩ := mrule_of (x := .agg true r) ⟨r, rfl, h3 r hr⟩
    cases e
    exact ⟨kd, pa, lo, hi, ma, wa, rp, ev, lv, un, en, rfl⟩
  have hl : ∀ r ∈ rows, r.length = 11 := fun r h => by obtain ⟨_, _, _, _, _, _, _, _, _, _, _, rfl⟩ := hr r h; rfl
  have hfl := flat_len hl
  subst h2
  refine law_args _ (min n 20) (Nat.min_le_right _ _) (fun j hj => ?_) rows.flatten n hn rfl rfl (by rw [hfl, h1]; exact Nat.le_refl _) kd pa lo hi ma wa rp ev lv un i en
  have hjr : j < rows.length := by omega
  obtain ⟨r, hrd⟩ : ∃ r, rows.flatten.drop (j * 11) = rows[j] ++ r := by
    clear hfl h3 hr h1 hj
    induction rows generalizing j with
    | nil => simp at hjr
    | cons q t ih =>
      cases j with
      | zero => exact ⟨t.flatten, by simp⟩
      | succ j =>
        have hq := hl q (List.mem_cons_self ..)
        obtain ⟨r, hr⟩ := ih (fun z hz => hl z (List.mem_cons_of_mem _ hz)) j (by simpa using hjr)
        refine ⟨r, ?_⟩
        rw [List.flatten_cons, show (j + 1) * 11 = q.length + j * 11 by rw [hq]; omega, ← List.drop_drop, List.drop_left]
        exact hr
  obtain ⟨kd', pa', lo', hi', ma', wa', rp', ev', lv', un', en', e3⟩ := hr rows[j] (List.getElem_mem hjr)
  refine ⟨kd', pa', lo', hi', ma', wa', rp', ev', lv', un', en', r.take (min n 20 * 11 - (j * 11 + 11)), ?_⟩
  rw [List.drop_take, hrd, e3, show min n 20 * 11 - j * 11 = (min n 20 * 11 - (j * 11 + 11)) + 11 by omega]
  rfl
end Go.Proofs.Ytlfjnkobnkfioaa
