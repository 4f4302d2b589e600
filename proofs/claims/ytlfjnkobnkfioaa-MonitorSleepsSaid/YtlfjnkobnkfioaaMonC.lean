/- Monitors of any rules. -/
import Derived.Test.YtlfjnkobnkfioaaRg
import Derived.Test.YtlfjnkobnkfioaaMonA
namespace Go.Proofs.Ytlfjnkobnkfioaa
open Go.Ab
set_option linter.unusedSimpArgs false
set_option linter.unusedVariables false
set_option maxHeartbeats 8000000
set_option maxRecDepth 100000
def mrt (kd pa lo hi rp lv un : Int) : Bool := cright kd pa lo hi && (decide (rp ≥ 1) && (decide (lv ≤ 4) && (decide (un ≥ -1) && decide (un < 16))))
theorem con_mrightg (kd pa lo hi ma wa rp ev lv un : Int) (en : Bool) : Con Try.prog 13 [] [.agg true [u8 kd, i64 pa, i32 lo, i32 hi, u32 ma, u32 wa, u8 rp, u8 ev, u8 lv, i64 un, vb en]] [] (vb (mrt kd pa lo hi rp lv un)) := by
  have c := con_cright kd pa lo hi
  refine Con.of (C := ⟨Try.prog, tc, Try.f13.ntmps⟩) [] tcok Try.func13 rfl rfl (by kernel_rfl) (by kernel_rfl) ?_
  refine xe0 [1, 2] [1] (by kernel_rfl) ?_
  refine xe1 (os := [Con Try.prog 41 [] [V.agg true [u8 kd, i64 pa, i32 lo, i32 hi, u32 ma, u32 wa]] [] (vb (cright kd pa lo hi))]) [(2, ⟨none, some ⟨vb (cright kd pa lo hi), [], []⟩⟩)] [2] [] (by kernel_rfl) ⟨(c (ma) (wa)), trivial⟩ ?_
  refine AWP.ret ?_
  refine ⟨Or.inr rfl, Eq.trans (b := some ([], vb (cright kd pa lo hi && decide (rp ≥ 1) && decide (lv ≤ 4) && decide (un ≥ -1) && decide (un < 16)))) (by kernel_rfl) ?_⟩
  (simp [mrt, Bool.and_assoc])
def z5 : List V := [u8 0, u8 0, u8 0, i32 0, vb false]
def z11 : List V := [u8 0, i64 0, i32 0, i32 0, u32 0, u32 0, u8 0, u8 0, u8 0, i64 0, vb false]
def z16 : List V := z11 ++ z5
/-- The cells of a monitor of these rules, of which nothing is seen. -/
def mcells (rows : List (List V)) (n : Int) : List V := (rows.map (· ++ z5)).flatten ++ ((List.replicate (16 - rows.length) z16).flatten ++ [i64 n])
theorem rows_len {rows : List (List V)} (h : ∀ r ∈ rows, r.length = 11) : (rows.map (· ++ z5)).flatten.length = rows.length * 16 := by
  induction rows with
  | nil => rfl
  | cons r t ih =>
    have h1 := h r (List.mem_cons_self ..)
    rw [List.map_cons, List.flatten_cons, List.length_append, List.length_append, ih (fun q hq => h q (List.mem_cons_of_mem _ hq)), h1, List.length_cons]
    show 11 + 5 + t.length * 16 = _
    omega
theorem rep_len (k : Nat) : (List.replicate k z16).flatten.length = k * 16 := by
  induction k with
  | zero => rfl
  | succ k ih =>
    rw [List.replicate_succ, List.flatten_cons, List.length_append, ih]
    show 16 + k * 16 = _
    omega
theorem mcells_len {rows : List (List V)} {n : Int} (h : ∀ r ∈ rows, r.length = 11) (hl : rows.length ≤ 16) : (mcells rows n).length = 257 := by
  unfold mcells
  rw [List.length_append, List.length_append, rows_len h, rep_len]
  simp
  omega
theorem mcells_put {rows : List (List V)} {n : Int} {r : List V} (h : ∀ r ∈ rows, r.length = 11) (hl : rows.length < 16) (hr : r.length = 11) : putAt (mcells rows n) (rows.length * 16) r = mcells (rows ++ [r]) n := by
  have hA := rows_len h
  unfold mcells putAt
  rw [List.map_append, List.flatten_append, List.length_append, show 16 - rows.length = (16 - (rows.length + 1)) + 1 by omega, List.replicate_succ, List.flatten_cons]
  generalize hAe : (rows.map (· ++ z5)).flatten = A at hA ⊢
  have e1 : (A ++ (z16 ++ (List.replicate (16 - (rows.length + 1)) z16).flatten ++ [i64 n])).take (rows.length * 16) = A := by rw [← hA, List.take_left]
  have e2 : (A ++ (z16 ++ (List.replicate (16 - (rows.length + 1)) z16).flatten ++ [i64 n])).drop (rows.length * 16 + r.length) = z5 ++ ((List.replicate (16 - (rows.length + 1)) z16).flatten ++ [i64 n]) := by
    rw [← hA, List.drop_append, hr, List.drop_eq_nil_of_le (by omega), show A.length + 11 - A.length = 11 by omega]
    rfl
  rw [e1, e2]
  simp
def rowsOf (xs : List V) (i : Nat) : List (List V) := (List.range i).map fun j => (xs.drop (j * 11)).take 11
theorem rowsOf_next (xs : List V) (i : Nat) : rowsOf xs (i + 1) = rowsOf xs i ++ [(xs.drop (i * 11)).take 11] := by
  unfold rowsOf
  rw [List.range_succ, List.map_append]
  rfl
theorem con_newg (xs : List V) (n : Nat) (hn : n ≤ 16) (hx : ∀ i : Nat, i < n → ∃ (kd pa lo hi ma wa rp ev lv un : Int) (en : Bool) (r : List V), xs.drop (i * 11) = u8 kd :: i64 pa :: i32 lo :: i32 hi :: u32 ma :: u32 wa :: u8 rp :: u8 ev :: u8 lv :: i64 un :: vb en :: r ∧ mrt kd pa lo hi rp lv un = true) : Con Try.prog 14 [] [.vs xs n] [] (.tup [.agg true (mcells (rowsOf xs n) n), i64 0]) := by
  have hrl : ∀ k : Nat, k ≤ n → ∀ r ∈ rowsOf xs k, r.length = 11 := fun k hk r hr => by
    unfold rowsOf at hr
    obtain ⟨j, hj, rfl⟩ := List.mem_map.1 hr
    obtain ⟨kd, pa, lo, hi', ma, wa, rp, ev, lv, un, en, q, kx, _⟩ := hx j (by have := List.mem_range.1 hj; omega)
    rw [kx]
    rfl
  have hro : ∀ k : Nat, (rowsOf xs k).length = k := fun k => by simp [rowsOf]
  refine Con.of (C := ⟨Try.prog, tc, Try.f14.ntmps⟩) [] tcok Try.func14 rfl rfl (by kernel_rfl) (by kernel_rfl) ?_
  refine xe0 [0, 2, 3] [2] (by kernel_rfl) ?_
  refine AWP.seq ?_
  refine xe0 [0, 2, 3, 9] [2] (by kernel_rfl) ?_
  refine AWP.cond (b := decide ((↑n : Int) > 16)) (by kernel_rfl) (fun hq0 => ?_) (fun hq0 => ?_)
  · simp only [decide_eq_true_eq] at hq0
    (exfalso; omega)
  simp only [decide_eq_false_iff_not] at hq0
  refine AWP.skip ?_
  refine xe0 [0, 2, 3, 4] [2, 4] (by kernel_rfl) ?_
  refine AWP.seq ?_
  refine xe0 [2, 3, 4, 14, 15, 16] [2, 4] (by kernel_rfl) ?_
  refine AWP.block ?_
  refine AWP.loopI [2, 3, 4, 14, 15, 16] [2, 4] (fun N s' => ∃ (i : Int) (L : List V), s' = St.mk [(2, T.plain (V.ptr 2 0)), (3, T.plain (i64 0)), (4, T.plain (V.ptr 4 0)), (14, T.plain (V.vs xs n)), (15, T.plain (i64 (n : Int))), (16, T.plain (i64 i))] [(2, Blk.mk (mcells [] 0) true 257 none), (4, Blk.mk L true 257 none)] ∧ L = mcells (rowsOf xs i.toNat) n ∧ 0 ≤ i ∧ i ≤ n ∧ (N : Int) = n - i) n (s0 := St.mk [(2, T.plain (V.ptr 2 0)), (3, T.plain (i64 0)), (4, T.plain (V.ptr 4 0)), (14, T.plain (V.vs xs n)), (15, T.plain (i64 (n : Int))), (16, T.plain (i64 0))] [(2, Blk.mk (mcells [] 0) true 257 none), (4, Blk.mk (mcells [] n) true 257 none)]) (by kernel_rfl) ?_ ?_
  · exact ⟨0, _, rfl, rfl, by omega, by omega, by omega⟩
  rintro N s' ⟨i, L, rfl, hLe, hi, hi2, hN⟩
  have hL : L.length = 257 := by rw [hLe]; exact mcells_len (hrl _ (by omega)) (by rw [hro]; omega)
  by_cases hlt : i < n
  · obtain ⟨kd, pa, lo, hi', ma, wa, rp, ev, lv, un, en, r, kx, hr⟩ := hx i.toNat (by omega)
    have c := con_mrightg kd pa lo hi' ma wa rp ev lv un en
    rw [hr] at c
    have hput : putC (11 == 1) L (0 + Int.toNat i * 16 + 0) [u8 kd, i64 pa, i32 lo, i32 hi', u32 ma, u32 wa, u8 rp, u8 ev, u8 lv, i64 un, vb en] = mcells (rowsOf xs (i.toNat + 1)) n := by
      rw [putC_eq (by rw [hL]; show 0 + i.toNat * 16 + 0 + 11 ≤ 257; omega), hLe, rowsOf_next, kx]
      have := mcells_put (n := n) (r := [u8 kd, i64 pa, i32 lo, i32 hi', u32 ma, u32 wa, u8 rp, u8 ev, u8 lv, i64 un, vb en]) (hrl i.toNat (by omega)) (by rw [hro]; omega) rfl
      rw [hro] at this
      rw [show 0 + i.toNat * 16 + 0 = i.toNat * 16 by omega]
      exact this
    refine xe0 [2, 3, 4, 14, 15, 16, 17] [2, 4] (by kernel_rfl) ?_
    refine AWP.seq ?_
    refine AWP.cond (b := decide (i < (↑n : Int))) (by kernel_rfl) (fun hq1 => ?_) (fun hq1 => ?_)
    · simp only [decide_eq_true_eq] at hq1
      refine AWP.skip ?_
      refine AWP.seq ?_
      refine AWP.block ?_
      refine xe1 (os := [(0 : Int) ≤ i ∧ i < (↑n : Int), V.vp (List.drop (Int.toNat i * 11) xs) = V.vp (u8 kd :: i64 pa :: i32 lo :: i32 hi' :: u32 ma :: u32 wa :: u8 rp :: u8 ev :: u8 lv :: i64 un :: vb en :: r)]) [(1, ⟨some (V.vp (u8 kd :: i64 pa :: i32 lo :: i32 hi' :: u32 ma :: u32 wa :: u8 rp :: u8 ev :: u8 lv :: i64 un :: vb en :: r)), none⟩)] [2, 3, 4, 5, 6, 14, 15, 16] [2, 4, 6] (by kernel_rfl) ⟨(by omega), (congrArg V.vp kx), trivial⟩ ?_
      refine AWP.seq ?_
      refine xe1 (os := [Con Try.prog 13 [] [V.agg true [u8 kd, i64 pa, i32 lo, i32 hi', u32 ma, u32 wa, u8 rp, u8 ev, u8 lv, i64 un, vb en]] [] (vb true)]) [(1, ⟨none, some ⟨vb true, [], []⟩⟩)] [2, 3, 4, 5, 6, 14, 15, 16, 23] [2, 4, 6] (by kernel_rfl) ⟨(c ), trivial⟩ ?_
      refine AWP.condF (by kernel_rfl) ?_
      refine AWP.skip ?_
      refine AWP.region tcok hmix [(3, ⟨some (V.ptr 4 (0 + Int.toNat i * 16)), none⟩), (5, ⟨some V.top, none⟩)] (os := [(0 : Int) ≤ i ∧ i < (↑(16 : Nat) : Int), V.ptr 4 (0 + Int.toNat i * 16) = V.ptr 4 (0 + Int.toNat i * 16), (11 : Nat) = (11 : Nat), (0 : Nat) + Int.toNat i * (16 : Nat) + (0 : Nat) + (11 : Nat) ≤ List.length L]) (sf := St.mk [(2, tp (V.ptr 2 0)), (3, tp (i64 0)), (4, tp (V.ptr 4 0)), (5, tp (i64 i)), (6, tp (V.ptr 6 0)), (14, tp (V.vs xs n)), (15, tp (i64 (↑n : Int))), (16, tp (i64 i)), (23, tp (vb false)), (25, tp (i64 i)), (26, tp (V.agg true [u8 kd, i64 pa, i32 lo, i32 hi', u32 ma, u32 wa, u8 rp, u8 ev, u8 lv, i64 un, vb en])), (27, tp (V.ptr 4 0)), (28, tp (V.ptr 4 (0 + Int.toNat i * 16))), (29, tp (V.ptr 4 (0 + Int.toNat i * 16 + 0)))] [(2, Blk.mk [u8 0, i64 0, i32 0, i32 0, u32 0, u32 0, u8 0, u8 0, u8 0, i64 0, vb false, u8 0, u8 0, u8 0, i32 0, vb false, u8 0, i64 0, i32 0, i32 0, u32 0, u32 0, u8 0, u8 0, u8 0, i64 0, vb false, u8 0, u8 0, u8 0, i32 0, vb false, u8 0, i64 0, i32 0, i32 0, u32 0, u32 0, u8 0, u8 0, u8 0, i64 0, vb false, u8 0, u8 0, u8 0, i32 0, vb false, u8 0, i64 0, i32 0, i32 0, u32 0, u32 0, u8 0, u8 0, u8 0, i64 0, vb false, u8 0, u8 0, u8 0, i32 0, vb false, u8 0, i64 0, i32 0, i32 0, u32 0, u32 0, u8 0, u8 0, u8 0, i64 0, vb false, u8 0, u8 0, u8 0, i32 0, vb false, u8 0, i64 0, i32 0, i32 0, u32 0, u32 0, u8 0, u8 0, u8 0, i64 0, vb false, u8 0, u8 0, u8 0, i32 0, vb false, u8 0, i64 0, i32 0, i32 0, u32 0, u32 0, u8 0, u8 0, u8 0, i64 0, vb false, u8 0, u8 0, u8 0, i32 0, vb false, u8 0, i64 0, i32 0, i32 0, u32 0, u32 0, u8 0, u8 0, u8 0, i64 0, vb false, u8 0, u8 0, u8 0, i32 0, vb false, u8 0, i64 0, i32 0, i32 0, u32 0, u32 0, u8 0, u8 0, u8 0, i64 0, vb false, u8 0, u8 0, u8 0, i32 0, vb false, u8 0, i64 0, i32 0, i32 0, u32 0, u32 0, u8 0, u8 0, u8 0, i64 0, vb false, u8 0, u8 0, u8 0, i32 0, vb false, u8 0, i64 0, i32 0, i32 0, u32 0, u32 0, u8 0, u8 0, u8 0, i64 0, vb false, u8 0, u8 0, u8 0, i32 0, vb false, u8 0, i64 0, i32 0, i32 0, u32 0, u32 0, u8 0, u8 0, u8 0, i64 0, vb false, u8 0, u8 0, u8 0, i32 0, vb false, u8 0, i64 0, i32 0, i32 0, u32 0, u32 0, u8 0, u8 0, u8 0, i64 0, vb false, u8 0, u8 0, u8 0, i32 0, vb false, u8 0, i64 0, i32 0, i32 0, u32 0, u32 0, u8 0, u8 0, u8 0, i64 0, vb false, u8 0, u8 0, u8 0, i32 0, vb false, u8 0, i64 0, i32 0, i32 0, u32 0, u32 0, u8 0, u8 0, u8 0, i64 0, vb false, u8 0, u8 0, u8 0, i32 0, vb false, u8 0, i64 0, i32 0, i32 0, u32 0, u32 0, u8 0, u8 0, u8 0, i64 0, vb false, u8 0, u8 0, u8 0, i32 0, vb false, i64 0] true 257 none), (4, Blk.mk (putC (11 == 1) L (0 + Int.toNat i * 16 + 0) [u8 kd, i64 pa, i32 lo, i32 hi', u32 ma, u32 wa, u8 rp, u8 ev, u8 lv, i64 un, vb en]) true 257 none), (6, Blk.mk [u8 kd, i64 pa, i32 lo, i32 hi', u32 ma, u32 wa, u8 rp, u8 ev, u8 lv, i64 un, vb en] true 11 none)]) (by kernel_rfl) ⟨(by omega), rfl, (by omega), (by omega), trivial⟩ ?_
      refine AWP.keep' [2, 3, 4, 14, 15, 16] [2, 4] (sf := St.mk [(2, tp (V.ptr 2 0)), (3, tp (i64 0)), (4, tp (V.ptr 4 0)), (14, tp (V.vs xs n)), (15, tp (i64 (↑n : Int))), (16, tp (i64 i))] [(2, Blk.mk [u8 0, i64 0, i32 0, i32 0, u32 0, u32 0, u8 0, u8 0, u8 0, i64 0, vb false, u8 0, u8 0, u8 0, i32 0, vb false, u8 0, i64 0, i32 0, i32 0, u32 0, u32 0, u8 0, u8 0, u8 0, i64 0, vb false, u8 0, u8 0, u8 0, i32 0, vb false, u8 0, i64 0, i32 0, i32 0, u32 0, u32 0, u8 0, u8 0, u8 0, i64 0, vb false, u8 0, u8 0, u8 0, i32 0, vb false, u8 0, i64 0, i32 0, i32 0, u32 0, u32 0, u8 0, u8 0, u8 0, i64 0, vb false, u8 0, u8 0, u8 0, i32 0, vb false, u8 0, i64 0, i32 0, i32 0, u32 0, u32 0, u8 0, u8 0, u8 0, i64 0, vb false, u8 0, u8 0, u8 0, i32 0, vb false, u8 0, i64 0, i32 0, i32 0, u32 0, u32 0, u8 0, u8 0, u8 0, i64 0, vb false, u8 0, u8 0, u8 0, i32 0, vb false, u8 0, i64 0, i32 0, i32 0, u32 0, u32 0, u8 0, u8 0, u8 0, i64 0, vb false, u8 0, u8 0, u8 0, i32 0, vb false, u8 0, i64 0, i32 0, i32 0, u32 0, u32 0, u8 0, u8 0, u8 0, i64 0, vb false, u8 0, u8 0, u8 0, i32 0, vb false, u8 0, i64 0, i32 0, i32 0, u32 0, u32 0, u8 0, u8 0, u8 0, i64 0, vb false, u8 0, u8 0, u8 0, i32 0, vb false, u8 0, i64 0, i32 0, i32 0, u32 0, u32 0, u8 0, u8 0, u8 0, i64 0, vb false, u8 0, u8 0, u8 0, i32 0, vb false, u8 0, i64 0, i32 0, i32 0, u32 0, u32 0, u8 0, u8 0, u8 0, i64 0, vb false, u8 0, u8 0, u8 0, i32 0, vb false, u8 0, i64 0, i32 0, i32 0, u32 0, u32 0, u8 0, u8 0, u8 0, i64 0, vb false, u8 0, u8 0, u8 0, i32 0, vb false, u8 0, i64 0, i32 0, i32 0, u32 0, u32 0, u8 0, u8 0, u8 0, i64 0, vb false, u8 0, u8 0, u8 0, i32 0, vb false, u8 0, i64 0, i32 0, i32 0, u32 0, u32 0, u8 0, u8 0, u8 0, i64 0, vb false, u8 0, u8 0, u8 0, i32 0, vb false, u8 0, i64 0, i32 0, i32 0, u32 0, u32 0, u8 0, u8 0, u8 0, i64 0, vb false, u8 0, u8 0, u8 0, i32 0, vb false, u8 0, i64 0, i32 0, i32 0, u32 0, u32 0, u8 0, u8 0, u8 0, i64 0, vb false, u8 0, u8 0, u8 0, i32 0, vb false, i64 0] true 257 none), (4, Blk.mk (putC (11 == 1) L (0 + Int.toNat i * 16 + 0) [u8 kd, i64 pa, i32 lo, i32 hi', u32 ma, u32 wa, u8 rp, u8 ev, u8 lv, i64 un, vb en]) true 257 none)]) (by kernel_rfl) ?_
      refine AWP.region tcok hmix [(0, ⟨some (i64 (i + 1)), none⟩)] (os := [i64 (IntKind.wrap IntKind.i64 (i + 1)) = i64 (i + 1)]) (sf := St.mk [(2, tp (V.ptr 2 0)), (3, tp (i64 0)), (4, tp (V.ptr 4 0)), (14, tp (V.vs xs n)), (15, tp (i64 (↑n : Int))), (16, tp (i64 (i + 1))), (30, tp (i64 (i + 1)))] [(2, Blk.mk [u8 0, i64 0, i32 0, i32 0, u32 0, u32 0, u8 0, u8 0, u8 0, i64 0, vb false, u8 0, u8 0, u8 0, i32 0, vb false, u8 0, i64 0, i32 0, i32 0, u32 0, u32 0, u8 0, u8 0, u8 0, i64 0, vb false, u8 0, u8 0, u8 0, i32 0, vb false, u8 0, i64 0, i32 0, i32 0, u32 0, u32 0, u8 0, u8 0, u8 0, i64 0, vb false, u8 0, u8 0, u8 0, i32 0, vb false, u8 0, i64 0, i32 0, i32 0, u32 0, u32 0, u8 0, u8 0, u8 0, i64 0, vb false, u8 0, u8 0, u8 0, i32 0, vb false, u8 0, i64 0, i32 0, i32 0, u32 0, u32 0, u8 0, u8 0, u8 0, i64 0, vb false, u8 0, u8 0, u8 0, i32 0, vb false, u8 0, i64 0, i32 0, i32 0, u32 0, u32 0, u8 0, u8 0, u8 0, i64 0, vb false, u8 0, u8 0, u8 0, i32 0, vb false, u8 0, i64 0, i32 0, i32 0, u32 0, u32 0, u8 0, u8 0, u8 0, i64 0, vb false, u8 0, u8 0, u8 0, i32 0, vb false, u8 0, i64 0, i32 0, i32 0, u32 0, u32 0, u8 0, u8 0, u8 0, i64 0, vb false, u8 0, u8 0, u8 0, i32 0, vb false, u8 0, i64 0, i32 0, i32 0, u32 0, u32 0, u8 0, u8 0, u8 0, i64 0, vb false, u8 0, u8 0, u8 0, i32 0, vb false, u8 0, i64 0, i32 0, i32 0, u32 0, u32 0, u8 0, u8 0, u8 0, i64 0, vb false, u8 0, u8 0, u8 0, i32 0, vb false, u8 0, i64 0, i32 0, i32 0, u32 0, u32 0, u8 0, u8 0, u8 0, i64 0, vb false, u8 0, u8 0, u8 0, i32 0, vb false, u8 0, i64 0, i32 0, i32 0, u32 0, u32 0, u8 0, u8 0, u8 0, i64 0, vb false, u8 0, u8 0, u8 0, i32 0, vb false, u8 0, i64 0, i32 0, i32 0, u32 0, u32 0, u8 0, u8 0, u8 0, i64 0, vb false, u8 0, u8 0, u8 0, i32 0, vb false, u8 0, i64 0, i32 0, i32 0, u32 0, u32 0, u8 0, u8 0, u8 0, i64 0, vb false, u8 0, u8 0, u8 0, i32 0, vb false, u8 0, i64 0, i32 0, i32 0, u32 0, u32 0, u8 0, u8 0, u8 0, i64 0, vb false, u8 0, u8 0, u8 0, i32 0, vb false, u8 0, i64 0, i32 0, i32 0, u32 0, u32 0, u8 0, u8 0, u8 0, i64 0, vb false, u8 0, u8 0, u8 0, i32 0, vb false, i64 0] true 257 none), (4, Blk.mk (putC (11 == 1) L (0 + Int.toNat i * 16 + 0) [u8 kd, i64 pa, i32 lo, i32 hi', u32 ma, u32 wa, u8 rp, u8 ev, u8 lv, i64 un, vb en]) true 257 none)]) (by kernel_rfl) ⟨(wr_i64 (by omega) (by omega)), trivial⟩ ?_
      refine ⟨St.mk [(2, tp (V.ptr 2 0)), (3, tp (i64 0)), (4, tp (V.ptr 4 0)), (14, tp (V.vs xs n)), (15, tp (i64 (↑n : Int))), (16, tp (i64 (i + 1)))] [(2, Blk.mk [u8 0, i64 0, i32 0, i32 0, u32 0, u32 0, u8 0, u8 0, u8 0, i64 0, vb false, u8 0, u8 0, u8 0, i32 0, vb false, u8 0, i64 0, i32 0, i32 0, u32 0, u32 0, u8 0, u8 0, u8 0, i64 0, vb false, u8 0, u8 0, u8 0, i32 0, vb false, u8 0, i64 0, i32 0, i32 0, u32 0, u32 0, u8 0, u8 0, u8 0, i64 0, vb false, u8 0, u8 0, u8 0, i32 0, vb false, u8 0, i64 0, i32 0, i32 0, u32 0, u32 0, u8 0, u8 0, u8 0, i64 0, vb false, u8 0, u8 0, u8 0, i32 0, vb false, u8 0, i64 0, i32 0, i32 0, u32 0, u32 0, u8 0, u8 0, u8 0, i64 0, vb false, u8 0, u8 0, u8 0, i32 0, vb false, u8 0, i64 0, i32 0, i32 0, u32 0, u32 0, u8 0, u8 0, u8 0, i64 0, vb false, u8 0, u8 0, u8 0, i32 0, vb false, u8 0, i64 0, i32 0, i32 0, u32 0, u32 0, u8 0, u8 0, u8 0, i64 0, vb false, u8 0, u8 0, u8 0, i32 0, vb false, u8 0, i64 0, i32 0, i32 0, u32 0, u32 0, u8 0, u8 0, u8 0, i64 0, vb false, u8 0, u8 0, u8 0, i32 0, vb false, u8 0, i64 0, i32 0, i32 0, u32 0, u32 0, u8 0, u8 0, u8 0, i64 0, vb false, u8 0, u8 0, u8 0, i32 0, vb false, u8 0, i64 0, i32 0, i32 0, u32 0, u32 0, u8 0, u8 0, u8 0, i64 0, vb false, u8 0, u8 0, u8 0, i32 0, vb false, u8 0, i64 0, i32 0, i32 0, u32 0, u32 0, u8 0, u8 0, u8 0, i64 0, vb false, u8 0, u8 0, u8 0, i32 0, vb false, u8 0, i64 0, i32 0, i32 0, u32 0, u32 0, u8 0, u8 0, u8 0, i64 0, vb false, u8 0, u8 0, u8 0, i32 0, vb false, u8 0, i64 0, i32 0, i32 0, u32 0, u32 0, u8 0, u8 0, u8 0, i64 0, vb false, u8 0, u8 0, u8 0, i32 0, vb false, u8 0, i64 0, i32 0, i32 0, u32 0, u32 0, u8 0, u8 0, u8 0, i64 0, vb false, u8 0, u8 0, u8 0, i32 0, vb false, u8 0, i64 0, i32 0, i32 0, u32 0, u32 0, u8 0, u8 0, u8 0, i64 0, vb false, u8 0, u8 0, u8 0, i32 0, vb false, u8 0, i64 0, i32 0, i32 0, u32 0, u32 0, u8 0, u8 0, u8 0, i64 0, vb false, u8 0, u8 0, u8 0, i32 0, vb false, i64 0] true 257 none), (4, Blk.mk (putC (11 == 1) L (0 + Int.toNat i * 16 + 0) [u8 kd, i64 pa, i32 lo, i32 hi', u32 ma, u32 wa, u8 rp, u8 ev, u8 lv, i64 un, vb en]) true 257 none)], by kernel_rfl, ?_⟩
      (exact ⟨(n - (i + 1)).toNat, (by omega), i + 1, _, rfl, (by rw [show (i + 1).toNat = i.toNat + 1 by omega]; exact hput), (by omega), (by omega), (by omega)⟩)
    simp only [decide_eq_false_iff_not] at hq1
    (exfalso; omega)
  have hin : i = n := by omega
  subst hin
  rw [Int.toNat_natCast] at hLe
  subst hLe
  refine xe0 [2, 3, 4, 14, 15, 16, 17] [2, 4] (by kernel_rfl) ?_
  refine AWP.seq ?_
  refine AWP.cond (b := decide ((↑n : Int) < (↑n : Int))) (by kernel_rfl) (fun hq3 => ?_) (fun hq3 => ?_)
  · simp only [decide_eq_true_eq] at hq3
    (exfalso; omega)
  simp only [decide_eq_false_iff_not] at hq3
  refine AWP.exit ?_
  refine xe1 (os := [List.length (mcells (rowsOf xs n) (↑n : Int)) = (257 : Nat), (0 : Nat) = (0 : Nat)]) [(1, ⟨some V.top, none⟩)] [2, 3] [2] (by kernel_rfl) ⟨(by first | omega | (simp [len_u8s]; done) | (simp [len_u8s]; omega)), (by omega), trivial⟩ ?_
  refine AWP.ret ?_
  refine ⟨Or.inr rfl, Eq.trans (b := some ([], V.tup [V.agg true (mcells (rowsOf xs n) (↑n : Int)), i64 0])) (by kernel_rfl) ?_⟩
  first | rfl | (exfalso; omega)
end Go.Proofs.Ytlfjnkobnkfioaa
