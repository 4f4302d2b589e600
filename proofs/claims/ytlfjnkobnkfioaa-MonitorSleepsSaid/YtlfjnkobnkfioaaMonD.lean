/- Monitors of any rules: one of them. -/
import Derived.Test.YtlfjnkobnkfioaaRg
import Derived.Test.YtlfjnkobnkfioaaMonC
namespace Go.Proofs.Ytlfjnkobnkfioaa
open Go.Ab
set_option linter.unusedSimpArgs false
set_option linter.unusedVariables false
set_option maxHeartbeats 8000000
set_option maxRecDepth 100000
theorem con_thereg (M : List V) (n i : Int) (hl : M.length = 257) (wg0 : gI M 256 = i64 n) (hn : 0 ≤ n ∧ n ≤ 16) : Con Try.prog 42 [] [.agg true M, i64 i] [] (vb (decide (0 ≤ i) && decide (i < n))) := by
  have wg1 : ∀ k : Nat, k < 1 → gI M (256 + k) = i64 n := fun k hk => by
    obtain rfl : k = 0 := by omega
    exact wg0
  refine Con.of (C := ⟨Try.prog, tc, Try.f42.ntmps⟩) [] tcok Try.func42 rfl rfl (by kernel_rfl) (by kernel_rfl) ?_
  refine xe1 (os := [List.length M = (257 : Nat)]) [(0, ⟨some V.top, none⟩)] [1, 2, 4] [2] (by kernel_rfl) ⟨(by omega), trivial⟩ ?_
  refine xe1 (os := [decide (i ≥ (0 : Int)) = true → (257 : Nat) ≤ List.length M ∧ part_ true (isRow (TypeDesc.int IntKind.i64)) M (256 : Nat) (1 : Nat) = i64 n ∧ True]) [(5, ⟨some (i64 n), none⟩)] [4] [] (by kernel_rfl) ⟨(by intro hc0; first | (cases hc0; done) | ((try simp only [Bool.or_false, Bool.false_or, Bool.true_and, Bool.and_true, decide_eq_true_eq, decide_eq_false_iff_not, Bool.and_eq_true, Bool.or_eq_true, Bool.or_eq_false_iff, Bool.not_eq_true', Bool.and_eq_false_iff, beq_iff_eq, bne_iff_ne, bne_eq_false_iff_eq, beq_eq_false_iff_ne, Bool.not_eq_false'] at hc0); exact ⟨(by omega), (wg0 ), trivial⟩)), trivial⟩ ?_
  refine AWP.ret ?_
  refine ⟨Or.inr rfl, Eq.trans (b := some ([], vb (decide (i ≥ 0) && decide (i < n)))) (by kernel_rfl) ?_⟩
  (simp [bl]; done)
theorem con_lenlen (M : List V) (n : Int) (hl : M.length = 257) (wg0 : gI M 256 = i64 n) : Con Try.prog 15 [] [.agg true M] [] (i64 n) := by
  refine Con.of (C := ⟨Try.prog, tc, Try.f15.ntmps⟩) [] tcok Try.func15 rfl rfl (by kernel_rfl) (by kernel_rfl) ?_
  refine xe1 (os := [List.length M = (257 : Nat)]) [(0, ⟨some V.top, none⟩)] [1, 2] [1] (by kernel_rfl) ⟨(by omega), trivial⟩ ?_
  refine xe1 (os := [(257 : Nat) ≤ List.length M, part_ true (isRow (TypeDesc.int IntKind.i64)) M 256 1 = i64 n]) [(1, ⟨some (i64 n), none⟩)] [2] [] (by kernel_rfl) ⟨(by omega), (wg0 ), trivial⟩ ?_
  refine AWP.ret ?_
  refine ⟨Or.inr rfl, Eq.trans (b := some ([], i64 n)) (by kernel_rfl) ?_⟩
  rfl
theorem con_rule_n (M : List V) (n i : Int) (hl : M.length = 257) (wg0 : gI M 256 = i64 n) (hn : 0 ≤ n ∧ n ≤ 16) (hi : ¬ (0 ≤ i ∧ i < n)) : Con Try.prog 16 [] [.agg true M, i64 i] [] (.tup [.agg true z11, vb false]) := by
  have c := con_thereg M n i hl wg0 hn
  rw [show (decide (0 ≤ i) && decide (i < n)) = false by simp; omega] at c
  refine Con.of (C := ⟨Try.prog, tc, Try.f16.ntmps⟩) [] tcok Try.func16 rfl rfl (by kernel_rfl) (by kernel_rfl) ?_
  refine xe1 (os := [List.length M = (257 : Nat)]) [(0, ⟨some V.top, none⟩)] [1, 2, 4, 5] [2, 4] (by kernel_rfl) ⟨(by omega), trivial⟩ ?_
  refine AWP.seq ?_
  refine xe1 (os := [Con Try.prog 42 [] [V.agg true M, i64 i] [] (vb false)]) [(2, ⟨none, some ⟨vb false, [], []⟩⟩)] [1, 2, 4, 5, 9] [2, 4] (by kernel_rfl) ⟨(c ), trivial⟩ ?_
  refine AWP.condT (by kernel_rfl) ?_
  refine xe0 [1, 2, 4, 5] [2, 4] (by kernel_rfl) ?_
  refine AWP.ret ?_
  refine ⟨Or.inr rfl, Eq.trans (b := some ([], V.tup [V.agg true [u8 0, i64 0, i32 0, i32 0, u32 0, u32 0, u8 0, u8 0, u8 0, i64 0, vb false], vb false])) (by kernel_rfl) ?_⟩
  rfl
theorem con_stat_n (M : List V) (n i : Int) (hl : M.length = 257) (wg0 : gI M 256 = i64 n) (hn : 0 ≤ n ∧ n ≤ 16) (hi : ¬ (0 ≤ i ∧ i < n)) : Con Try.prog 17 [] [.agg true M, i64 i] [] (u8 0) := by
  have c := con_thereg M n i hl wg0 hn
  rw [show (decide (0 ≤ i) && decide (i < n)) = false by simp; omega] at c
  refine Con.of (C := ⟨Try.prog, tc, Try.f17.ntmps⟩) [] tcok Try.func17 rfl rfl (by kernel_rfl) (by kernel_rfl) ?_
  refine xe1 (os := [List.length M = (257 : Nat)]) [(0, ⟨some V.top, none⟩)] [1, 2, 4] [2] (by kernel_rfl) ⟨(by omega), trivial⟩ ?_
  refine AWP.seq ?_
  refine xe1 (os := [Con Try.prog 42 [] [V.agg true M, i64 i] [] (vb false)]) [(2, ⟨none, some ⟨vb false, [], []⟩⟩)] [1, 2, 4, 8] [2] (by kernel_rfl) ⟨(c ), trivial⟩ ?_
  refine AWP.condT (by kernel_rfl) ?_
  refine xe0 [1, 2, 4] [2] (by kernel_rfl) ?_
  refine AWP.ret ?_
  refine ⟨Or.inr rfl, Eq.trans (b := some ([], u8 0)) (by kernel_rfl) ?_⟩
  rfl
theorem con_rule_y (M : List V) (n i kd pa lo hi' ma wa rp ev lv un : Int) (en : Bool) (r : List V) (hl : M.length = 257) (wg0 : gI M 256 = i64 n) (hn : 0 ≤ n ∧ n ≤ 16) (hi : 0 ≤ i ∧ i < n) (kx : M.drop (i.toNat * 16) = u8 kd :: i64 pa :: i32 lo :: i32 hi' :: u32 ma :: u32 wa :: u8 rp :: u8 ev :: u8 lv :: i64 un :: vb en :: r) : Con Try.prog 16 [] [.agg true M, i64 i] [] (.tup [.agg true [u8 kd, i64 pa, i32 lo, i32 hi', u32 ma, u32 wa, u8 rp, u8 ev, u8 lv, i64 un, vb en], vb true]) := by
  have c := con_thereg M n i hl wg0 hn
  rw [show (decide (0 ≤ i) && decide (i < n)) = true by simp; omega] at c
  have kx2 : M.drop (0 + i.toNat * 16) = u8 kd :: i64 pa :: i32 lo :: i32 hi' :: u32 ma :: u32 wa :: u8 rp :: u8 ev :: u8 lv :: i64 un :: vb en :: r := by rw [Nat.zero_add]; exact kx
  have kx3 : M.drop (0 + i.toNat * 16 + 0) = u8 kd :: i64 pa :: i32 lo :: i32 hi' :: u32 ma :: u32 wa :: u8 rp :: u8 ev :: u8 lv :: i64 un :: vb en :: r := kx2
  refine Con.of (C := ⟨Try.prog, tc, Try.f16.ntmps⟩) [] tcok Try.func16 rfl rfl (by kernel_rfl) (by kernel_rfl) ?_
  refine xe1 (os := [List.length M = (257 : Nat)]) [(0, ⟨some V.top, none⟩)] [1, 2, 4, 5] [2, 4] (by kernel_rfl) ⟨(by omega), trivial⟩ ?_
  refine AWP.seq ?_
  refine xe1 (os := [Con Try.prog 42 [] [V.agg true M, i64 i] [] (vb true)]) [(2, ⟨none, some ⟨vb true, [], []⟩⟩)] [1, 2, 4, 5, 9] [2, 4] (by kernel_rfl) ⟨(c ), trivial⟩ ?_
  refine AWP.condF (by kernel_rfl) ?_
  refine AWP.skip ?_
  refine xe1 (os := [(0 : Int) ≤ i ∧ i < (↑(16 : Nat) : Int), V.ptr 2 (0 + Int.toNat i * 16) = V.ptr 2 (0 + Int.toNat i * 16), (0 : Nat) + Int.toNat i * (16 : Nat) + (0 : Nat) + (11 : Nat) ≤ List.length M, V.agg true (List.take 11 (List.drop (0 + Int.toNat i * 16 + 0) M)) = V.agg true (List.take 11 (List.drop (0 + Int.toNat i * 16 + 0) M)), List.length (List.take (11 : Nat) (List.drop ((0 : Nat) + Int.toNat i * (16 : Nat) + (0 : Nat)) M)) = (11 : Nat), (0 : Nat) = (0 : Nat)]) [(2, ⟨some (V.ptr 2 (0 + Int.toNat i * 16)), none⟩), (4, ⟨some (V.agg true (List.take 11 (List.drop (0 + Int.toNat i * 16 + 0) M))), none⟩), (5, ⟨some V.top, none⟩)] [4, 5] [4] (by kernel_rfl) ⟨(by omega), rfl, (by omega), rfl, (by (simp [len_u8s]; omega)), (by omega), trivial⟩ ?_
  refine AWP.ret ?_
  refine ⟨Or.inr rfl, Eq.trans (b := some ([], V.tup [V.agg true (List.take 11 (List.drop (0 + Int.toNat i * 16 + 0) M)), vb true])) (by kernel_rfl) ?_⟩
  (rw [kx3]; rfl)
theorem con_rcright (k pa lo hi ma wa : Int) : Con Try.prog 40 [] [dV k pa lo hi ma wa] [] (vb (cright k pa lo hi)) := by
  have e : decide (k < 3) = decide (k ≤ 2) := by
    apply Bool.eq_iff_iff.2
    simp only [decide_eq_true_eq]
    omega
  refine Con.of (C := ⟨Try.prog, tc, Try.f40.ntmps⟩) [] tcok Try.func40 rfl rfl (by kernel_rfl) (by kernel_rfl) ?_
  refine xe0 [1, 2] [1] (by kernel_rfl) ?_
  refine xe0 [2] [] (by kernel_rfl) ?_
  refine AWP.ret ?_
  refine ⟨Or.inr rfl, Eq.trans (b := some ([], vb (decide (k < 3) && decide (pa ≥ 0) && decide (pa < 16) && decide (lo ≤ hi)))) (by kernel_rfl) ?_⟩
  (simp [cright, Bool.and_assoc, e])
theorem con_rright (kd pa lo hi ma wa rp ev lv un : Int) (en : Bool) : Con Try.prog 12 [] [.agg true [u8 kd, i64 pa, i32 lo, i32 hi, u32 ma, u32 wa, u8 rp, u8 ev, u8 lv, i64 un, vb en]] [] (vb (mrt kd pa lo hi rp lv un)) := by
  have c := con_rcright kd pa lo hi ma wa
  have e1 : decide (rp > 0) = decide (rp ≥ 1) := by
    apply Bool.eq_iff_iff.2
    simp only [decide_eq_true_eq]
    omega
  have e2 : decide (lv < 5) = decide (lv ≤ 4) := by
    apply Bool.eq_iff_iff.2
    simp only [decide_eq_true_eq]
    omega
  refine Con.of (C := ⟨Try.prog, tc, Try.f12.ntmps⟩) [] tcok Try.func12 rfl rfl (by kernel_rfl) (by kernel_rfl) ?_
  refine xe0 [1, 2] [1] (by kernel_rfl) ?_
  refine xe1 (os := [Con Try.prog 40 [] [V.agg true [u8 kd, i64 pa, i32 lo, i32 hi, u32 ma, u32 wa]] [] (vb (cright kd pa lo hi))]) [(2, ⟨none, some ⟨vb (cright kd pa lo hi), [], []⟩⟩)] [2] [] (by kernel_rfl) ⟨(c ), trivial⟩ ?_
  refine AWP.ret ?_
  refine ⟨Or.inr rfl, Eq.trans (b := some ([], vb (cright kd pa lo hi && decide (rp > 0) && decide (lv < 5) && decide (un ≥ -1) && decide (un < 16)))) (by kernel_rfl) ?_⟩
  (simp [mrt, Bool.and_assoc, e1, e2])
theorem con_newl (xs : List V) (n : Nat) (hn : 16 < n) (hn2 : n ≤ 100) : Con Try.prog 14 [] [.vs xs n] [] (.tup [.agg true (mcells [] 0), i64 1]) := by
  refine Con.of (C := ⟨Try.prog, tc, Try.f14.ntmps⟩) [] tcok Try.func14 rfl rfl (by kernel_rfl) (by kernel_rfl) ?_
  refine xe0 [0, 2, 3] [2] (by kernel_rfl) ?_
  refine AWP.seq ?_
  refine xe0 [0, 2, 3, 9] [2] (by kernel_rfl) ?_
  refine AWP.cond (b := decide ((↑n : Int) > 16)) (by kernel_rfl) (fun hq3 => ?_) (fun hq3 => ?_)
  · simp only [decide_eq_true_eq] at hq3
    refine xe0 [0, 2, 3] [2] (by kernel_rfl) ?_
    refine AWP.ret ?_
    refine ⟨Or.inr rfl, Eq.trans (b := some ([], V.tup [V.agg true [u8 0, i64 0, i32 0, i32 0, u32 0, u32 0, u8 0, u8 0, u8 0, i64 0, vb false, u8 0, u8 0, u8 0, i32 0, vb false, u8 0, i64 0, i32 0, i32 0, u32 0, u32 0, u8 0, u8 0, u8 0, i64 0, vb false, u8 0, u8 0, u8 0, i32 0, vb false, u8 0, i64 0, i32 0, i32 0, u32 0, u32 0, u8 0, u8 0, u8 0, i64 0, vb false, u8 0, u8 0, u8 0, i32 0, vb false, u8 0, i64 0, i32 0, i32 0, u32 0, u32 0, u8 0, u8 0, u8 0, i64 0, vb false, u8 0, u8 0, u8 0, i32 0, vb false, u8 0, i64 0, i32 0, i32 0, u32 0, u32 0, u8 0, u8 0, u8 0, i64 0, vb false, u8 0, u8 0, u8 0, i32 0, vb false, u8 0, i64 0, i32 0, i32 0, u32 0, u32 0, u8 0, u8 0, u8 0, i64 0, vb false, u8 0, u8 0, u8 0, i32 0, vb false, u8 0, i64 0, i32 0, i32 0, u32 0, u32 0, u8 0, u8 0, u8 0, i64 0, vb false, u8 0, u8 0, u8 0, i32 0, vb false, u8 0, i64 0, i32 0, i32 0, u32 0, u32 0, u8 0, u8 0, u8 0, i64 0, vb false, u8 0, u8 0, u8 0, i32 0, vb false, u8 0, i64 0, i32 0, i32 0, u32 0, u32 0, u8 0, u8 0, u8 0, i64 0, vb false, u8 0, u8 0, u8 0, i32 0, vb false, u8 0, i64 0, i32 0, i32 0, u32 0, u32 0, u8 0, u8 0, u8 0, i64 0, vb false, u8 0, u8 0, u8 0, i32 0, vb false, u8 0, i64 0, i32 0, i32 0, u32 0, u32 0, u8 0, u8 0, u8 0, i64 0, vb false, u8 0, u8 0, u8 0, i32 0, vb false, u8 0, i64 0, i32 0, i32 0, u32 0, u32 0, u8 0, u8 0, u8 0, i64 0, vb false, u8 0, u8 0, u8 0, i32 0, vb false, u8 0, i64 0, i32 0, i32 0, u32 0, u32 0, u8 0, u8 0, u8 0, i64 0, vb false, u8 0, u8 0, u8 0, i32 0, vb false, u8 0, i64 0, i32 0, i32 0, u32 0, u32 0, u8 0, u8 0, u8 0, i64 0, vb false, u8 0, u8 0, u8 0, i32 0, vb false, u8 0, i64 0, i32 0, i32 0, u32 0, u32 0, u8 0, u8 0, u8 0, i64 0, vb false, u8 0, u8 0, u8 0, i32 0, vb false, u8 0, i64 0, i32 0, i32 0, u32 0, u32 0, u8 0, u8 0, u8 0, i64 0, vb false, u8 0, u8 0, u8 0, i32 0, vb false, i64 0], i64 1])) (by kernel_rfl) ?_⟩
    first | rfl | (exfalso; omega)
  simp only [decide_eq_false_iff_not] at hq3
  (exfalso; omega)
theorem con_newx (xs : List V) (n j : Nat) (hn : n ≤ 16) (hj : j < n) (hx : ∀ i : Nat, i < n → ∃ (kd pa lo hi ma wa rp ev lv un : Int) (en : Bool) (r : List V), xs.drop (i * 11) = u8 kd :: i64 pa :: i32 lo :: i32 hi :: u32 ma :: u32 wa :: u8 rp :: u8 ev :: u8 lv :: i64 un :: vb en :: r ∧ (i < j → mrt kd pa lo hi rp lv un = true) ∧ (i = j → mrt kd pa lo hi rp lv un = false)) : Con Try.prog 14 [] [.vs xs n] [] (.tup [.agg true (mcells [] 0), i64 1]) := by
  refine Con.of (C := ⟨Try.prog, tc, Try.f14.ntmps⟩) [] tcok Try.func14 rfl rfl (by kernel_rfl) (by kernel_rfl) ?_
  refine xe0 [0, 2, 3] [2] (by kernel_rfl) ?_
  refine AWP.seq ?_
  refine xe0 [0, 2, 3, 9] [2] (by kernel_rfl) ?_
  refine AWP.cond (b := decide ((↑n : Int) > 16)) (by kernel_rfl) (fun hq4 => ?_) (fun hq4 => ?_)
  · simp only [decide_eq_true_eq] at hq4
    (exfalso; omega)
  simp only [decide_eq_false_iff_not] at hq4
  refine AWP.skip ?_
  refine xe0 [0, 2, 3, 4] [2, 4] (by kernel_rfl) ?_
  refine AWP.seq ?_
  refine xe0 [2, 3, 4, 14, 15, 16] [2, 4] (by kernel_rfl) ?_
  refine AWP.block ?_
  refine AWP.loopI [2, 3, 4, 14, 15, 16] [2, 4] (fun N s' => ∃ (i : Int) (L : List V), s' = St.mk [(2, T.plain (V.ptr 2 0)), (3, T.plain (i64 0)), (4, T.plain (V.ptr 4 0)), (14, T.plain (V.vs xs n)), (15, T.plain (i64 (n : Int))), (16, T.plain (i64 i))] [(2, Blk.mk (mcells [] 0) true 257 none), (4, Blk.mk L true 257 none)] ∧ L.length = 257 ∧ 0 ≤ i ∧ i ≤ j ∧ (N : Int) = n - i) n (s0 := St.mk [(2, T.plain (V.ptr 2 0)), (3, T.plain (i64 0)), (4, T.plain (V.ptr 4 0)), (14, T.plain (V.vs xs n)), (15, T.plain (i64 (n : Int))), (16, T.plain (i64 0))] [(2, Blk.mk (mcells [] 0) true 257 none), (4, Blk.mk (mcells [] n) true 257 none)]) (by kernel_rfl) ?_ ?_
  · exact ⟨0, _, rfl, rfl, by omega, by omega, by omega⟩
  rintro N s' ⟨i, L, rfl, hL, hi, hi2, hN⟩
  obtain ⟨kd, pa, lo, hi', ma, wa, rp, ev, lv, un, en, r, kx, hr, hr2⟩ := hx i.toNat (by omega)
  have c := con_mrightg kd pa lo hi' ma wa rp ev lv un en
  by_cases hlt : i < j
  · rw [hr (by omega)] at c
    have hput : (putC (11 == 1) L (0 + Int.toNat i * 16 + 0) [u8 kd, i64 pa, i32 lo, i32 hi', u32 ma, u32 wa, u8 rp, u8 ev, u8 lv, i64 un, vb en]).length = 257 := by
      rw [putC_eq (by rw [hL]; show 0 + i.toNat * 16 + 0 + 11 ≤ 257; omega)]
      unfold putAt
      simp [hL]
      omega
    refine xe0 [2, 3, 4, 14, 15, 16, 17] [2, 4] (by kernel_rfl) ?_
    refine AWP.seq ?_
    refine AWP.cond (b := decide (i < (↑n : Int))) (by kernel_rfl) (fun hq5 => ?_) (fun hq5 => ?_)
    · simp only [decide_eq_true_eq] at hq5
      refine AWP.skip ?_
      refine AWP.seq ?_
      refine AWP.block ?_
      refine xe1 (os := [(0 : Int) ≤ i ∧ i < (↑n : Int), V.vp (List.drop (Int.toNat i * 11) xs) = V.vp (u8 kd :: i64 pa :: i32 lo :: i32 hi' :: u32 ma :: u32 wa :: u8 rp :: u8 ev :: u8 lv :: i64 un :: vb en :: r)]) [(1, ⟨some (V.vp (u8 kd :: i64 pa :: i32 lo :: i32 hi' :: u32 ma :: u32 wa :: u8 rp :: u8 ev :: u8 lv :: i64 un :: vb en :: r)), none⟩)] [2, 3, 4, 5, 6, 14, 15, 16] [2, 4, 6] (by kernel_rfl) ⟨(by omega), (congrArg V.vp kx), trivial⟩ ?_
      refine AWP.seq ?_
      refine xe1 (os := [Con Try.prog 13 [] [V.agg true [u8 kd, i64 pa, i32 lo, i32 hi', u32 ma, u32 wa, u8 rp, u8 ev, u8 lv, i64 un, vb en]] [] (vb true)]) [(1, ⟨none, some ⟨vb true, [], []⟩⟩)] [2, 3, 4, 5, 6, 14, 15, 16, 23] [2, 4, 6] (by kernel_rfl) ⟨(c ), trivial⟩ ?_
      refine AWP.condF (by kernel_rfl) ?_
      refine AWP.skip ?_
      refine AWP.region tcok hmix [(3, ⟨some (V.ptr 4 (0 + Int.toNat i * 16)), none⟩), (5, ⟨some V.top, none⟩)] (os := [(0 : Int) ≤ i ∧ i < (↑(16 : Nat) : Int), V.ptr 4 (0 + Int.toNat i * 16) = V.ptr 4 (0 + Int.toNat i * 16), (11 : Nat) = (11 : Nat), (0 : Nat) + Int.toNat i * (16 : Nat) + (0 : Nat) + (11 : Nat) ≤ List.length L]) (sf := St.mk [(2, tp (V.ptr 2 0)), (3, tp (i64 0)), (4, tp (V.ptr 4 0)), (5, tp (i64 i)), (6, tp (V.ptr 6 0)), (14, tp (V.vs xs n)), (15, tp (i64 (↑n : Int))), (16, tp (i64 i)), (23, tp (vb false)), (25, tp (i64 i)), (26, tp (V.agg true [u8 kd, i64 pa, i32 lo, i32 hi', u32 ma, u32 wa, u8 rp, u8 ev, u8 lv, i64 un, vb en])), (27, tp (V.ptr 4 0)), (28, tp (V.ptr 4 (0 + Int.toNat i * 16))), (29, tp (V.ptr 4 (0 + Int.toNat i * 16 + 0)))] [(2, Blk.mk [u8 0, i64 0, i32 0, i32 0, u32 0, u32 0, u8 0, u8 0, u8 0, i64 0, vb false, u8 0, u8 0, u8 0, i32 0, vb false, u8 0, i64 0, i32 0, i32 0, u32 0, u32 0, u8 0, u8 0, u8 0, i64 0, vb false, u8 0, u8 0, u8 0, i32 0, vb false, u8 0, i64 0, i32 0, i32 0, u32 0, u32 0, u8 0, u8 0, u8 0, i64 0, vb false, u8 0, u8 0, u8 0, i32 0, vb false, u8 0, i64 0, i32 0, i32 0, u32 0, u32 0, u8 0, u8 0, u8 0, i64 0, vb false, u8 0, u8 0, u8 0, i32 0, vb false, u8 0, i64 0, i32 0, i32 0, u32 0, u32 0, u8 0, u8 0, u8 0, i64 0, vb false, u8 0, u8 0, u8 0, i32 0, vb false, u8 0, i64 0, i32 0, i32 0, u32 0, u32 0, u8 0, u8 0, u8 0, i64 0, vb false, u8 0, u8 0, u8 0, i32 0, vb false, u8 0, i64 0, i32 0, i32 0, u32 0, u32 0, u8 0, u8 0, u8 0, i64 0, vb false, u8 0, u8 0, u8 0, i32 0, vb false, u8 0, i64 0, i32 0, i32 0, u32 0, u32 0, u8 0, u8 0, u8 0, i64 0, vb false, u8 0, u8 0, u8 0, i32 0, vb false, u8 0, i64 0, i32 0, i32 0, u32 0, u32 0, u8 0, u8 0, u8 0, i64 0, vb false, u8 0, u8 0, u8 0, i32 0, vb false, u8 0, i64 0, i32 0, i32 0, u32 0, u32 0, u8 0, u8 0, u8 0, i64 0, vb false, u8 0, u8 0, u8 0, i32 0, vb false, u8 0, i64 0, i32 0, i32 0, u32 0, u32 0, u8 0, u8 0, u8 0, i64 0, vb false, u8 0, u8 0, u8 0, i32 0, vb false, u8 0, i64 0, i32 0, i32 0, u32 0, u32 0, u8 0, u8 0, u8 0, i64 0, vb false, u8 0, u8 0, u8 0, i32 0, vb false, u8 0, i64 0, i32 0, i32 0, u32 0, u32 0, u8 0, u8 0, u8 0, i64 0, vb false, u8 0, u8 0, u8 0, i32 0, vb false, u8 0, i64 0, i32 0, i32 0, u32 0, u32 0, u8 0, u8 0, u8 0, i64 0, vb false, u8 0, u8 0, u8 0, i32 0, vb false, u8 0, i64 0, i32 0, i32 0, u32 0, u32 0, u8 0, u8 0, u8 0, i64 0, vb false, u8 0, u8 0, u8 0, i32 0, vb false, u8 0, i64 0, i32 0, i32 0, u32 0, u32 0, u8 0, u8 0, u8 0, i64 0, vb false, u8 0, u8 0, u8 0, i32 0, vb false, i64 0] true 257 none), (4, Blk.mk (putC (11 == 1) L (0 + Int.toNat i * 16 + 0) [u8 kd, i64 pa, i32 lo, i32 hi', u32 ma, u32 wa, u8 rp, u8 ev, u8 lv, i64 un, vb en]) true 257 none), (6, Blk.mk [u8 kd, i64 pa, i32 lo, i32 hi', u32 ma, u32 wa, u8 rp, u8 ev, u8 lv, i64 un, vb en] true 11 none)]) (by kernel_rfl) ⟨(by omega), rfl, (by omega), (by omega), trivial⟩ ?_
      refine AWP.keep' [2, 3, 4, 14, 15, 16] [2, 4] (sf := St.mk [(2, tp (V.ptr 2 0)), (3, tp (i64 0)), (4, tp (V.ptr 4 0)), (14, tp (V.vs xs n)), (15, tp (i64 (↑n : Int))), (16, tp (i64 i))] [(2, Blk.mk [u8 0, i64 0, i32 0, i32 0, u32 0, u32 0, u8 0, u8 0, u8 0, i64 0, vb false, u8 0, u8 0, u8 0, i32 0, vb false, u8 0, i64 0, i32 0, i32 0, u32 0, u32 0, u8 0, u8 0, u8 0, i64 0, vb false, u8 0, u8 0, u8 0, i32 0, vb false, u8 0, i64 0, i32 0, i32 0, u32 0, u32 0, u8 0, u8 0, u8 0, i64 0, vb false, u8 0, u8 0, u8 0, i32 0, vb false, u8 0, i64 0, i32 0, i32 0, u32 0, u32 0, u8 0, u8 0, u8 0, i64 0, vb false, u8 0, u8 0, u8 0, i32 0, vb false, u8 0, i64 0, i32 0, i32 0, u32 0, u32 0, u8 0, u8 0, u8 0, i64 0, vb false, u8 0, u8 0, u8 0, i32 0, vb false, u8 0, i64 0, i32 0, i32 0, u32 0, u32 0, u8 0, u8 0, u8 0, i64 0, vb false, u8 0, u8 0, u8 0, i32 0, vb false, u8 0, i64 0, i32 0, i32 0, u32 0, u32 0, u8 0, u8 0, u8 0, i64 0, vb false, u8 0, u8 0, u8 0, i32 0, vb false, u8 0, i64 0, i32 0, i32 0, u32 0, u32 0, u8 0, u8 0, u8 0, i64 0, vb false, u8 0, u8 0, u8 0, i32 0, vb false, u8 0, i64 0, i32 0, i32 0, u32 0, u32 0, u8 0, u8 0, u8 0, i64 0, vb false, u8 0, u8 0, u8 0, i32 0, vb false, u8 0, i64 0, i32 0, i32 0, u32 0, u32 0, u8 0, u8 0, u8 0, i64 0, vb false, u8 0, u8 0, u8 0, i32 0, vb false, u8 0, i64 0, i32 0, i32 0, u32 0, u32 0, u8 0, u8 0, u8 0, i64 0, vb false, u8 0, u8 0, u8 0, i32 0, vb false, u8 0, i64 0, i32 0, i32 0, u32 0, u32 0, u8 0, u8 0, u8 0, i64 0, vb false, u8 0, u8 0, u8 0, i32 0, vb false, u8 0, i64 0, i32 0, i32 0, u32 0, u32 0, u8 0, u8 0, u8 0, i64 0, vb false, u8 0, u8 0, u8 0, i32 0, vb false, u8 0, i64 0, i32 0, i32 0, u32 0, u32 0, u8 0, u8 0, u8 0, i64 0, vb false, u8 0, u8 0, u8 0, i32 0, vb false, u8 0, i64 0, i32 0, i32 0, u32 0, u32 0, u8 0, u8 0, u8 0, i64 0, vb false, u8 0, u8 0, u8 0, i32 0, vb false, u8 0, i64 0, i32 0, i32 0, u32 0, u32 0, u8 0, u8 0, u8 0, i64 0, vb false, u8 0, u8 0, u8 0, i32 0, vb false, i64 0] true 257 none), (4, Blk.mk (putC (11 == 1) L (0 + Int.toNat i * 16 + 0) [u8 kd, i64 pa, i32 lo, i32 hi', u32 ma, u32 wa, u8 rp, u8 ev, u8 lv, i64 un, vb en]) true 257 none)]) (by kernel_rfl) ?_
      refine AWP.region tcok hmix [(0, ⟨some (i64 (i + 1)), none⟩)] (os := [i64 (IntKind.wrap IntKind.i64 (i + 1)) = i64 (i + 1)]) (sf := St.mk [(2, tp (V.ptr 2 0)), (3, tp (i64 0)), (4, tp (V.ptr 4 0)), (14, tp (V.vs xs n)), (15, tp (i64 (↑n : Int))), (16, tp (i64 (i + 1))), (30, tp (i64 (i + 1)))] [(2, Blk.mk [u8 0, i64 0, i32 0, i32 0, u32 0, u32 0, u8 0, u8 0, u8 0, i64 0, vb false, u8 0, u8 0, u8 0, i32 0, vb false, u8 0, i64 0, i32 0, i32 0, u32 0, u32 0, u8 0, u8 0, u8 0, i64 0, vb false, u8 0, u8 0, u8 0, i32 0, vb false, u8 0, i64 0, i32 0, i32 0, u32 0, u32 0, u8 0, u8 0, u8 0, i64 0, vb false, u8 0, u8 0, u8 0, i32 0, vb false, u8 0, i64 0, i32 0, i32 0, u32 0, u32 0, u8 0, u8 0, u8 0, i64 0, vb false, u8 0, u8 0, u8 0, i32 0, vb false, u8 0, i64 0, i32 0, i32 0, u32 0, u32 0, u8 0, u8 0, u8 0, i64 0, vb false, u8 0, u8 0, u8 0, i32 0, vb false, u8 0, i64 0, i32 0, i32 0, u32 0, u32 0, u8 0, u8 0, u8 0, i64 0, vb false, u8 0, u8 0, u8 0, i32 0, vb false, u8 0, i64 0, i32 0, i32 0, u32 0, u32 0, u8 0, u8 0, u8 0, i64 0, vb false, u8 0, u8 0, u8 0, i32 0, vb false, u8 0, i64 0, i32 0, i32 0, u32 0, u32 0, u8 0, u8 0, u8 0, i64 0, vb false, u8 0, u8 0, u8 0, i32 0, vb false, u8 0, i64 0, i32 0, i32 0, u32 0, u32 0, u8 0, u8 0, u8 0, i64 0, vb false, u8 0, u8 0, u8 0, i32 0, vb false, u8 0, i64 0, i32 0, i32 0, u32 0, u32 0, u8 0, u8 0, u8 0, i64 0, vb false, u8 0, u8 0, u8 0, i32 0, vb false, u8 0, i64 0, i32 0, i32 0, u32 0, u32 0, u8 0, u8 0, u8 0, i64 0, vb false, u8 0, u8 0, u8 0, i32 0, vb false, u8 0, i64 0, i32 0, i32 0, u32 0, u32 0, u8 0, u8 0, u8 0, i64 0, vb false, u8 0, u8 0, u8 0, i32 0, vb false, u8 0, i64 0, i32 0, i32 0, u32 0, u32 0, u8 0, u8 0, u8 0, i64 0, vb false, u8 0, u8 0, u8 0, i32 0, vb false, u8 0, i64 0, i32 0, i32 0, u32 0, u32 0, u8 0, u8 0, u8 0, i64 0, vb false, u8 0, u8 0, u8 0, i32 0, vb false, u8 0, i64 0, i32 0, i32 0, u32 0, u32 0, u8 0, u8 0, u8 0, i64 0, vb false, u8 0, u8 0, u8 0, i32 0, vb false, u8 0, i64 0, i32 0, i32 0, u32 0, u32 0, u8 0, u8 0, u8 0, i64 0, vb false, u8 0, u8 0, u8 0, i32 0, vb false, i64 0] true 257 none), (4, Blk.mk (putC (11 == 1) L (0 + Int.toNat i * 16 + 0) [u8 kd, i64 pa, i32 lo, i32 hi', u32 ma, u32 wa, u8 rp, u8 ev, u8 lv, i64 un, vb en]) true 257 none)]) (by kernel_rfl) ⟨(wr_i64 (by omega) (by omega)), trivial⟩ ?_
      refine ⟨St.mk [(2, tp (V.ptr 2 0)), (3, tp (i64 0)), (4, tp (V.ptr 4 0)), (14, tp (V.vs xs n)), (15, tp (i64 (↑n : Int))), (16, tp (i64 (i + 1)))] [(2, Blk.mk [u8 0, i64 0, i32 0, i32 0, u32 0, u32 0, u8 0, u8 0, u8 0, i64 0, vb false, u8 0, u8 0, u8 0, i32 0, vb false, u8 0, i64 0, i32 0, i32 0, u32 0, u32 0, u8 0, u8 0, u8 0, i64 0, vb false, u8 0, u8 0, u8 0, i32 0, vb false, u8 0, i64 0, i32 0, i32 0, u32 0, u32 0, u8 0, u8 0, u8 0, i64 0, vb false, u8 0, u8 0, u8 0, i32 0, vb false, u8 0, i64 0, i32 0, i32 0, u32 0, u32 0, u8 0, u8 0, u8 0, i64 0, vb false, u8 0, u8 0, u8 0, i32 0, vb false, u8 0, i64 0, i32 0, i32 0, u32 0, u32 0, u8 0, u8 0, u8 0, i64 0, vb false, u8 0, u8 0, u8 0, i32 0, vb false, u8 0, i64 0, i32 0, i32 0, u32 0, u32 0, u8 0, u8 0, u8 0, i64 0, vb false, u8 0, u8 0, u8 0, i32 0, vb false, u8 0, i64 0, i32 0, i32 0, u32 0, u32 0, u8 0, u8 0, u8 0, i64 0, vb false, u8 0, u8 0, u8 0, i32 0, vb false, u8 0, i64 0, i32 0, i32 0, u32 0, u32 0, u8 0, u8 0, u8 0, i64 0, vb false, u8 0, u8 0, u8 0, i32 0, vb false, u8 0, i64 0, i32 0, i32 0, u32 0, u32 0, u8 0, u8 0, u8 0, i64 0, vb false, u8 0, u8 0, u8 0, i32 0, vb false, u8 0, i64 0, i32 0, i32 0, u32 0, u32 0, u8 0, u8 0, u8 0, i64 0, vb false, u8 0, u8 0, u8 0, i32 0, vb false, u8 0, i64 0, i32 0, i32 0, u32 0, u32 0, u8 0, u8 0, u8 0, i64 0, vb false, u8 0, u8 0, u8 0, i32 0, vb false, u8 0, i64 0, i32 0, i32 0, u32 0, u32 0, u8 0, u8 0, u8 0, i64 0, vb false, u8 0, u8 0, u8 0, i32 0, vb false, u8 0, i64 0, i32 0, i32 0, u32 0, u32 0, u8 0, u8 0, u8 0, i64 0, vb false, u8 0, u8 0, u8 0, i32 0, vb false, u8 0, i64 0, i32 0, i32 0, u32 0, u32 0, u8 0, u8 0, u8 0, i64 0, vb false, u8 0, u8 0, u8 0, i32 0, vb false, u8 0, i64 0, i32 0, i32 0, u32 0, u32 0, u8 0, u8 0, u8 0, i64 0, vb false, u8 0, u8 0, u8 0, i32 0, vb false, u8 0, i64 0, i32 0, i32 0, u32 0, u32 0, u8 0, u8 0, u8 0, i64 0, vb false, u8 0, u8 0, u8 0, i32 0, vb false, i64 0] true 257 none), (4, Blk.mk (putC (11 == 1) L (0 + Int.toNat i * 16 + 0) [u8 kd, i64 pa, i32 lo, i32 hi', u32 ma, u32 wa, u8 rp, u8 ev, u8 lv, i64 un, vb en]) true 257 none)], by kernel_rfl, ?_⟩
      first | (exact ⟨(n - (i + 1)).toNat, (by omega), i + 1, _, rfl, hput, (by omega), (by omega), (by omega)⟩) | (exfalso; omega)
    simp only [decide_eq_false_iff_not] at hq5
    (exfalso; omega)
  · rw [hr2 (by omega)] at c
    refine xe0 [2, 3, 4, 14, 15, 16, 17] [2, 4] (by kernel_rfl) ?_
    refine AWP.seq ?_
    refine AWP.cond (b := decide (i < (↑n : Int))) (by kernel_rfl) (fun hq7 => ?_) (fun hq7 => ?_)
    · simp only [decide_eq_true_eq] at hq7
      refine AWP.skip ?_
      refine AWP.seq ?_
      refine AWP.block ?_
      refine xe1 (os := [(0 : Int) ≤ i ∧ i < (↑n : Int), V.vp (List.drop (Int.toNat i * 11) xs) = V.vp (u8 kd :: i64 pa :: i32 lo :: i32 hi' :: u32 ma :: u32 wa :: u8 rp :: u8 ev :: u8 lv :: i64 un :: vb en :: r)]) [(1, ⟨some (V.vp (u8 kd :: i64 pa :: i32 lo :: i32 hi' :: u32 ma :: u32 wa :: u8 rp :: u8 ev :: u8 lv :: i64 un :: vb en :: r)), none⟩)] [2, 3, 4, 5, 6, 14, 15, 16] [2, 4, 6] (by kernel_rfl) ⟨(by omega), (congrArg V.vp kx), trivial⟩ ?_
      refine AWP.seq ?_
      refine xe1 (os := [Con Try.prog 13 [] [V.agg true [u8 kd, i64 pa, i32 lo, i32 hi', u32 ma, u32 wa, u8 rp, u8 ev, u8 lv, i64 un, vb en]] [] (vb false)]) [(1, ⟨none, some ⟨vb false, [], []⟩⟩)] [2, 3, 4, 5, 6, 14, 15, 16, 23] [2, 4, 6] (by kernel_rfl) ⟨(c ), trivial⟩ ?_
      refine AWP.condT (by kernel_rfl) ?_
      refine xe0 [2, 3, 4, 5, 6, 14, 15, 16] [2, 4, 6] (by kernel_rfl) ?_
      refine AWP.ret ?_
      refine ⟨Or.inr rfl, Eq.trans (b := some ([], V.tup [V.agg true [u8 0, i64 0, i32 0, i32 0, u32 0, u32 0, u8 0, u8 0, u8 0, i64 0, vb false, u8 0, u8 0, u8 0, i32 0, vb false, u8 0, i64 0, i32 0, i32 0, u32 0, u32 0, u8 0, u8 0, u8 0, i64 0, vb false, u8 0, u8 0, u8 0, i32 0, vb false, u8 0, i64 0, i32 0, i32 0, u32 0, u32 0, u8 0, u8 0, u8 0, i64 0, vb false, u8 0, u8 0, u8 0, i32 0, vb false, u8 0, i64 0, i32 0, i32 0, u32 0, u32 0, u8 0, u8 0, u8 0, i64 0, vb false, u8 0, u8 0, u8 0, i32 0, vb false, u8 0, i64 0, i32 0, i32 0, u32 0, u32 0, u8 0, u8 0, u8 0, i64 0, vb false, u8 0, u8 0, u8 0, i32 0, vb false, u8 0, i64 0, i32 0, i32 0, u32 0, u32 0, u8 0, u8 0, u8 0, i64 0, vb false, u8 0, u8 0, u8 0, i32 0, vb false, u8 0, i64 0, i32 0, i32 0, u32 0, u32 0, u8 0, u8 0, u8 0, i64 0, vb false, u8 0, u8 0, u8 0, i32 0, vb false, u8 0, i64 0, i32 0, i32 0, u32 0, u32 0, u8 0, u8 0, u8 0, i64 0, vb false, u8 0, u8 0, u8 0, i32 0, vb false, u8 0, i64 0, i32 0, i32 0, u32 0, u32 0, u8 0, u8 0, u8 0, i64 0, vb false, u8 0, u8 0, u8 0, i32 0, vb false, u8 0, i64 0, i32 0, i32 0, u32 0, u32 0, u8 0, u8 0, u8 0, i64 0, vb false, u8 0, u8 0, u8 0, i32 0, vb false, u8 0, i64 0, i32 0, i32 0, u32 0, u32 0, u8 0, u8 0, u8 0, i64 0, vb false, u8 0, u8 0, u8 0, i32 0, vb false, u8 0, i64 0, i32 0, i32 0, u32 0, u32 0, u8 0, u8 0, u8 0, i64 0, vb false, u8 0, u8 0, u8 0, i32 0, vb false, u8 0, i64 0, i32 0, i32 0, u32 0, u32 0, u8 0, u8 0, u8 0, i64 0, vb false, u8 0, u8 0, u8 0, i32 0, vb false, u8 0, i64 0, i32 0, i32 0, u32 0, u32 0, u8 0, u8 0, u8 0, i64 0, vb false, u8 0, u8 0, u8 0, i32 0, vb false, u8 0, i64 0, i32 0, i32 0, u32 0, u32 0, u8 0, u8 0, u8 0, i64 0, vb false, u8 0, u8 0, u8 0, i32 0, vb false, u8 0, i64 0, i32 0, i32 0, u32 0, u32 0, u8 0, u8 0, u8 0, i64 0, vb false, u8 0, u8 0, u8 0, i32 0, vb false, i64 0], i64 1])) (by kernel_rfl) ?_⟩
      first | rfl | (exfalso; omega)
    simp only [decide_eq_false_iff_not] at hq7
    (exfalso; omega)
end Go.Proofs.Ytlfjnkobnkfioaa
