/- PlanOnce. Printed by pln_once.py. -/
import Derived.Test.YtlfjnkobnkfioaaRg
import Derived.Test.YtlfjnkobnkfioaaPlnPa
namespace Go.Proofs.Ytlfjnkobnkfioaa
open Go.Ab
set_option maxRecDepth 100000
set_option maxHeartbeats 8000000
set_option linter.unusedSimpArgs false
set_option linter.unusedVariables false
theorem law_once (T0 : List Int) (m : Nat) (hm : T0.length = m) (hmm : m ≤ 9223372036854775807) (hT : BL T0) (st : Int) (hst : 0 ≤ st ∧ st < 256) : Con Try.prog 6 [] [.vs (u8s T0) m, u8 st] [] (vb true) := by
  refine Con.of (C := ⟨Try.prog, tc, Try.f6.ntmps⟩) [] tcok Try.func6 rfl rfl (by kernel_rfl) (by kernel_rfl) ?_
  refine AWP.seq ?_
  refine AWP.regionT tcok hmix [] [0, 1, 4] [] (os := []) (s' := St.mk [(0, tp (V.vs (u8s T0) m)), (1, tp (u8 st)), (4, tp (vb false))] []) (by kernel_rfl) trivial ?_
  refine AWP.seq ?_
  refine xe1 [(0, ⟨none, some ⟨vb true, [], []⟩⟩)] [0, 1, 4, 15] [] (by kernel_rfl) (AllP.c (con_awake27 ) AllP.n) ?_
  refine AWP.condF (by kernel_rfl) ?_
  refine AWP.skip ?_
  refine xe1 [(0, ⟨none, some ⟨V.ptr 3 0, [(1, Blk.mk [] true 0 (some (0, 0))), (2, Blk.mk [] true 0 (some (79, 3))), (3, Blk.mk [V.sl 2 0 0, V.mp 1, vb false] false 3 none)], []⟩⟩)] [0, 1, 4, 5] [170003, 170002, 170001] (by kernel_rfl) (AllP.c (con_pnew ) AllP.n) ?_
  refine xe0 [0, 1, 4, 5, 6] [170001, 170002, 170003] (by kernel_rfl) ?_
  refine AWP.seq ?_
  refine xe0 [1, 4, 5, 6, 17, 18, 19] [170003, 170002, 170001] (by kernel_rfl) ?_
  refine AWP.block ?_
  refine AWP.loopI [19, 18, 17, 5, 6, 1, 4] [170001, 170002, 170003] (fun N s' => ∃ (i : Int) (k : Nat) (L : List It) (K : List Int), s' = St.mk [(1, T.plain (u8 st)), (4, T.plain (vb false)), (5, T.plain (V.ptr 170003 0)), (6, T.plain (i64 ((k : Nat) : Int))), (17, T.plain (V.vs (u8s T0) m)), (18, T.plain (i64 (m : Int))), (19, T.plain (i64 i))] [(170001, Blk.mk (idsC K) true 0 (some (0, 0))), (170002, Blk.mk (rowsI L) true 0 (some (79, 3))), (170003, Blk.mk [V.sl 170002 0 k, V.mp 170001, vb false] false 3 none)] ∧ 0 ≤ i ∧ i ≤ m ∧ k = min i.toNat 32 ∧ L.length = k ∧ SortI L ∧ OnP k L ∧ K = idsR k ∧ (L.map It.id).Perm (idsR k) ∧ (N : Int) = m - i) m (s0 := St.mk [(1, T.plain (u8 st)), (4, T.plain (vb false)), (5, T.plain (V.ptr 170003 0)), (6, T.plain (i64 0)), (17, T.plain (V.vs (u8s T0) m)), (18, T.plain (i64 (m : Int))), (19, T.plain (i64 0))] [(170001, Blk.mk [] true 0 (some (0, 0))), (170002, Blk.mk [] true 0 (some (79, 3))), (170003, Blk.mk [V.sl 170002 0 0, V.mp 170001, vb false] false 3 none)]) (by kernel_rfl) ?_ ?_
  · exact ⟨0, 0, [], [], rfl, by omega, by omega, rfl, rfl, List.Pairwise.nil, fun a h => (by cases h), rfl, List.Perm.nil, by omega⟩
  rintro N s' ⟨i, k, L, K, rfl, hi, hi2, hk, hLl, hLs, hLp, hK, hLi, hN⟩
  by_cases hlt : i < m
  · have kx := u8s_at T0 i.toNat
    by_cases h32 : i < 32
    · obtain ⟨x, hx⟩ : ∃ x, T0.getD i.toNat 0 = x := ⟨_, rfl⟩
      rw [hx] at kx
      have hx2 : 0 ≤ x ∧ x < 256 := by rw [← hx]; exact hT.at_ _
      obtain ⟨L', hL'⟩ : ∃ L', insI ⟨x, i, [x, i], 2⟩ L = L' := ⟨_, rfl⟩
      obtain ⟨K', hK'⟩ : ∃ K', K ++ [i] = K' := ⟨_, rfl⟩
      have hki : (k : Int) = i := by omega
      have c1 := con_pins L k hLl (by omega) hLs K false x i [x, i] 2 rfl (by omega) (by rw [hK, ← hki]; exact idsR_new k) L' hL' K' hK'
      have q1 : L'.length = k + 1 := by rw [← hL', insI_len, hLl]
      have q2 : SortI L' := by rw [← hL']; exact insI_sort _ _ hLs
      have q3 : OnP (k + 1) L' := by rw [← hL']; exact hLp.ins hx2 hki.symm
      have q4 : K' = idsR (k + 1) := by rw [← hK', hK, ← hki]; exact idsR_next k
      have q5 : (L'.map It.id).Perm (idsR (k + 1)) := by rw [← hL']; exact perm_ins hLi hki.symm
      refine AWP.seq ?_
      refine AWP.regionT tcok hmix [] [1, 4, 5, 6, 17, 18, 19, 20] [170001, 170002, 170003] (os := []) (s' := St.mk [(1, tp (u8 st)), (4, tp (vb false)), (5, tp (V.ptr 170003 0)), (6, tp (i64 (↑k : Int))), (17, tp (V.vs (u8s T0) m)), (18, tp (i64 (↑m : Int))), (19, tp (i64 i)), (20, tp (vb (decide (i < (↑m : Int)))))] [(170001, Blk.mk (idsC K) true 0 (some (0, 0))), (170002, Blk.mk (rowsI L) true 0 (some (79, 3))), (170003, Blk.mk [V.sl 170002 0 k, V.mp 170001, vb false] false 3 none)]) (by kernel_rfl) trivial ?_
      refine AWP.seq ?_
      refine AWP.cond (b := decide (i < (↑m : Int))) (by kernel_rfl) (fun hq1 => ?_) (fun hq1 => ?_)
      · simp only [decide_eq_true_eq] at hq1
        refine AWP.skip ?_
        refine AWP.seq ?_
        refine AWP.block ?_
        refine AWP.seq ?_
        refine AWP.regionT tcok hmix [(1, ⟨some (V.vp (u8 x :: u8s (List.drop (Int.toNat i + 1) T0))), none⟩)] [1, 4, 5, 6, 7, 8, 17, 18, 19] [170003, 170002, 170001] (os := [(0 : Int) ≤ i ∧ i < (↑m : Int), V.vp (List.drop (Int.toNat i * 1) (u8s T0)) = V.vp (u8 x :: u8s (List.drop (Int.toNat i + 1) T0))]) (s' := St.mk [(1, tp (u8 st)), (4, tp (vb false)), (5, tp (V.ptr 170003 0)), (6, tp (i64 (↑k : Int))), (7, tp (i64 i)), (8, tp (u8 x)), (17, tp (V.vs (u8s T0) m)), (18, tp (i64 (↑m : Int))), (19, tp (i64 i))] [(170001, Blk.mk (idsC K) true 0 (some (0, 0))), (170002, Blk.mk (rowsI L) true 0 (some (79, 3))), (170003, Blk.mk [V.sl 170002 0 k, V.mp 170001, vb false] false 3 none)]) (by kernel_rfl) ⟨(by omega), (congrArg V.vp (kx (by omega))), trivial⟩ ?_
        refine xe0 [1, 4, 5, 6, 7, 8, 17, 18, 19, 25] [170003, 170002, 170001] (by kernel_rfl) ?_
        refine AWP.cond (b := decide (i < 32)) (by kernel_rfl) (fun hq2 => ?_) (fun hq2 => ?_)
        · simp only [decide_eq_true_eq] at hq2
          refine AWP.seq ?_
          refine AWP.seq ?_
          refine AWP.regionT tcok hmix [(2, ⟨some (u32 x), none⟩), (4, ⟨some (u16 i), none⟩), (7, ⟨some (u8 i), none⟩), (8, ⟨some V.bo, none⟩), (9, ⟨some (V.tup [V.sl 1000000000 170002 0, V.sl 2000000010 170003 0, V.sl 2000000011 170001 0]), some ⟨i64 0, [(1000000000, Blk.mk (rowsI L') true 0 (some (79, 3))), (2000000010, Blk.mk [V.sl 1000000000 0 (k + 1), V.mp 2000000011, vb false] false 3 none), (2000000011, Blk.mk (idsC K') true 0 (some (0, 0)))], []⟩⟩)] [1, 4, 5, 6, 17, 18, 19, 36] [170003, 170002, 170001] (os := [u32 (IntKind.wrap IntKind.u32 x) = u32 x, u16 (IntKind.wrap IntKind.u16 i) = u16 i, u8 (IntKind.wrap IntKind.u8 i) = u8 i, Con Try.prog 24 [(1000000000, Blk.mk (rowsI L) true 0 (some (79, 3))), (2000000010, Blk.mk [V.sl 1000000000 0 k, V.mp 2000000011, vb false] false 3 none), (2000000011, Blk.mk (idsC K) true 0 (some (0, 0)))] [V.ptr 2000000010 0, u32 x, u16 i, V.vs [u8 x, u8 i] 2] [(1000000000, Blk.mk (rowsI L') true 0 (some (79, 3))), (2000000010, Blk.mk [V.sl 1000000000 0 (k + 1), V.mp 2000000011, vb false] false 3 none), (2000000011, Blk.mk (idsC K') true 0 (some (0, 0)))] (i64 0)]) (s' := St.mk [(1, tp (u8 st)), (4, tp (vb false)), (5, tp (V.ptr 170003 0)), (6, tp (i64 (↑k : Int))), (17, tp (V.vs (u8s T0) m)), (18, tp (i64 (↑m : Int))), (19, tp (i64 i)), (36, tp (vb false))] [(170001, Blk.mk (idsC K') true 0 (some (0, 0))), (170002, Blk.mk (rowsI L') true 0 (some (79, 3))), (170003, Blk.mk [V.sl 170002 0 (k + 1), V.mp 170001, vb false] false 3 none)]) (by kernel_rfl) ⟨(wr_u32 (by omega) (by omega)), (wr_u16 (by omega) (by omega)), (wr_u8 (by omega) (by omega)), (c1 ), trivial⟩ ?_
          refine AWP.condF (by kernel_rfl) ?_
          refine AWP.skip ?_
          refine AWP.region tcok hmix [(1, ⟨some (i64 ((↑k : Int) + 1)), none⟩)] (os := [i64 (IntKind.wrap IntKind.i64 ((↑k : Int) + 1)) = i64 ((↑k : Int) + 1)]) (sf := St.mk [(1, tp (u8 st)), (4, tp (vb false)), (5, tp (V.ptr 170003 0)), (6, tp (i64 ((↑k : Int) + 1))), (17, tp (V.vs (u8s T0) m)), (18, tp (i64 (↑m : Int))), (19, tp (i64 i)), (36, tp (vb false)), (37, tp (i64 (↑k : Int))), (38, tp (i64 ((↑k : Int) + 1)))] [(170001, Blk.mk (idsC K') true 0 (some (0, 0))), (170002, Blk.mk (rowsI L') true 0 (some (79, 3))), (170003, Blk.mk [V.sl 170002 0 (k + 1), V.mp 170001, vb false] false 3 none)]) (by kernel_rfl) ⟨(wr_i64 (by omega) (by omega)), trivial⟩ ?_
          refine AWP.keep' [1, 4, 5, 6, 17, 18, 19] [170003, 170002, 170001] (sf := St.mk [(1, tp (u8 st)), (4, tp (vb false)), (5, tp (V.ptr 170003 0)), (6, tp (i64 ((↑k : Int) + 1))), (17, tp (V.vs (u8s T0) m)), (18, tp (i64 (↑m : Int))), (19, tp (i64 i))] [(170001, Blk.mk (idsC K') true 0 (some (0, 0))), (170002, Blk.mk (rowsI L') true 0 (some (79, 3))), (170003, Blk.mk [V.sl 170002 0 (k + 1), V.mp 170001, vb false] false 3 none)]) (by kernel_rfl) ?_
          refine AWP.region tcok hmix [(0, ⟨some (i64 (i + 1)), none⟩)] (os := [i64 (IntKind.wrap IntKind.i64 (i + 1)) = i64 (i + 1)]) (sf := St.mk [(1, tp (u8 st)), (4, tp (vb false)), (5, tp (V.ptr 170003 0)), (6, tp (i64 ((↑k : Int) + 1))), (17, tp (V.vs (u8s T0) m)), (18, tp (i64 (↑m : Int))), (19, tp (i64 (i + 1))), (39, tp (i64 (i + 1)))] [(170001, Blk.mk (idsC K') true 0 (some (0, 0))), (170002, Blk.mk (rowsI L') true 0 (some (79, 3))), (170003, Blk.mk [V.sl 170002 0 (k + 1), V.mp 170001, vb false] false 3 none)]) (by kernel_rfl) ⟨(wr_i64 (by omega) (by omega)), trivial⟩ ?_
          refine ⟨St.mk [(1, tp (u8 st)), (4, tp (vb false)), (5, tp (V.ptr 170003 0)), (6, tp (i64 ((↑k : Int) + 1))), (17, tp (V.vs (u8s T0) m)), (18, tp (i64 (↑m : Int))), (19, tp (i64 (i + 1)))] [(170001, Blk.mk (idsC K') true 0 (some (0, 0))), (170002, Blk.mk (rowsI L') true 0 (some (79, 3))), (170003, Blk.mk [V.sl 170002 0 (k + 1), V.mp 170001, vb false] false 3 none)], by kernel_rfl, ?_⟩
          first | (exact ⟨(m - (i + 1)).toNat, (by omega), i + 1, k + 1, L', K', rfl, (by omega), (by omega), (by omega), q1, q2, q3, q4, q5, (by omega)⟩) | (exfalso; omega)
        simp only [decide_eq_false_iff_not] at hq2
        (exfalso; omega)
      simp only [decide_eq_false_iff_not] at hq1
      (exfalso; omega)
    · refine AWP.seq ?_
      refine AWP.regionT tcok hmix [] [1, 4, 5, 6, 17, 18, 19, 20] [170001, 170002, 170003] (os := []) (s' := St.mk [(1, tp (u8 st)), (4, tp (vb false)), (5, tp (V.ptr 170003 0)), (6, tp (i64 (↑k : Int))), (17, tp (V.vs (u8s T0) m)), (18, tp (i64 (↑m : Int))), (19, tp (i64 i)), (20, tp (vb (decide (i < (↑m : Int)))))] [(170001, Blk.mk (idsC K) true 0 (some (0, 0))), (170002, Blk.mk (rowsI L) true 0 (some (79, 3))), (170003, Blk.mk [V.sl 170002 0 k, V.mp 170001, vb false] false 3 none)]) (by kernel_rfl) trivial ?_
      refine AWP.seq ?_
      refine AWP.cond (b := decide (i < (↑m : Int))) (by kernel_rfl) (fun hq4 => ?_) (fun hq4 => ?_)
      · simp only [decide_eq_true_eq] at hq4
        refine AWP.skip ?_
        refine AWP.seq ?_
        refine AWP.block ?_
        refine AWP.seq ?_
        refine AWP.regionT tcok hmix [(1, ⟨some (V.vp (u8 (List.getD T0 (Int.toNat i) 0) :: u8s (List.drop (Int.toNat i + 1) T0))), none⟩)] [1, 4, 5, 6, 7, 8, 17, 18, 19] [170003, 170002, 170001] (os := [(0 : Int) ≤ i ∧ i < (↑m : Int), V.vp (List.drop (Int.toNat i * 1) (u8s T0)) = V.vp (u8 (List.getD T0 (Int.toNat i) 0) :: u8s (List.drop (Int.toNat i + 1) T0))]) (s' := St.mk [(1, tp (u8 st)), (4, tp (vb false)), (5, tp (V.ptr 170003 0)), (6, tp (i64 (↑k : Int))), (7, tp (i64 i)), (8, tp (u8 (List.getD T0 (Int.toNat i) 0))), (17, tp (V.vs (u8s T0) m)), (18, tp (i64 (↑m : Int))), (19, tp (i64 i))] [(170001, Blk.mk (idsC K) true 0 (some (0, 0))), (170002, Blk.mk (rowsI L) true 0 (some (79, 3))), (170003, Blk.mk [V.sl 170002 0 k, V.mp 170001, vb false] false 3 none)]) (by kernel_rfl) ⟨(by omega), (congrArg V.vp (kx (by omega))), trivial⟩ ?_
        refine xe0 [1, 4, 5, 6, 7, 8, 17, 18, 19, 25] [170003, 170002, 170001] (by kernel_rfl) ?_
        refine AWP.cond (b := decide (i < 32)) (by kernel_rfl) (fun hq5 => ?_) (fun hq5 => ?_)
        · simp only [decide_eq_true_eq] at hq5
          (exfalso; omega)
        simp only [decide_eq_false_iff_not] at hq5
        refine AWP.skip ?_
        refine AWP.region tcok hmix [(0, ⟨some (i64 (i + 1)), none⟩)] (os := [i64 (IntKind.wrap IntKind.i64 (i + 1)) = i64 (i + 1)]) (sf := St.mk [(1, tp (u8 st)), (4, tp (vb false)), (5, tp (V.ptr 170003 0)), (6, tp (i64 (↑k : Int))), (7, tp (i64 i)), (8, tp (u8 (List.getD T0 (Int.toNat i) 0))), (17, tp (V.vs (u8s T0) m)), (18, tp (i64 (↑m : Int))), (19, tp (i64 (i + 1))), (25, tp (vb (decide (i < 32)))), (39, tp (i64 (i + 1)))] [(170001, Blk.mk (idsC K) true 0 (some (0, 0))), (170002, Blk.mk (rowsI L) true 0 (some (79, 3))), (170003, Blk.mk [V.sl 170002 0 k, V.mp 170001, vb false] false 3 none)]) (by kernel_rfl) ⟨(wr_i64 (by omega) (by omega)), trivial⟩ ?_
        refine ⟨St.mk [(1, tp (u8 st)), (4, tp (vb false)), (5, tp (V.ptr 170003 0)), (6, tp (i64 (↑k : Int))), (17, tp (V.vs (u8s T0) m)), (18, tp (i64 (↑m : Int))), (19, tp (i64 (i + 1)))] [(170001, Blk.mk (idsC K) true 0 (some (0, 0))), (170002, Blk.mk (rowsI L) true 0 (some (79, 3))), (170003, Blk.mk [V.sl 170002 0 k, V.mp 170001, vb false] false 3 none)], by kernel_rfl, ?_⟩
        first | (exact ⟨(m - (i + 1)).toNat, (by omega), i + 1, k, L, K, rfl, (by omega), (by omega), (by omega), hLl, hLs, hLp, hK, hLi, (by omega)⟩) | (exfalso; omega)
      simp only [decide_eq_false_iff_not] at hq4
      (exfalso; omega)
  have hk32 : k ≤ 32 := by omega
  refine AWP.seq ?_
  refine AWP.regionT tcok hmix [] [1, 4, 5, 6, 17, 18, 19, 20] [170001, 170002, 170003] (os := []) (s' := St.mk [(1, tp (u8 st)), (4, tp (vb false)), (5, tp (V.ptr 170003 0)), (6, tp (i64 (↑k : Int))), (17, tp (V.vs (u8s T0) m)), (18, tp (i64 (↑m : Int))), (19, tp (i64 i)), (20, tp (vb (decide (i < (↑m : Int)))))] [(170001, Blk.mk (idsC K) true 0 (some (0, 0))), (170002, Blk.mk (rowsI L) true 0 (some (79, 3))), (170003, Blk.mk [V.sl 170002 0 k, V.mp 170001, vb false] false 3 none)]) (by kernel_rfl) trivial ?_
  refine AWP.seq ?_
  refine AWP.cond (b := decide (i < (↑m : Int))) (by kernel_rfl) (fun hq6 => ?_) (fun hq6 => ?_)
  · simp only [decide_eq_true_eq] at hq6
    (exfalso; omega)
  simp only [decide_eq_false_iff_not] at hq6
  refine AWP.exit ?_
  refine AWP.seq ?_
  refine AWP.regionT tcok hmix [] [1, 4, 5, 6, 9] [170003, 40, 170002, 170001] (os := []) (s' := St.mk [(1, tp (u8 st)), (4, tp (vb false)), (5, tp (V.ptr 170003 0)), (6, tp (i64 (↑k : Int))), (9, tp (V.mp 40))] [(40, Blk.mk [] true 0 (some (0, 0))), (170001, Blk.mk (idsC K) true 0 (some (0, 0))), (170002, Blk.mk (rowsI L) true 0 (some (79, 3))), (170003, Blk.mk [V.sl 170002 0 k, V.mp 170001, vb false] false 3 none)]) (by kernel_rfl) trivial ?_
  refine xe0 [1, 4, 5, 6, 9, 10] [40, 170001, 170002, 170003] (by kernel_rfl) ?_
  refine AWP.seq ?_
  refine xe0 [1, 4, 5, 6, 9, 10, 11] [40, 170001, 170002, 170003] (by kernel_rfl) ?_
  refine AWP.block ?_
  have hnd : ((([] : List Int) ++ L.map It.id)).Nodup := by rw [List.nil_append]; exact hLi.nodup_iff.2 (idsR_nodup k)
  clear hN hlt hi hi2 hk hLi hK
  refine AWP.loopI [11, 1, 5, 10, 9, 6, 4] [40, 170001, 170002, 170003] (fun N s' => ∃ (now last : Int) (j : Nat) (L : List It) (K S : List Int), s' = St.mk [(1, T.plain (u8 st)), (4, T.plain (vb false)), (5, T.plain (V.ptr 170003 0)), (6, T.plain (i64 (k : Int))), (9, T.plain (V.mp 40)), (10, T.plain (u8 last)), (11, T.plain (i64 now))] [(40, Blk.mk (seenC S) true 0 (some (0, 0))), (170001, Blk.mk (idsC K) true 0 (some (0, 0))), (170002, Blk.mk (rowsI L) true 0 (some (79, 3))), (170003, Blk.mk [V.sl 170002 0 j, V.mp 170001, vb false] false 3 none)] ∧ (0 ≤ now ∧ now ≤ 600) ∧ (0 ≤ last ∧ last < 256) ∧ L.length = j ∧ SortI L ∧ OnP k L ∧ (∀ a ∈ L, last ≤ a.t ∧ now < a.t + (1 + st % 7)) ∧ (S ++ L.map It.id).Nodup ∧ S.length + j = k ∧ (N : Int) = 600 - now) 600 (s0 := St.mk [(1, T.plain (u8 st)), (4, T.plain (vb false)), (5, T.plain (V.ptr 170003 0)), (6, T.plain (i64 (k : Int))), (9, T.plain (V.mp 40)), (10, T.plain (u8 0)), (11, T.plain (i64 0))] [(40, Blk.mk [] true 0 (some (0, 0))), (170001, Blk.mk (idsC K) true 0 (some (0, 0))), (170002, Blk.mk (rowsI L) true 0 (some (79, 3))), (170003, Blk.mk [V.sl 170002 0 k, V.mp 170001, vb false] false 3 none)]) (by kernel_rfl) ?_ ?_
  · exact ⟨0, 0, k, L, K, [], rfl, by omega, by omega, hLl, hLs, hLp, fun a ha => (by have := hLp a ha; omega), hnd, by simp, by omega⟩
  clear hnd hLl hLs hLp
  rintro N s' ⟨now, last, j, L, K, S, rfl, hnow, hlast, hLl, hLs, hLp, hLt, hnd, hSj, hN⟩
  have hj32 : j ≤ 32 := by omega
  by_cases hle : now ≤ 255 + st
  · obtain ⟨p, hp⟩ : ∃ p, posI now L = p := ⟨_, rfl⟩
    have hpl := posI_le now L
    rw [hp, hLl] at hpl
    obtain ⟨j', hj'⟩ : ∃ j', j - p = j' := ⟨_, rfl⟩
    obtain ⟨L', hL'⟩ : ∃ L', L.drop p = L' := ⟨_, rfl⟩
    obtain ⟨K', hK'⟩ : ∃ K', eraI K (L.take p) = K' := ⟨_, rfl⟩
    have c1 := con_due L j hLl (by omega) K now p hp j' hj' L' hL' K' hK'
    refine AWP.seq ?_
    refine AWP.seq ?_
    refine AWP.regionT tcok hmix [(2, ⟨some (i64 st), none⟩), (3, ⟨some (i64 (255 + st)), none⟩)] [1, 4, 5, 6, 9, 10, 11, 45] [170003, 40, 170002, 170001] (os := [i64 (IntKind.wrap IntKind.i64 st) = i64 st, i64 (IntKind.wrap IntKind.i64 (255 + st)) = i64 (255 + st)]) (s' := St.mk [(1, tp (u8 st)), (4, tp (vb false)), (5, tp (V.ptr 170003 0)), (6, tp (i64 (↑k : Int))), (9, tp (V.mp 40)), (10, tp (u8 last)), (11, tp (i64 now)), (45, tp (vb (decide (now ≤ 255 + st))))] [(40, Blk.mk (seenC S) true 0 (some (0, 0))), (170001, Blk.mk (idsC K) true 0 (some (0, 0))), (170002, Blk.mk (rowsI L) true 0 (some (79, 3))), (170003, Blk.mk [V.sl 170002 0 j, V.mp 170001, vb false] false 3 none)]) (by kernel_rfl) ⟨(wr_i64 (by omega) (by omega)), (wr_i64 (by omega) (by omega)), trivial⟩ ?_
    refine AWP.cond (b := decide (now ≤ 255 + st)) (by kernel_rfl) (fun hq7 => ?_) (fun hq7 => ?_)
    rotate_left
    · simp only [decide_eq_false_iff_not] at hq7
      (exfalso; omega)
    simp only [decide_eq_true_eq] at hq7
    refine AWP.skip ?_
    refine AWP.seq ?_
    refine AWP.block ?_
    refine AWP.seq ?_
    refine AWP.regionT tcok hmix [(2, ⟨some (u32 now), none⟩), (3, ⟨some (V.tup [V.sl 1000000000 170002 0, V.sl 2000000010 170003 0, V.sl 2000000011 170001 0]), some ⟨V.vs (tcC (List.take p L)) p, [(1000000000, Blk.mk (rowsI L') true 0 (some (79, 3))), (2000000010, Blk.mk [V.sl 1000000000 0 j', V.mp 2000000011, vb false] false 3 none), (2000000011, Blk.mk (idsC K') true 0 (some (0, 0)))], []⟩⟩)] [1, 4, 5, 6, 9, 10, 11, 55, 56, 57] [170003, 40, 170002, 170001] (os := [u32 (IntKind.wrap IntKind.u32 now) = u32 now, Con Try.prog 25 [(1000000000, Blk.mk (rowsI L) true 0 (some (79, 3))), (2000000010, Blk.mk [V.sl 1000000000 0 j, V.mp 2000000011, vb false] false 3 none), (2000000011, Blk.mk (idsC K) true 0 (some (0, 0)))] [V.ptr 2000000010 0, u32 now] [(1000000000, Blk.mk (rowsI L') true 0 (some (79, 3))), (2000000010, Blk.mk [V.sl 1000000000 0 j', V.mp 2000000011, vb false] false 3 none), (2000000011, Blk.mk (idsC K') true 0 (some (0, 0)))] (V.vs (tcC (List.take p L)) p)]) (s' := St.mk [(1, tp (u8 st)), (4, tp (vb false)), (5, tp (V.ptr 170003 0)), (6, tp (i64 (↑k : Int))), (9, tp (V.mp 40)), (10, tp (u8 last)), (11, tp (i64 now)), (55, tp (V.vs (tcC (List.take p L)) p)), (56, tp (i64 (↑p : Int))), (57, tp (i64 0))] [(40, Blk.mk (seenC S) true 0 (some (0, 0))), (170001, Blk.mk (idsC K') true 0 (some (0, 0))), (170002, Blk.mk (rowsI L') true 0 (some (79, 3))), (170003, Blk.mk [V.sl 170002 0 j', V.mp 170001, vb false] false 3 none)]) (by kernel_rfl) ⟨(wr_u32 (by omega) (by omega)), (c1 ), trivial⟩ ?_
    refine AWP.block ?_
    have hpt : ∀ a ∈ L', last ≤ a.t ∧ now < a.t := fun a ha => by
      rw [← hL'] at ha
      obtain ⟨i, hi, rfl⟩ := List.getElem_of_mem ha
      rw [List.getElem_drop]
      have hi2 : p + i < L.length := by rw [List.length_drop] at hi; omega
      have h1 := posI_at (t := now) hLs (List.getElem?_eq_getElem hi2)
      have h2 := hLt _ (List.getElem_mem hi2)
      refine ⟨h2.1, Classical.byContradiction fun hc => ?_⟩
      have := h1.1 (by omega)
      omega
    refine AWP.loopI [57, 56, 55, 11, 10, 9, 1, 5, 6, 4] [40, 170001, 170002, 170003] (fun N s' => ∃ (i last2 : Int) (S2 : List Int), s' = St.mk [(1, T.plain (u8 st)), (4, T.plain (vb false)), (5, T.plain (V.ptr 170003 0)), (6, T.plain (i64 (k : Int))), (9, T.plain (V.mp 40)), (10, T.plain (u8 last2)), (11, T.plain (i64 now)), (55, T.plain (V.vs (tcC (List.take p L)) p)), (56, T.plain (i64 (p : Int))), (57, T.plain (i64 i))] [(40, Blk.mk (seenC S2) true 0 (some (0, 0))), (170001, Blk.mk (idsC K') true 0 (some (0, 0))), (170002, Blk.mk (rowsI L') true 0 (some (79, 3))), (170003, Blk.mk [V.sl 170002 0 j', V.mp 170001, vb false] false 3 none)] ∧ (0 ≤ i ∧ i ≤ p) ∧ (0 ≤ last2 ∧ last2 < 256) ∧ S ++ (L.take i.toNat).map It.id = S2 ∧ (∀ a ∈ L.drop i.toNat, last2 ≤ a.t) ∧ (N : Int) = p - i) p (s0 := St.mk [(1, T.plain (u8 st)), (4, T.plain (vb false)), (5, T.plain (V.ptr 170003 0)), (6, T.plain (i64 (k : Int))), (9, T.plain (V.mp 40)), (10, T.plain (u8 last)), (11, T.plain (i64 now)), (55, T.plain (V.vs (tcC (List.take p L)) p)), (56, T.plain (i64 (p : Int))), (57, T.plain (i64 0))] [(40, Blk.mk (seenC S) true 0 (some (0, 0))), (170001, Blk.mk (idsC K') true 0 (some (0, 0))), (170002, Blk.mk (rowsI L') true 0 (some (79, 3))), (170003, Blk.mk [V.sl 170002 0 j', V.mp 170001, vb false] false 3 none)]) (by kernel_rfl) ?_ ?_
    · exact ⟨0, last, S, rfl, by omega, hlast, by simp, fun a ha => (hLt a (by simpa using ha)).1, by omega⟩
    have hN0 := hN
    clear hN
    rintro N s' ⟨i, last2, S2, rfl, hi, hlast2, hS2, hld, hN⟩
    by_cases hlt : i < p
    · obtain ⟨a, ha⟩ : ∃ a, L[i.toNat]? = some a := ⟨_, List.getElem?_eq_getElem (by omega)⟩
      have hd := tcO_dr hLp ha (show i.toNat < p by omega)
      obtain ⟨a1, a2, _, _⟩ := hLp a (List.mem_of_getElem? ha)
      have hat : a.t ≤ now := Classical.byContradiction fun hc => by
        have := (posI_at (t := now) hLs ha).2 (by omega)
        omega
      have hal : last2 ≤ a.t := hld a (by obtain ⟨hl, rfl⟩ := List.getElem?_eq_some_iff.1 ha; rw [List.drop_eq_getElem_cons hl]; exact List.mem_cons_self ..)
      have hsp : L = L.take i.toNat ++ a :: L.drop (i.toNat + 1) := by obtain ⟨hl, rfl⟩ := List.getElem?_eq_some_iff.1 ha; rw [← List.drop_eq_getElem_cons hl, List.take_append_drop]
      have hnid : a.id ∉ S2 := by
        have h1 := hnd
        rw [hsp, List.map_append, List.map_cons, ← List.append_assoc, hS2] at h1
        have h2 := List.nodup_append.1 h1
        intro hin
        exact h2.2.2 a.id hin a.id (List.mem_cons_self ..) rfl
      have wm1 := mget_seen a.id S2 hnid
      have wb1 : decide (a.t > now) = false := decide_eq_false (by omega)
      have wb2 : decide (a.t < last2) = false := decide_eq_false (by omega)
      refine AWP.seq ?_
      refine AWP.regionT tcok hmix [] [1, 4, 5, 6, 9, 10, 11, 55, 56, 57, 58] [40, 170001, 170002, 170003] (os := []) (s' := St.mk [(1, tp (u8 st)), (4, tp (vb false)), (5, tp (V.ptr 170003 0)), (6, tp (i64 (↑k : Int))), (9, tp (V.mp 40)), (10, tp (u8 last2)), (11, tp (i64 now)), (55, tp (V.vs (tcC (List.take p L)) p)), (56, tp (i64 (↑p : Int))), (57, tp (i64 i)), (58, tp (vb (decide (i < (↑p : Int)))))] [(40, Blk.mk (seenC S2) true 0 (some (0, 0))), (170001, Blk.mk (idsC K') true 0 (some (0, 0))), (170002, Blk.mk (rowsI L') true 0 (some (79, 3))), (170003, Blk.mk [V.sl 170002 0 j', V.mp 170001, vb false] false 3 none)]) (by kernel_rfl) trivial ?_
      refine AWP.seq ?_
      refine AWP.cond (b := decide (i < (↑p : Int))) (by kernel_rfl) (fun hq8 => ?_) (fun hq8 => ?_)
      rotate_left
      · simp only [decide_eq_false_iff_not] at hq8
        (exfalso; omega)
      simp only [decide_eq_true_eq] at hq8
      refine AWP.skip ?_
      refine AWP.seq ?_
      refine AWP.block ?_
      refine AWP.seq ?_
      refine AWP.regionT tcok hmix [(0, ⟨some (V.vp (V.vs (u8s [a.t, a.id]) 2 :: tcC (List.drop (Int.toNat i + 1) (List.take p L)))), none⟩)] [1, 4, 5, 6, 9, 10, 11, 13, 55, 56, 57] [170003, 40, 170002, 170001] (os := [(0 : Int) ≤ i ∧ i < (↑p : Int), V.vp (List.drop (Int.toNat i * 1) (tcC (List.take p L))) = V.vp (V.vs [u8 a.t, u8 a.id] 2 :: tcC (List.drop (Int.toNat i + 1) (List.take p L)))]) (s' := St.mk [(1, tp (u8 st)), (4, tp (vb false)), (5, tp (V.ptr 170003 0)), (6, tp (i64 (↑k : Int))), (9, tp (V.mp 40)), (10, tp (u8 last2)), (11, tp (i64 now)), (13, tp (V.vs [u8 a.t, u8 a.id] 2)), (55, tp (V.vs (tcC (List.take p L)) p)), (56, tp (i64 (↑p : Int))), (57, tp (i64 i))] [(40, Blk.mk (seenC S2) true 0 (some (0, 0))), (170001, Blk.mk (idsC K') true 0 (some (0, 0))), (170002, Blk.mk (rowsI L') true 0 (some (79, 3))), (170003, Blk.mk [V.sl 170002 0 j', V.mp 170001, vb false] false 3 none)]) (by kernel_rfl) ⟨(by omega), (congrArg V.vp hd), trivial⟩ ?_
      refine AWP.seq ?_
      refine xe1 (os := [i64 (IntKind.wrap IntKind.i64 a.t) = i64 a.t, vb (decide (a.t > now)) = vb false, false = false → vb (decide (a.t < last2)) = vb false ∧ True, false = false → mget (Cx.mk Try.prog tc Try.f6.ntmps).tc (5 : TypeId) (vals1 ti_4.zero (isRow ti_4.desc)) false (Blk.mk (seenC S2) true (0 : Nat) (some ((0 : Nat), (0 : Nat)))).cells (u8 a.id) = some (vb false) ∧ True]) [(3, ⟨some (i64 a.t), none⟩), (5, ⟨some (vb false), none⟩), (11, ⟨some (vb false), none⟩), (18, ⟨some (vb false), none⟩)] [1, 4, 5, 6, 9, 10, 11, 13, 55, 56, 57, 80] [170003, 40, 170002, 170001] (by kernel_rfl) ⟨(wr_i64 (by omega) (by omega)), (congrArg (fun b => V.val (Value.bool b)) wb1), (fun _ => ⟨(congrArg (fun b => V.val (Value.bool b)) wb2), trivial⟩), (fun _ => ⟨(wm1 ), trivial⟩), trivial⟩ ?_
      refine AWP.condF (by kernel_rfl) ?_
      refine AWP.skip ?_
      refine AWP.regionM' tcok hmix 8 66 (.tmp 81) (.tmp 84) (.const (.bool true)) (.mp 40) (u8 a.id) (vb true) (seenC (S2 ++ [a.id])) (os := []) (os2 := [mputR tc 5 (seenC S2) (u8 a.id) (vb true) (seenC (S2 ++ [a.id]))]) (by kernel_rfl) (by kernel_rfl) [] (by kernel_rfl) trivial (by kernel_rfl) (.tmp 89) (by kernel_rfl) (by kernel_rfl) (by kernel_rfl) (by kernel_rfl) (by kernel_rfl) (by kernel_rfl) ⟨mput_seen a.id S2 hnid, trivial⟩ (St.mk [(1, T.plain (u8 st)), (4, T.plain (vb false)), (5, T.plain (V.ptr 170003 0)), (6, T.plain (i64 (k : Int))), (9, T.plain (V.mp 40)), (10, T.plain (u8 a.t)), (11, T.plain (i64 now)), (13, T.plain (V.vs [u8 a.t, u8 a.id] 2)), (55, T.plain (V.vs (tcC (List.take p L)) p)), (56, T.plain (i64 (p : Int))), (57, T.plain (i64 i)), (80, T.plain (vb false)), (81, T.plain (V.mp 40)), (82, T.plain (V.vs [u8 a.t, u8 a.id] 2)), (83, T.plain (V.vp [u8 a.id])), (84, T.plain (u8 a.id)), (85, T.plain (V.vs [u8 a.t, u8 a.id] 2)), (86, T.plain (V.vp [u8 a.t, u8 a.id])), (87, T.plain (u8 a.t)), (88, T.plain V.top), (89, T.plain V.top)] [(40, Blk.mk (seenC (S2 ++ [a.id])) true 0 (some (0, 0))), (170001, Blk.mk (idsC K') true 0 (some (0, 0))), (170002, Blk.mk (rowsI L') true 0 (some (79, 3))), (170003, Blk.mk [V.sl 170002 0 j', V.mp 170001, vb false] false 3 none)]) (by kernel_rfl) ?_
      have hS3 : S ++ (L.take (i + 1).toNat).map It.id = S2 ++ [a.id] := by rw [show (i + 1).toNat = i.toNat + 1 by omega, List.take_add_one, ha, List.map_append, ← List.append_assoc, hS2]; rfl
      have hld3 : ∀ b ∈ L.drop (i + 1).toNat, a.t ≤ b.t := fun b hb => by
        rw [show (i + 1).toNat = i.toNat + 1 by omega] at hb
        have h1 := hLs
        rw [hsp] at h1
        exact (List.pairwise_cons.1 (List.pairwise_append.1 h1).2.1).1 b hb
      refine AWP.region tcok hmix [(0, ⟨some (i64 (i + 1)), none⟩)] (os := [i64 (IntKind.wrap IntKind.i64 (i + 1)) = i64 (i + 1)]) (sf := St.mk [(1, tp (u8 st)), (4, tp (vb false)), (5, tp (V.ptr 170003 0)), (6, tp (i64 (↑k : Int))), (9, tp (V.mp 40)), (10, tp (u8 a.t)), (11, tp (i64 now)), (13, tp (V.vs [u8 a.t, u8 a.id] 2)), (55, tp (V.vs (tcC (List.take p L)) p)), (56, tp (i64 (↑p : Int))), (57, tp (i64 (i + 1))), (80, tp (vb false)), (81, tp (V.mp 40)), (82, tp (V.vs [u8 a.t, u8 a.id] 2)), (83, tp (V.vp [u8 a.id])), (84, tp (u8 a.id)), (85, tp (V.vs [u8 a.t, u8 a.id] 2)), (86, tp (V.vp [u8 a.t, u8 a.id])), (87, tp (u8 a.t)), (88, tp V.top), (89, tp V.top), (90, tp (i64 (i + 1)))] [(40, Blk.mk (seenC (S2 ++ [a.id])) true 0 (some (0, 0))), (170001, Blk.mk (idsC K') true 0 (some (0, 0))), (170002, Blk.mk (rowsI L') true 0 (some (79, 3))), (170003, Blk.mk [V.sl 170002 0 j', V.mp 170001, vb false] false 3 none)]) (by kernel_rfl) ⟨(wr_i64 (by omega) (by omega)), trivial⟩ ?_
      refine ⟨St.mk [(1, tp (u8 st)), (4, tp (vb false)), (5, tp (V.ptr 170003 0)), (6, tp (i64 (↑k : Int))), (9, tp (V.mp 40)), (10, tp (u8 a.t)), (11, tp (i64 now)), (55, tp (V.vs (tcC (List.take p L)) p)), (56, tp (i64 (↑p : Int))), (57, tp (i64 (i + 1)))] [(40, Blk.mk (seenC (S2 ++ [a.id])) true 0 (some (0, 0))), (170001, Blk.mk (idsC K') true 0 (some (0, 0))), (170002, Blk.mk (rowsI L') true 0 (some (79, 3))), (170003, Blk.mk [V.sl 170002 0 j', V.mp 170001, vb false] false 3 none)], by kernel_rfl, ?_⟩
      first | (exact ⟨(p - (i + 1)).toNat, (by omega), i + 1, a.t, S2 ++ [a.id], rfl, (by omega), a1, hS3, hld3, (by omega)⟩) | (exfalso; omega)
    have hip : i = p := by omega
    subst hip
    rw [Int.toNat_natCast] at hS2 hld
    rw [hL'] at hld
    have r1 : L'.length = j' := by rw [← hL', List.length_drop, hLl, hj']
    have r2 : SortI L' := by rw [← hL']; exact List.Pairwise.sublist (List.drop_sublist ..) hLs
    have r3 : OnP k L' := fun b hb => hLp b (by rw [← hL'] at hb; exact List.mem_of_mem_drop hb)
    have r4 : (S2 ++ L'.map It.id).Nodup := by
      rw [← hS2, ← hL', List.append_assoc, ← List.map_append, List.take_append_drop]
      exact hnd
    have r5 : S2.length + j' = k := by
      rw [← hS2, List.length_append, List.length_map, List.length_take]
      omega
    have r6 : ∀ b ∈ L', last2 ≤ b.t ∧ (now + (1 + st % 7)) < b.t + (1 + st % 7) := fun b hb => ⟨hld b hb, by have := (hpt b hb).2; omega⟩
    refine AWP.seq ?_
    refine AWP.regionT tcok hmix [] [1, 4, 5, 6, 9, 10, 11, 55, 56, 57, 58] [40, 170001, 170002, 170003] (os := []) (s' := St.mk [(1, tp (u8 st)), (4, tp (vb false)), (5, tp (V.ptr 170003 0)), (6, tp (i64 (↑k : Int))), (9, tp (V.mp 40)), (10, tp (u8 last2)), (11, tp (i64 now)), (55, tp (V.vs (tcC (List.take p L)) p)), (56, tp (i64 (↑p : Int))), (57, tp (i64 (↑p : Int))), (58, tp (vb (decide ((↑p : Int) < (↑p : Int)))))] [(40, Blk.mk (seenC S2) true 0 (some (0, 0))), (170001, Blk.mk (idsC K') true 0 (some (0, 0))), (170002, Blk.mk (rowsI L') true 0 (some (79, 3))), (170003, Blk.mk [V.sl 170002 0 j', V.mp 170001, vb false] false 3 none)]) (by kernel_rfl) trivial ?_
    refine AWP.seq ?_
    refine AWP.cond (b := decide ((↑p : Int) < (↑p : Int))) (by kernel_rfl) (fun hq10 => ?_) (fun hq10 => ?_)
    · simp only [decide_eq_true_eq] at hq10
      (exfalso; omega)
    simp only [decide_eq_false_iff_not] at hq10
    refine AWP.exit ?_
    refine AWP.region tcok hmix [(2, ⟨some (u8 (st % 7)), none⟩), (3, ⟨some (i64 (st % 7)), none⟩), (4, ⟨some (i64 (1 + st % 7)), none⟩), (5, ⟨some (i64 (now + (1 + st % 7))), none⟩)] (os := [(7 : Int) ≠ (0 : Int), u8 (Int.tmod st 7) = u8 (st % 7), i64 (IntKind.wrap IntKind.i64 (st % 7)) = i64 (st % 7), i64 (IntKind.wrap IntKind.i64 (1 + st % 7)) = i64 (1 + st % 7), i64 (IntKind.wrap IntKind.i64 (now + (1 + st % 7))) = i64 (now + (1 + st % 7))]) (sf := St.mk [(1, tp (u8 st)), (4, tp (vb false)), (5, tp (V.ptr 170003 0)), (6, tp (i64 (↑k : Int))), (9, tp (V.mp 40)), (10, tp (u8 last2)), (11, tp (i64 (now + (1 + st % 7)))), (46, tp (i64 now)), (47, tp (u8 st)), (48, tp (u8 (st % 7))), (49, tp (i64 (st % 7))), (50, tp (i64 (1 + st % 7))), (51, tp (i64 (now + (1 + st % 7)))), (55, tp (V.vs (tcC (List.take p L)) p)), (56, tp (i64 (↑p : Int))), (57, tp (i64 (↑p : Int))), (58, tp (vb (decide ((↑p : Int) < (↑p : Int)))))] [(40, Blk.mk (seenC S2) true 0 (some (0, 0))), (170001, Blk.mk (idsC K') true 0 (some (0, 0))), (170002, Blk.mk (rowsI L') true 0 (some (79, 3))), (170003, Blk.mk [V.sl 170002 0 j', V.mp 170001, vb false] false 3 none)]) (by kernel_rfl) ⟨(by omega), (tm_ (by omega)), (wr_i64 (by omega) (by omega)), (wr_i64 (by omega) (by omega)), (wr_i64 (by omega) (by omega)), trivial⟩ ?_
    refine ⟨St.mk [(1, tp (u8 st)), (4, tp (vb false)), (5, tp (V.ptr 170003 0)), (6, tp (i64 (↑k : Int))), (9, tp (V.mp 40)), (10, tp (u8 last2)), (11, tp (i64 (now + (1 + st % 7))))] [(40, Blk.mk (seenC S2) true 0 (some (0, 0))), (170001, Blk.mk (idsC K') true 0 (some (0, 0))), (170002, Blk.mk (rowsI L') true 0 (some (79, 3))), (170003, Blk.mk [V.sl 170002 0 j', V.mp 170001, vb false] false 3 none)], by kernel_rfl, ?_⟩
    first | (exact ⟨(600 - (now + (1 + st % 7))).toNat, (by omega), now + (1 + st % 7), last2, j', L', K', S2, rfl, (by omega), hlast2, r1, r2, r3, r6, r4, r5, (by omega)⟩) | (exfalso; omega)
  have c1 := con_plen L j K false
  have hsl := seenC_len S
  by_cases hj0 : j = 0
  · subst hj0
    have wb1 : (((List.length (Blk.mk (seenC S) true 0 (some (0, 0))).cells / 2 : Nat) : Int) == (k : Int)) = true := by
      show (((seenC S).length / 2 : Nat) : Int) == (k : Int)
      rw [hsl]
      simp
      omega
    refine AWP.seq ?_
    refine AWP.seq ?_
    refine AWP.regionT tcok hmix [(2, ⟨some (i64 st), none⟩), (3, ⟨some (i64 (255 + st)), none⟩)] [1, 4, 5, 6, 9, 10, 11, 45] [170003, 40, 170002, 170001] (os := [i64 (IntKind.wrap IntKind.i64 st) = i64 st, i64 (IntKind.wrap IntKind.i64 (255 + st)) = i64 (255 + st)]) (s' := St.mk [(1, tp (u8 st)), (4, tp (vb false)), (5, tp (V.ptr 170003 0)), (6, tp (i64 (↑k : Int))), (9, tp (V.mp 40)), (10, tp (u8 last)), (11, tp (i64 now)), (45, tp (vb (decide (now ≤ 255 + st))))] [(40, Blk.mk (seenC S) true 0 (some (0, 0))), (170001, Blk.mk (idsC K) true 0 (some (0, 0))), (170002, Blk.mk (rowsI L) true 0 (some (79, 3))), (170003, Blk.mk [V.sl 170002 0 0, V.mp 170001, vb false] false 3 none)]) (by kernel_rfl) ⟨(wr_i64 (by omega) (by omega)), (wr_i64 (by omega) (by omega)), trivial⟩ ?_
    refine AWP.cond (b := decide (now ≤ 255 + st)) (by kernel_rfl) (fun hq11 => ?_) (fun hq11 => ?_)
    · simp only [decide_eq_true_eq] at hq11
      (exfalso; omega)
    simp only [decide_eq_false_iff_not] at hq11
    refine AWP.exit ?_
    refine AWP.seq ?_
    refine AWP.regionT tcok hmix [(1, ⟨some (V.tup [V.sl 2000000000 170002 0, V.sl 2000000010 170003 0, V.sl 2000000011 170001 0]), some ⟨i64 (↑0 : Int), [(2000000000, Blk.mk (rowsI L) true 0 (some (79, 3))), (2000000010, Blk.mk [V.sl 2000000000 0 0, V.mp 2000000011, vb false] false 3 none), (2000000011, Blk.mk (idsC K) true 0 (some (0, 0)))], []⟩⟩), (7, ⟨some (vb true), none⟩), (11, ⟨some (u8 (st % 7)), none⟩), (18, ⟨some (V.tup [i64 0]), none⟩)] [4] [] (os := [Con Try.prog 26 [(2000000000, Blk.mk (rowsI L) true 0 (some (79, 3))), (2000000010, Blk.mk [V.sl 2000000000 0 0, V.mp 2000000011, vb false] false 3 none), (2000000011, Blk.mk (idsC K) true 0 (some (0, 0)))] [V.ptr 2000000010 0] [(2000000000, Blk.mk (rowsI L) true 0 (some (79, 3))), (2000000010, Blk.mk [V.sl 2000000000 0 0, V.mp 2000000011, vb false] false 3 none), (2000000011, Blk.mk (idsC K) true 0 (some (0, 0)))] (i64 0), true = true → vb ((↑(List.length (Blk.mk (seenC S) true (0 : Nat) (some ((0 : Nat), (0 : Nat)))).cells / (2 : Nat)) : Int) == (↑k : Int)) = vb true ∧ True, true = false → (7 : Int) ≠ (0 : Int) ∧ u8 (Int.tmod st (7 : Int)) = u8 (st % (7 : Int)) ∧ True, decide (st % (7 : Int) > (0 : Int)) = true → true = false → False]) (s' := St.mk [(4, tp (vb true))] []) (by kernel_rfl) ⟨(c1 ), (fun _ => ⟨(congrArg (fun b => V.val (Value.bool b)) wb1), trivial⟩), (by intro hc0; first | (cases hc0; done) | ((try simp only [Bool.or_false, Bool.false_or, Bool.true_and, Bool.and_true, decide_eq_true_eq, decide_eq_false_iff_not, Bool.and_eq_true, Bool.or_eq_true, Bool.or_eq_false_iff, Bool.not_eq_true', Bool.and_eq_false_iff, beq_iff_eq, bne_iff_ne, bne_eq_false_iff_eq, beq_eq_false_iff_ne, Bool.not_eq_false'] at hc0); exact ⟨(by omega), (tm_ (by omega)), trivial⟩)), (by (intro hc0 hc1; first | (cases hc0; done) | (exfalso; simp_all; done) | ((try simp only [Bool.or_false, Bool.false_or, Bool.true_and, Bool.and_true, decide_eq_true_eq, decide_eq_false_iff_not, Bool.and_eq_true, Bool.or_eq_true, Bool.or_eq_false_iff, Bool.not_eq_true', Bool.and_eq_false_iff, beq_iff_eq, bne_iff_ne, bne_eq_false_iff_eq, beq_eq_false_iff_ne, Bool.not_eq_false'] at hc0 hc1); omega))), trivial⟩ ?_
    refine AWP.ret ?_
    refine ⟨Or.inr rfl, Eq.trans (b := some ([], vb true)) (by kernel_rfl) ?_⟩
    first | rfl | (exfalso; omega)
  · have h7 : 0 < st % 7 := by
      refine Classical.byContradiction fun hc => ?_
      cases L with
      | nil => exact hj0 hLl.symm
      | cons b r =>
        have := hLt b (List.mem_cons_self ..)
        have := hLp b (List.mem_cons_self ..)
        omega
    have wb1 : ((j : Int) == 0) = false := by simpa using hj0
    have wb2 : decide (st % 7 > 0) = true := decide_eq_true h7
    have wb3 : ((j : Int) + ((List.length (Blk.mk (seenC S) true 0 (some (0, 0))).cells / 2 : Nat) : Int) == (k : Int)) = true := by
      show ((j : Int) + (((seenC S).length / 2 : Nat) : Int) == (k : Int)) = true
      rw [hsl]
      simp
      omega
    have hw3 : (IntKind.wrap IntKind.i64 ((j : Int) + ((List.length (Blk.mk (seenC S) true 0 (some (0, 0))).cells / 2 : Nat) : Int)) == (k : Int)) = true := by
      have e0 : ((List.length (Blk.mk (seenC S) true 0 (some (0, 0))).cells / 2 : Nat) : Int) = (S.length : Int) := by
        show (((seenC S).length / 2 : Nat) : Int) = _
        rw [hsl]
        simp
      rw [e0]
      have e1 : i64 (IntKind.wrap IntKind.i64 ((j : Int) + (S.length : Int))) = i64 ((j : Int) + (S.length : Int)) := wr_i64 (by omega) (by omega)
      have e2 : IntKind.wrap IntKind.i64 ((j : Int) + (S.length : Int)) = (j : Int) + (S.length : Int) := by injection e1 with e1; injection e1
      rw [e2]
      exact beq_iff_eq.2 (by omega)
    refine AWP.seq ?_
    refine AWP.seq ?_
    refine AWP.regionT tcok hmix [(2, ⟨some (i64 st), none⟩), (3, ⟨some (i64 (255 + st)), none⟩)] [1, 4, 5, 6, 9, 10, 11, 45] [170003, 40, 170002, 170001] (os := [i64 (IntKind.wrap IntKind.i64 st) = i64 st, i64 (IntKind.wrap IntKind.i64 (255 + st)) = i64 (255 + st)]) (s' := St.mk [(1, tp (u8 st)), (4, tp (vb false)), (5, tp (V.ptr 170003 0)), (6, tp (i64 (↑k : Int))), (9, tp (V.mp 40)), (10, tp (u8 last)), (11, tp (i64 now)), (45, tp (vb (decide (now ≤ 255 + st))))] [(40, Blk.mk (seenC S) true 0 (some (0, 0))), (170001, Blk.mk (idsC K) true 0 (some (0, 0))), (170002, Blk.mk (rowsI L) true 0 (some (79, 3))), (170003, Blk.mk [V.sl 170002 0 j, V.mp 170001, vb false] false 3 none)]) (by kernel_rfl) ⟨(wr_i64 (by omega) (by omega)), (wr_i64 (by omega) (by omega)), trivial⟩ ?_
    refine AWP.cond (b := decide (now ≤ 255 + st)) (by kernel_rfl) (fun hq12 => ?_) (fun hq12 => ?_)
    · simp only [decide_eq_true_eq] at hq12
      (exfalso; omega)
    simp only [decide_eq_false_iff_not] at hq12
    refine AWP.exit ?_
    refine AWP.seq ?_
    refine AWP.regionT tcok hmix [(1, ⟨some (V.tup [V.sl 2000000000 170002 0, V.sl 2000000010 170003 0, V.sl 2000000011 170001 0]), some ⟨i64 (↑j : Int), [(2000000000, Blk.mk (rowsI L) true 0 (some (79, 3))), (2000000010, Blk.mk [V.sl 2000000000 0 j, V.mp 2000000011, vb false] false 3 none), (2000000011, Blk.mk (idsC K) true 0 (some (0, 0)))], []⟩⟩), (2, ⟨some (vb false), none⟩), (11, ⟨some (u8 (st % 7)), none⟩), (12, ⟨some (vb true), none⟩), (15, ⟨some (V.tup [V.sl 2000000000 170002 0, V.sl 2000000010 170003 0, V.sl 2000000011 170001 0]), some ⟨i64 (↑j : Int), [(2000000000, Blk.mk (rowsI L) true 0 (some (79, 3))), (2000000010, Blk.mk [V.sl 2000000000 0 j, V.mp 2000000011, vb false] false 3 none), (2000000011, Blk.mk (idsC K) true 0 (some (0, 0)))], []⟩⟩)] [4] [] (os := [Con Try.prog 26 [(2000000000, Blk.mk (rowsI L) true 0 (some (79, 3))), (2000000010, Blk.mk [V.sl 2000000000 0 j, V.mp 2000000011, vb false] false 3 none), (2000000011, Blk.mk (idsC K) true 0 (some (0, 0)))] [V.ptr 2000000010 0] [(2000000000, Blk.mk (rowsI L) true 0 (some (79, 3))), (2000000010, Blk.mk [V.sl 2000000000 0 j, V.mp 2000000011, vb false] false 3 none), (2000000011, Blk.mk (idsC K) true 0 (some (0, 0)))] (i64 (↑j : Int)), vb ((↑j : Int) == 0) = vb false, false = false → (7 : Int) ≠ (0 : Int) ∧ u8 (Int.tmod st (7 : Int)) = u8 (st % (7 : Int)) ∧ True, false = false → vb (decide (st % (7 : Int) > (0 : Int))) = vb true ∧ True, Con Try.prog 26 [(2000000000, Blk.mk (rowsI L) true 0 (some (79, 3))), (2000000010, Blk.mk [V.sl 2000000000 0 j, V.mp 2000000011, vb false] false 3 none), (2000000011, Blk.mk (idsC K) true 0 (some (0, 0)))] [V.ptr 2000000010 0] [(2000000000, Blk.mk (rowsI L) true 0 (some (79, 3))), (2000000010, Blk.mk [V.sl 2000000000 0 j, V.mp 2000000011, vb false] false 3 none), (2000000011, Blk.mk (idsC K) true 0 (some (0, 0)))] (i64 (↑j : Int))]) (s' := St.mk [(4, tp (vb (false || true && IntKind.wrap IntKind.i64 ((↑j : Int) + (↑(List.length (Blk.mk (seenC S) true 0 (some (0, 0))).cells / 2) : Int)) == (↑k : Int))))] []) (by kernel_rfl) ⟨(c1 ), (congrArg (fun b => V.val (Value.bool b)) wb1), (by intro hc0; first | (cases hc0; done) | ((try simp only [Bool.or_false, Bool.false_or, Bool.true_and, Bool.and_true, decide_eq_true_eq, decide_eq_false_iff_not, Bool.and_eq_true, Bool.or_eq_true, Bool.or_eq_false_iff, Bool.not_eq_true', Bool.and_eq_false_iff, beq_iff_eq, bne_iff_ne, bne_eq_false_iff_eq, beq_eq_false_iff_ne, Bool.not_eq_false'] at hc0); exact ⟨(by omega), (tm_ (by omega)), trivial⟩)), (fun _ => ⟨(congrArg (fun b => V.val (Value.bool b)) wb2), trivial⟩), (c1 ), trivial⟩ ?_
    refine AWP.ret ?_
    refine ⟨Or.inr rfl, Eq.trans (b := some ([], vb (false || true && IntKind.wrap IntKind.i64 ((↑j : Int) + (↑(List.length (Blk.mk (seenC S) true 0 (some (0, 0))).cells / 2) : Int)) == (↑k : Int)))) (by kernel_rfl) ?_⟩
    first | rfl | (rw [hw3]; rfl) | (exfalso; omega)
end Go.Proofs.Ytlfjnkobnkfioaa
