/- FdirPicks. -/
import Derived.Test.YtklbonfbiakebaaDoorRg
import Derived.Test.YtklbonfbiakebaaDoorFdiV
import Derived.Test.YtklbonfbiakebaaDoorFdiN
import Derived.Test.YtklbonfbiakebaaDoorFdiM
namespace Go.Proofs.YtklbonfbiakebaaDoor
open Go.Ab
set_option maxRecDepth 100000
set_option maxHeartbeats 8000000
set_option linter.unusedSimpArgs false
set_option linter.unusedVariables false
theorem law_picks (L : List Al) (m : Nat) (hm : L.length = m) (hmm : m ≤ 9223372036854775807) (hL : ∀ a ∈ L, 0 ≤ a.lv) (inh lv : Int) (hi : 0 ≤ inh ∧ inh < 256) (hl : 0 ≤ lv ∧ lv < 256) : Con Tryd.prog 10 [] [.vs (rowsA L) m, u8 inh, u8 lv] [] (vb true) := by
  obtain ⟨R, hR⟩ : ∃ R, L.take 20 = R := ⟨_, rfl⟩
  obtain ⟨n, hn⟩ : ∃ n, R.length = n := ⟨_, rfl⟩
  have hn20 : n ≤ 20 := by rw [← hn, ← hR, List.length_take]; omega
  have hRl : ∀ a ∈ R, 0 ≤ a.lv := fun a h => hL a (List.mem_of_mem_take (hR ▸ h))
  obtain ⟨K, hK⟩ : ∃ K, ordA R = K := ⟨_, rfl⟩
  obtain ⟨k, hk⟩ : ∃ k, K.length = k := ⟨_, rfl⟩
  have c1 := con_few L m hm hmm R hR n hn
  have c2 := con_pick inh hi R n hn hn20 hRl _ rfl
  have c3 := con_rpick inh hi R n hn hn20 hRl _ rfl
  have c4 := con_orderF R n hn hn20 hRl K hK k hk
  have c5 := Con.frz1 (con_rorder R n hn hn20 hRl K hK k hk)
  have hrl := rowsA_len R
  have hkl := rowsA_len K
  have hk20 : k ≤ 20 := by
    rw [← hk, ← hK]
    unfold ordA
    rw [byLev_len _ _ (fun a h => by have := ok_lev (a := a) (by simpa using (List.mem_filter.1 h).2) (hRl a (List.mem_filter.1 h).1); unfold levA; omega)]
    have := List.length_filter_le (fun a : Al => a.ok) R
    omega
  obtain ⟨x, y, z, ok, hv⟩ : ∃ x y z ok, pkV (pk inh (ordA R)) = .tup [.agg true [u8 x, i64 y, u8 z], vb ok] := by
    cases pk inh (ordA R) with
    | none => exact ⟨0, 0, 0, false, rfl⟩
    | some a => exact ⟨_, _, _, true, rfl⟩
  rw [hv] at c2 c3
  refine Con.of (C := ⟨Tryd.prog, tc, Tryd.f10.ntmps⟩) [] tcok Tryd.func10 rfl rfl (by kernel_rfl) (by kernel_rfl) ?_
  refine AWP.seq ?_
  refine AWP.regionT tcok hmix [] [0, 1, 2, 6] [] (os := []) (s' := St.mk [(0, tp (V.vs (rowsA L) m)), (1, tp (u8 inh)), (2, tp (u8 lv)), (6, tp (vb false))] []) (by kernel_rfl) trivial ?_
  refine AWP.seq ?_
  refine xe1 [(0, ⟨none, some ⟨vb true, [], []⟩⟩)] [0, 1, 2, 6, 19] [] (by kernel_rfl) (AllP.c (con_awake22 ) AllP.n) ?_
  refine AWP.condF (by kernel_rfl) ?_
  refine AWP.skip ?_
  refine xe1 (os := [Con Tryd.prog 33 [] [V.vs (rowsA L) m] [(4, Blk.mk (rowsA R) true 0 (some (47, 3))), (7, Blk.mk (rowsA R) true 0 (some (29, 3)))] (V.tup [V.sl 7 0 n, V.sl 4 0 n])]) [(1, ⟨none, some ⟨V.tup [V.sl 7 0 n, V.sl 4 0 n], [(4, Blk.mk (rowsA R) true 0 (some (47, 3))), (7, Blk.mk (rowsA R) true 0 (some (29, 3)))], []⟩⟩)] [0, 1, 2, 6, 7] [230007, 230004] (by kernel_rfl) ⟨(c1 ), trivial⟩ ?_
  refine xe1 (os := [VO (V.tup [V.agg true [u8 x, i64 y, u8 z], vb ok]), VOH [], Con Tryd.prog 34 [] [u8 inh, V.vs (rowsA R) n] [] (V.tup [V.agg true [u8 x, i64 y, u8 z], vb ok]), (0 : Nat) = (0 : Nat), n * (3 : Nat) = List.length (rowsA R)]) [(2, ⟨none, some ⟨V.tup [V.agg true [u8 x, i64 y, u8 z], vb ok], [], [(230007, true)]⟩⟩)] [0, 1, 2, 6, 7, 8, 9] [230007, 230004, 8] (by kernel_rfl) ⟨(VO.tup (VOL.cons (VO.agg (VOL.cons (VO.val _) (VOL.cons (VO.val _) (VOL.cons (VO.val _) VOL.nil)))) (VOL.cons (VO.val _) VOL.nil))), trivial, (c2 ), (by omega), (by first | omega | (simp [len_u8s]; done) | (simp [len_u8s]; omega)), trivial⟩ ?_
  refine xe1 (os := [VO (V.tup [V.agg true [u8 x, i64 y, u8 z], vb ok]), VOH [], Con Tryd.prog 35 [] [u8 inh, V.vs (rowsA R) n] [] (V.tup [V.agg true [u8 x, i64 y, u8 z], vb ok]), (0 : Nat) = (0 : Nat), n * (3 : Nat) = List.length (rowsA R)]) [(2, ⟨none, some ⟨V.tup [V.agg true [u8 x, i64 y, u8 z], vb ok], [], [(230004, true)]⟩⟩)] [0, 1, 2, 6, 7, 8, 9, 10, 11] [230007, 230004, 8, 10] (by kernel_rfl) ⟨(VO.tup (VOL.cons (VO.agg (VOL.cons (VO.val _) (VOL.cons (VO.val _) (VOL.cons (VO.val _) VOL.nil)))) (VOL.cons (VO.val _) VOL.nil))), trivial, (c3 ), (by omega), (by first | omega | (simp [len_u8s]; done) | (simp [len_u8s]; omega)), trivial⟩ ?_
  refine AWP.seq ?_
  refine AWP.frz 230007 (s' := St.mk [(0, tp (V.vs (dropC 0 (rowsA R)) n)), (1, tp (u8 inh)), (2, tp (u8 lv)), (6, tp (vb false)), (7, tp (V.sl 230004 0 n)), (8, tp (V.ptr 8 0)), (9, tp (vb ok)), (10, tp (V.ptr 10 0)), (11, tp (vb ok))] [(8, Blk.mk [u8 x, i64 y, u8 z] true 3 none), (10, Blk.mk [u8 x, i64 y, u8 z] true 3 none), (230004, Blk.mk (rowsA R) true 0 (some (47, 3)))]) (by kernel_rfl) ?_
  refine AWP.frz 230004 (s' := St.mk [(0, tp (V.vs (dropC 0 (rowsA R)) n)), (1, tp (u8 inh)), (2, tp (u8 lv)), (6, tp (vb false)), (7, tp (V.vs (dropC 0 (rowsA R)) n)), (8, tp (V.ptr 8 0)), (9, tp (vb ok)), (10, tp (V.ptr 10 0)), (11, tp (vb ok))] [(8, Blk.mk [u8 x, i64 y, u8 z] true 3 none), (10, Blk.mk [u8 x, i64 y, u8 z] true 3 none)]) (by kernel_rfl) ?_
  refine xg1 (os := [Con Tryd.prog 36 [] [V.vs (dropC 0 (rowsA R)) n] [] (V.vs (rowsA K) k), Con Tryd.prog 37 [] [V.vs (dropC 0 (rowsA R)) n] [] (V.vs (rowsA K) k)]) [(1, ⟨none, some ⟨V.vs (rowsA K) k, [], []⟩⟩), (3, ⟨none, some ⟨V.vs (rowsA K) k, [], []⟩⟩)] [0, 1, 2, 6, 7, 8, 9, 10, 11, 12, 13] [8, 10] (by kernel_rfl) ⟨(c4 ), (c5 ), trivial⟩ ?_
  refine AWP.seq ?_
  refine xe0 [0, 1, 2, 6, 7, 12, 13, 55] [] (by kernel_rfl) ?_
  refine AWP.cond (b := bl false (ok == ok) || bl false (x == x && (y == y && (z == z && true))) || (↑k : Int) != (↑k : Int)) (by kernel_rfl) (fun hq1 => ?_) (fun hq1 => ?_)
  · simp only [Bool.and_true, Bool.or_eq_true, bne_iff_ne] at hq1
    (simp [bl] at hq1; done)
  simp only [Bool.and_true, Bool.or_eq_false_iff, bne_eq_false_iff_eq] at hq1
  refine AWP.skip ?_
  refine AWP.seq ?_
  refine AWP.seq ?_
  refine AWP.regionT tcok hmix [] [0, 1, 2, 6, 7, 12, 13, 57, 58] [] (os := []) (s' := St.mk [(0, tp (V.vs (dropC 0 (rowsA R)) n)), (1, tp (u8 inh)), (2, tp (u8 lv)), (6, tp (vb false)), (7, tp (V.vs (dropC 0 (rowsA R)) n)), (12, tp (V.vs (rowsA K) k)), (13, tp (V.vs (rowsA K) k)), (57, tp (i64 (↑k : Int))), (58, tp (i64 0))] []) (by kernel_rfl) trivial ?_
  refine AWP.block ?_
  simp only [dropC]
  refine AWP.loopI [58, 57, 12, 13, 7, 0, 2, 1, 6] [] (fun N s' => ∃ (i : Int), s' = St.mk [(0, T.plain (V.vs (rowsA R) n)), (1, T.plain (u8 inh)), (2, T.plain (u8 lv)), (6, T.plain (vb false)), (7, T.plain (V.vs (rowsA R) n)), (12, T.plain (V.vs (rowsA K) k)), (13, T.plain (V.vs (rowsA K) k)), (57, T.plain (i64 (k : Int))), (58, T.plain (i64 i))] [] ∧ 0 ≤ i ∧ i ≤ k ∧ (N : Int) = k - i) k (s0 := St.mk [(0, T.plain (V.vs (rowsA R) n)), (1, T.plain (u8 inh)), (2, T.plain (u8 lv)), (6, T.plain (vb false)), (7, T.plain (V.vs (rowsA R) n)), (12, T.plain (V.vs (rowsA K) k)), (13, T.plain (V.vs (rowsA K) k)), (57, T.plain (i64 (k : Int))), (58, T.plain (i64 0))] []) (by kernel_rfl) ?_ ?_
  · exact ⟨0, rfl, by omega, by omega, by omega⟩
  rintro N s' ⟨i, rfl, hi0, hik, hN⟩
  by_cases hlt : i < k
  · obtain ⟨a, ha⟩ : ∃ a, K[i.toNat]? = some a := ⟨_, List.getElem?_eq_getElem (by omega)⟩
    have hd := rowsA_dr ha
    refine AWP.seq ?_
    refine AWP.regionT tcok hmix [] [0, 1, 2, 6, 7, 12, 13, 57, 58, 59] [] (os := []) (s' := St.mk [(0, tp (V.vs (rowsA R) n)), (1, tp (u8 inh)), (2, tp (u8 lv)), (6, tp (vb false)), (7, tp (V.vs (rowsA R) n)), (12, tp (V.vs (rowsA K) k)), (13, tp (V.vs (rowsA K) k)), (57, tp (i64 (↑k : Int))), (58, tp (i64 i)), (59, tp (vb (decide (i < (↑k : Int)))))] []) (by kernel_rfl) trivial ?_
    refine AWP.seq ?_
    refine AWP.cond (b := decide (i < (↑k : Int))) (by kernel_rfl) (fun hq2 => ?_) (fun hq2 => ?_)
    · simp only [decide_eq_true_eq] at hq2
      refine AWP.skip ?_
      refine AWP.seq ?_
      refine AWP.block ?_
      refine AWP.seq ?_
      refine AWP.regionT tcok hmix [] [0, 1, 2, 6, 7, 12, 13, 14, 57, 58] [] (os := []) (s' := St.mk [(0, tp (V.vs (rowsA R) n)), (1, tp (u8 inh)), (2, tp (u8 lv)), (6, tp (vb false)), (7, tp (V.vs (rowsA R) n)), (12, tp (V.vs (rowsA K) k)), (13, tp (V.vs (rowsA K) k)), (14, tp (i64 i)), (57, tp (i64 (↑k : Int))), (58, tp (i64 i))] []) (by kernel_rfl) trivial ?_
      refine xe1 (os := [(0 : Int) ≤ i ∧ i < (↑k : Int), V.vp (List.drop (Int.toNat i * 3) (rowsA K)) = V.vp (u8 a.lv :: i64 a.un :: u8 a.ev :: rowsA (List.drop (Int.toNat i + 1) K)), (0 : Int) ≤ i ∧ i < (↑k : Int), V.vp (List.drop (Int.toNat i * 3) (rowsA K)) = V.vp (u8 a.lv :: i64 a.un :: u8 a.ev :: rowsA (List.drop (Int.toNat i + 1) K))]) [(2, ⟨some (V.vp (u8 a.lv :: i64 a.un :: u8 a.ev :: rowsA (List.drop (Int.toNat i + 1) K))), none⟩), (6, ⟨some (V.vp (u8 a.lv :: i64 a.un :: u8 a.ev :: rowsA (List.drop (Int.toNat i + 1) K))), none⟩)] [0, 1, 2, 6, 7, 12, 13, 57, 58, 69] [] (by kernel_rfl) ⟨(by omega), (congrArg V.vp hd), (by omega), (congrArg V.vp hd), trivial⟩ ?_
      refine AWP.cond (b := bl false (a.lv == a.lv && (a.un == a.un && (a.ev == a.ev && true)))) (by kernel_rfl) (fun hq3 => ?_) (fun hq3 => ?_)
      · simp only [Bool.and_true] at hq3
        (simp [bl] at hq3; done)
      simp only [Bool.and_true] at hq3
      refine AWP.skip ?_
      refine AWP.region tcok hmix [(0, ⟨some (i64 (i + 1)), none⟩)] (os := [i64 (IntKind.wrap IntKind.i64 (i + 1)) = i64 (i + 1)]) (sf := St.mk [(0, tp (V.vs (rowsA R) n)), (1, tp (u8 inh)), (2, tp (u8 lv)), (6, tp (vb false)), (7, tp (V.vs (rowsA R) n)), (12, tp (V.vs (rowsA K) k)), (13, tp (V.vs (rowsA K) k)), (57, tp (i64 (↑k : Int))), (58, tp (i64 (i + 1))), (69, tp (vb (bl false (a.lv == a.lv && (a.un == a.un && (a.ev == a.ev && true)))))), (70, tp (i64 (i + 1)))] []) (by kernel_rfl) ⟨(wr_i64 (by omega) (by omega)), trivial⟩ ?_
      refine ⟨St.mk [(0, tp (V.vs (rowsA R) n)), (1, tp (u8 inh)), (2, tp (u8 lv)), (6, tp (vb false)), (7, tp (V.vs (rowsA R) n)), (12, tp (V.vs (rowsA K) k)), (13, tp (V.vs (rowsA K) k)), (57, tp (i64 (↑k : Int))), (58, tp (i64 (i + 1)))] [], by kernel_rfl, ?_⟩
      first | (exact ⟨(k - (i + 1)).toNat, (by omega), i + 1, rfl, (by omega), (by omega), (by omega)⟩) | (exfalso; simp at hq3; done) | (exfalso; omega)
    simp only [decide_eq_false_iff_not] at hq2
    (exfalso; omega)
  have hie : i = k := by omega
  subst hie
  refine AWP.seq ?_
  refine AWP.regionT tcok hmix [] [0, 1, 2, 6, 7, 12, 13, 57, 58, 59] [] (os := []) (s' := St.mk [(0, tp (V.vs (rowsA R) n)), (1, tp (u8 inh)), (2, tp (u8 lv)), (6, tp (vb false)), (7, tp (V.vs (rowsA R) n)), (12, tp (V.vs (rowsA K) k)), (13, tp (V.vs (rowsA K) k)), (57, tp (i64 (↑k : Int))), (58, tp (i64 (↑k : Int))), (59, tp (vb (decide ((↑k : Int) < (↑k : Int)))))] []) (by kernel_rfl) trivial ?_
  refine AWP.seq ?_
  refine AWP.cond (b := decide ((↑k : Int) < (↑k : Int))) (by kernel_rfl) (fun hq4 => ?_) (fun hq4 => ?_)
  · simp only [decide_eq_true_eq] at hq4
    (exfalso; omega)
  simp only [decide_eq_false_iff_not] at hq4
  refine AWP.exit ?_
  refine AWP.seq ?_
  refine AWP.seq ?_
  refine AWP.regionT tcok hmix [] [0, 1, 2, 6, 71, 72, 73] [] (os := []) (s' := St.mk [(0, tp (V.vs (rowsA R) n)), (1, tp (u8 inh)), (2, tp (u8 lv)), (6, tp (vb false)), (71, tp (V.vs (rowsA R) n)), (72, tp (i64 (↑n : Int))), (73, tp (i64 0))] []) (by kernel_rfl) trivial ?_
  refine AWP.block ?_
  refine AWP.loopI [73, 72, 71, 0, 2, 1, 6] [] (fun N s' => ∃ (i : Int), s' = St.mk [(0, T.plain (V.vs (rowsA R) n)), (1, T.plain (u8 inh)), (2, T.plain (u8 lv)), (6, T.plain (vb false)), (71, T.plain (V.vs (rowsA R) n)), (72, T.plain (i64 (n : Int))), (73, T.plain (i64 i))] [] ∧ 0 ≤ i ∧ i ≤ n ∧ (N : Int) = n - i) n (s0 := St.mk [(0, T.plain (V.vs (rowsA R) n)), (1, T.plain (u8 inh)), (2, T.plain (u8 lv)), (6, T.plain (vb false)), (71, T.plain (V.vs (rowsA R) n)), (72, T.plain (i64 (n : Int))), (73, T.plain (i64 0))] []) (by kernel_rfl) ?_ ?_
  · exact ⟨0, rfl, by omega, by omega, by omega⟩
  clear hN hik hi0
  rintro N s' ⟨i, rfl, hi0, hin, hN⟩
  by_cases hlt : i < n
  · obtain ⟨a, ha⟩ : ∃ a, R[i.toNat]? = some a := ⟨_, List.getElem?_eq_getElem (by omega)⟩
    have hd := rowsA_dr ha
    have c7 := con_aright a.lv a.un a.ev
    have c8 := con_rright a.lv a.un a.ev
    refine AWP.seq ?_
    refine AWP.regionT tcok hmix [] [0, 1, 2, 6, 71, 72, 73, 74] [] (os := []) (s' := St.mk [(0, tp (V.vs (rowsA R) n)), (1, tp (u8 inh)), (2, tp (u8 lv)), (6, tp (vb false)), (71, tp (V.vs (rowsA R) n)), (72, tp (i64 (↑n : Int))), (73, tp (i64 i)), (74, tp (vb (decide (i < (↑n : Int)))))] []) (by kernel_rfl) trivial ?_
    refine AWP.seq ?_
    refine AWP.cond (b := decide (i < (↑n : Int))) (by kernel_rfl) (fun hq5 => ?_) (fun hq5 => ?_)
    · simp only [decide_eq_true_eq] at hq5
      refine AWP.skip ?_
      refine AWP.seq ?_
      refine AWP.block ?_
      refine AWP.seq ?_
      refine AWP.regionT tcok hmix [(1, ⟨some (V.vp (u8 a.lv :: i64 a.un :: u8 a.ev :: rowsA (List.drop (Int.toNat i + 1) R))), none⟩)] [0, 1, 2, 6, 15, 16, 71, 72, 73] [16] (os := [(0 : Int) ≤ i ∧ i < (↑n : Int), V.vp (List.drop (Int.toNat i * 3) (rowsA R)) = V.vp (u8 a.lv :: i64 a.un :: u8 a.ev :: rowsA (List.drop (Int.toNat i + 1) R))]) (s' := St.mk [(0, tp (V.vs (rowsA R) n)), (1, tp (u8 inh)), (2, tp (u8 lv)), (6, tp (vb false)), (15, tp (i64 i)), (16, tp (V.ptr 16 0)), (71, tp (V.vs (rowsA R) n)), (72, tp (i64 (↑n : Int))), (73, tp (i64 i))] [(16, Blk.mk [u8 a.lv, i64 a.un, u8 a.ev] true 3 none)]) (by kernel_rfl) ⟨(by omega), (congrArg V.vp hd), trivial⟩ ?_
      refine xe1 (os := [(0 : Int) ≤ i ∧ i < (↑n : Int), V.vp (List.drop (Int.toNat i * 3) (rowsA R)) = V.vp (u8 a.lv :: i64 a.un :: u8 a.ev :: rowsA (List.drop (Int.toNat i + 1) R)), Con Tryd.prog 38 [] [V.agg true [u8 a.lv, i64 a.un, u8 a.ev]] [] (vb (aright a.lv a.un)), Con Tryd.prog 39 [] [V.agg true [u8 a.lv, i64 a.un, u8 a.ev]] [] (vb (aright a.lv a.un))]) [(2, ⟨some (V.vp (u8 a.lv :: i64 a.un :: u8 a.ev :: rowsA (List.drop (Int.toNat i + 1) R))), none⟩), (4, ⟨none, some ⟨vb (aright a.lv a.un), [], []⟩⟩), (6, ⟨none, some ⟨vb (aright a.lv a.un), [], []⟩⟩)] [0, 1, 2, 6, 71, 72, 73, 85] [] (by kernel_rfl) ⟨(by omega), (congrArg V.vp hd), (c7 ), (c8 ), trivial⟩ ?_
      refine AWP.cond (b := bl false (aright a.lv a.un == aright a.lv a.un)) (by kernel_rfl) (fun hq6 => ?_) (fun hq6 => ?_)
      · (simp [bl] at hq6; done)
      refine AWP.skip ?_
      refine AWP.region tcok hmix [(0, ⟨some (i64 (i + 1)), none⟩)] (os := [i64 (IntKind.wrap IntKind.i64 (i + 1)) = i64 (i + 1)]) (sf := St.mk [(0, tp (V.vs (rowsA R) n)), (1, tp (u8 inh)), (2, tp (u8 lv)), (6, tp (vb false)), (71, tp (V.vs (rowsA R) n)), (72, tp (i64 (↑n : Int))), (73, tp (i64 (i + 1))), (85, tp (vb (bl false (aright a.lv a.un == aright a.lv a.un)))), (86, tp (i64 (i + 1)))] []) (by kernel_rfl) ⟨(wr_i64 (by omega) (by omega)), trivial⟩ ?_
      refine ⟨St.mk [(0, tp (V.vs (rowsA R) n)), (1, tp (u8 inh)), (2, tp (u8 lv)), (6, tp (vb false)), (71, tp (V.vs (rowsA R) n)), (72, tp (i64 (↑n : Int))), (73, tp (i64 (i + 1)))] [], by kernel_rfl, ?_⟩
      first | (exact ⟨(n - (i + 1)).toNat, (by omega), i + 1, rfl, (by omega), (by omega), (by omega)⟩) | (exfalso; simp at hq6; done) | (exfalso; omega)
    simp only [decide_eq_false_iff_not] at hq5
    (exfalso; omega)
  have hie : i = n := by omega
  subst hie
  have c6 := con_awake22
  rcases (by omega : lv = 0 ∨ lv = 1 ∨ lv = 2 ∨ lv = 3 ∨ lv = 4 ∨ 5 ≤ lv) with rfl | rfl | rfl | rfl | rfl | hl5
  · have c7 := con_allowed inh 0 hi (by omega)
    have c8 := con_rallowed inh 0 hi (by omega)
    refine AWP.seq ?_
    refine AWP.regionT tcok hmix [] [0, 1, 2, 6, 71, 72, 73, 74] [] (os := []) (s' := St.mk [(0, tp (V.vs (rowsA R) n)), (1, tp (u8 inh)), (2, tp (u8 0)), (6, tp (vb false)), (71, tp (V.vs (rowsA R) n)), (72, tp (i64 (↑n : Int))), (73, tp (i64 (↑n : Int))), (74, tp (vb (decide ((↑n : Int) < (↑n : Int)))))] []) (by kernel_rfl) trivial ?_
    refine AWP.seq ?_
    refine AWP.cond (b := decide ((↑n : Int) < (↑n : Int))) (by kernel_rfl) (fun hq7 => ?_) (fun hq7 => ?_)
    · simp only [decide_eq_true_eq] at hq7
      (exfalso; omega)
    simp only [decide_eq_false_iff_not] at hq7
    refine AWP.exit ?_
    refine AWP.seq ?_
    refine AWP.regionT tcok hmix [] [1, 2, 6, 17] [] (os := []) (s' := St.mk [(1, tp (u8 inh)), (2, tp (u8 0)), (6, tp (vb false)), (17, tp (V.val (Value.string (ByteArray.mk #[]))))] []) (by kernel_rfl) trivial ?_
    refine AWP.seq ?_
    refine xe0 [1, 2, 6, 17, 88] [] (by kernel_rfl) ?_
    refine AWP.condT (by kernel_rfl) ?_
    refine xg0 [1, 2, 6, 17] [] (by kernel_rfl) ?_
    refine xe1 (os := [Con Tryd.prog 40 [] [u8 inh, u8 0] [] (vb (al inh 0)), Con Tryd.prog 12 [] [u8 inh, i64 0] [] (vb (al inh 0)), bl true (al inh (0 : Int) == al inh (0 : Int)) = true → Con Tryd.prog (41 : Nat) [] [u8 (0 : Int)] [] (V.val (Value.string (ByteArray.mk #[(117 : UInt8), (110 : UInt8), (105 : UInt8), (116 : UInt8)]))) ∧ True]) [(2, ⟨none, some ⟨vb (al inh 0), [], []⟩⟩), (6, ⟨none, some ⟨vb (al inh 0), [], []⟩⟩), (10, ⟨none, some ⟨V.val (Value.string (ByteArray.mk #[117, 110, 105, 116])), [], []⟩⟩)] [6] [] (by kernel_rfl) ⟨(c7 ), (c8 ), (fun _ => ⟨(con_nm0 ), trivial⟩), trivial⟩ ?_
    refine AWP.ret ?_
    refine ⟨Or.inr rfl, Eq.trans (b := some ([], vb (bl true (al inh 0 == al inh 0) && true))) (by kernel_rfl) ?_⟩
    first | rfl | (simp [bl]; done) | (exfalso; omega)
  · have c7 := con_allowed inh 1 hi (by omega)
    have c8 := con_rallowed inh 1 hi (by omega)
    refine AWP.seq ?_
    refine AWP.regionT tcok hmix [] [0, 1, 2, 6, 71, 72, 73, 74] [] (os := []) (s' := St.mk [(0, tp (V.vs (rowsA R) n)), (1, tp (u8 inh)), (2, tp (u8 1)), (6, tp (vb false)), (71, tp (V.vs (rowsA R) n)), (72, tp (i64 (↑n : Int))), (73, tp (i64 (↑n : Int))), (74, tp (vb (decide ((↑n : Int) < (↑n : Int)))))] []) (by kernel_rfl) trivial ?_
    refine AWP.seq ?_
    refine AWP.cond (b := decide ((↑n : Int) < (↑n : Int))) (by kernel_rfl) (fun hq9 => ?_) (fun hq9 => ?_)
    · simp only [decide_eq_true_eq] at hq9
      (exfalso; omega)
    simp only [decide_eq_false_iff_not] at hq9
    refine AWP.exit ?_
    refine AWP.seq ?_
    refine AWP.regionT tcok hmix [] [1, 2, 6, 17] [] (os := []) (s' := St.mk [(1, tp (u8 inh)), (2, tp (u8 1)), (6, tp (vb false)), (17, tp (V.val (Value.string (ByteArray.mk #[]))))] []) (by kernel_rfl) trivial ?_
    refine AWP.seq ?_
    refine xe0 [1, 2, 6, 17, 88] [] (by kernel_rfl) ?_
    refine AWP.condT (by kernel_rfl) ?_
    refine xg0 [1, 2, 6, 17] [] (by kernel_rfl) ?_
    refine xe1 (os := [Con Tryd.prog 40 [] [u8 inh, u8 1] [] (vb (al inh 1)), Con Tryd.prog 12 [] [u8 inh, i64 1] [] (vb (al inh 1)), bl true (al inh (1 : Int) == al inh (1 : Int)) = true → Con Tryd.prog (41 : Nat) [] [u8 (1 : Int)] [] (V.val (Value.string (ByteArray.mk #[(102 : UInt8), (117 : UInt8), (110 : UInt8), (99 : UInt8), (116 : UInt8), (105 : UInt8), (111 : UInt8), (110 : UInt8)]))) ∧ True]) [(2, ⟨none, some ⟨vb (al inh 1), [], []⟩⟩), (6, ⟨none, some ⟨vb (al inh 1), [], []⟩⟩), (10, ⟨none, some ⟨V.val (Value.string (ByteArray.mk #[102, 117, 110, 99, 116, 105, 111, 110])), [], []⟩⟩)] [6] [] (by kernel_rfl) ⟨(c7 ), (c8 ), (fun _ => ⟨(con_nm1 ), trivial⟩), trivial⟩ ?_
    refine AWP.ret ?_
    refine ⟨Or.inr rfl, Eq.trans (b := some ([], vb (bl true (al inh 1 == al inh 1) && true))) (by kernel_rfl) ?_⟩
    first | rfl | (simp [bl]; done) | (exfalso; omega)
  · have c7 := con_allowed inh 2 hi (by omega)
    have c8 := con_rallowed inh 2 hi (by omega)
    refine AWP.seq ?_
    refine AWP.regionT tcok hmix [] [0, 1, 2, 6, 71, 72, 73, 74] [] (os := []) (s' := St.mk [(0, tp (V.vs (rowsA R) n)), (1, tp (u8 inh)), (2, tp (u8 2)), (6, tp (vb false)), (71, tp (V.vs (rowsA R) n)), (72, tp (i64 (↑n : Int))), (73, tp (i64 (↑n : Int))), (74, tp (vb (decide ((↑n : Int) < (↑n : Int)))))] []) (by kernel_rfl) trivial ?_
    refine AWP.seq ?_
    refine AWP.cond (b := decide ((↑n : Int) < (↑n : Int))) (by kernel_rfl) (fun hq11 => ?_) (fun hq11 => ?_)
    · simp only [decide_eq_true_eq] at hq11
      (exfalso; omega)
    simp only [decide_eq_false_iff_not] at hq11
    refine AWP.exit ?_
    refine AWP.seq ?_
    refine AWP.regionT tcok hmix [] [1, 2, 6, 17] [] (os := []) (s' := St.mk [(1, tp (u8 inh)), (2, tp (u8 2)), (6, tp (vb false)), (17, tp (V.val (Value.string (ByteArray.mk #[]))))] []) (by kernel_rfl) trivial ?_
    refine AWP.seq ?_
    refine xe0 [1, 2, 6, 17, 88] [] (by kernel_rfl) ?_
    refine AWP.condT (by kernel_rfl) ?_
    refine xg0 [1, 2, 6, 17] [] (by kernel_rfl) ?_
    refine xe1 (os := [Con Tryd.prog 40 [] [u8 inh, u8 2] [] (vb (al inh 2)), Con Tryd.prog 12 [] [u8 inh, i64 2] [] (vb (al inh 2)), bl true (al inh (2 : Int) == al inh (2 : Int)) = true → Con Tryd.prog (41 : Nat) [] [u8 (2 : Int)] [] (V.val (Value.string (ByteArray.mk #[(115 : UInt8), (121 : UInt8), (115 : UInt8), (116 : UInt8), (101 : UInt8), (109 : UInt8)]))) ∧ True]) [(2, ⟨none, some ⟨vb (al inh 2), [], []⟩⟩), (6, ⟨none, some ⟨vb (al inh 2), [], []⟩⟩), (10, ⟨none, some ⟨V.val (Value.string (ByteArray.mk #[115, 121, 115, 116, 101, 109])), [], []⟩⟩)] [6] [] (by kernel_rfl) ⟨(c7 ), (c8 ), (fun _ => ⟨(con_nm2 ), trivial⟩), trivial⟩ ?_
    refine AWP.ret ?_
    refine ⟨Or.inr rfl, Eq.trans (b := some ([], vb (bl true (al inh 2 == al inh 2) && true))) (by kernel_rfl) ?_⟩
    first | rfl | (simp [bl]; done) | (exfalso; omega)
  · have c7 := con_allowed inh 3 hi (by omega)
    have c8 := con_rallowed inh 3 hi (by omega)
    refine AWP.seq ?_
    refine AWP.regionT tcok hmix [] [0, 1, 2, 6, 71, 72, 73, 74] [] (os := []) (s' := St.mk [(0, tp (V.vs (rowsA R) n)), (1, tp (u8 inh)), (2, tp (u8 3)), (6, tp (vb false)), (71, tp (V.vs (rowsA R) n)), (72, tp (i64 (↑n : Int))), (73, tp (i64 (↑n : Int))), (74, tp (vb (decide ((↑n : Int) < (↑n : Int)))))] []) (by kernel_rfl) trivial ?_
    refine AWP.seq ?_
    refine AWP.cond (b := decide ((↑n : Int) < (↑n : Int))) (by kernel_rfl) (fun hq13 => ?_) (fun hq13 => ?_)
    · simp only [decide_eq_true_eq] at hq13
      (exfalso; omega)
    simp only [decide_eq_false_iff_not] at hq13
    refine AWP.exit ?_
    refine AWP.seq ?_
    refine AWP.regionT tcok hmix [] [1, 2, 6, 17] [] (os := []) (s' := St.mk [(1, tp (u8 inh)), (2, tp (u8 3)), (6, tp (vb false)), (17, tp (V.val (Value.string (ByteArray.mk #[]))))] []) (by kernel_rfl) trivial ?_
    refine AWP.seq ?_
    refine xe0 [1, 2, 6, 17, 88] [] (by kernel_rfl) ?_
    refine AWP.condT (by kernel_rfl) ?_
    refine xg0 [1, 2, 6, 17] [] (by kernel_rfl) ?_
    refine xe1 (os := [Con Tryd.prog 40 [] [u8 inh, u8 3] [] (vb (al inh 3)), Con Tryd.prog 12 [] [u8 inh, i64 3] [] (vb (al inh 3)), bl true (al inh (3 : Int) == al inh (3 : Int)) = true → Con Tryd.prog (41 : Nat) [] [u8 (3 : Int)] [] (V.val (Value.string (ByteArray.mk #[(119 : UInt8), (97 : UInt8), (116 : UInt8), (99 : UInt8), (104 : UInt8), (100 : UInt8), (111 : UInt8), (103 : UInt8)]))) ∧ True]) [(2, ⟨none, some ⟨vb (al inh 3), [], []⟩⟩), (6, ⟨none, some ⟨vb (al inh 3), [], []⟩⟩), (10, ⟨none, some ⟨V.val (Value.string (ByteArray.mk #[119, 97, 116, 99, 104, 100, 111, 103])), [], []⟩⟩)] [6] [] (by kernel_rfl) ⟨(c7 ), (c8 ), (fun _ => ⟨(con_nm3 ), trivial⟩), trivial⟩ ?_
    refine AWP.ret ?_
    refine ⟨Or.inr rfl, Eq.trans (b := some ([], vb (bl true (al inh 3 == al inh 3) && true))) (by kernel_rfl) ?_⟩
    first | rfl | (simp [bl]; done) | (exfalso; omega)
  · have c7 := con_allowed inh 4 hi (by omega)
    have c8 := con_rallowed inh 4 hi (by omega)
    refine AWP.seq ?_
    refine AWP.regionT tcok hmix [] [0, 1, 2, 6, 71, 72, 73, 74] [] (os := []) (s' := St.mk [(0, tp (V.vs (rowsA R) n)), (1, tp (u8 inh)), (2, tp (u8 4)), (6, tp (vb false)), (71, tp (V.vs (rowsA R) n)), (72, tp (i64 (↑n : Int))), (73, tp (i64 (↑n : Int))), (74, tp (vb (decide ((↑n : Int) < (↑n : Int)))))] []) (by kernel_rfl) trivial ?_
    refine AWP.seq ?_
    refine AWP.cond (b := decide ((↑n : Int) < (↑n : Int))) (by kernel_rfl) (fun hq15 => ?_) (fun hq15 => ?_)
    · simp only [decide_eq_true_eq] at hq15
      (exfalso; omega)
    simp only [decide_eq_false_iff_not] at hq15
    refine AWP.exit ?_
    refine AWP.seq ?_
    refine AWP.regionT tcok hmix [] [1, 2, 6, 17] [] (os := []) (s' := St.mk [(1, tp (u8 inh)), (2, tp (u8 4)), (6, tp (vb false)), (17, tp (V.val (Value.string (ByteArray.mk #[]))))] []) (by kernel_rfl) trivial ?_
    refine AWP.seq ?_
    refine xe0 [1, 2, 6, 17, 88] [] (by kernel_rfl) ?_
    refine AWP.condT (by kernel_rfl) ?_
    refine xg0 [1, 2, 6, 17] [] (by kernel_rfl) ?_
    refine xe1 (os := [Con Tryd.prog 40 [] [u8 inh, u8 4] [] (vb (al inh 4)), Con Tryd.prog 12 [] [u8 inh, i64 4] [] (vb (al inh 4)), bl true (al inh (4 : Int) == al inh (4 : Int)) = true → Con Tryd.prog (41 : Nat) [] [u8 (4 : Int)] [] (V.val (Value.string (ByteArray.mk #[(97 : UInt8), (108 : UInt8), (97 : UInt8), (114 : UInt8), (109 : UInt8)]))) ∧ True]) [(2, ⟨none, some ⟨vb (al inh 4), [], []⟩⟩), (6, ⟨none, some ⟨vb (al inh 4), [], []⟩⟩), (10, ⟨none, some ⟨V.val (Value.string (ByteArray.mk #[97, 108, 97, 114, 109])), [], []⟩⟩)] [6] [] (by kernel_rfl) ⟨(c7 ), (c8 ), (fun _ => ⟨(con_nm4 ), trivial⟩), trivial⟩ ?_
    refine AWP.ret ?_
    refine ⟨Or.inr rfl, Eq.trans (b := some ([], vb (bl true (al inh 4 == al inh 4) && true))) (by kernel_rfl) ?_⟩
    first | rfl | (simp [bl]; done) | (exfalso; omega)
  · have c7 := con_allowed_no inh lv hl5
    have c8 := con_rallowed_no inh lv hi hl5 hl.2
    have c9 := con_nm5 lv hl5
    refine AWP.seq ?_
    refine AWP.regionT tcok hmix [] [0, 1, 2, 6, 71, 72, 73, 74] [] (os := []) (s' := St.mk [(0, tp (V.vs (rowsA R) n)), (1, tp (u8 inh)), (2, tp (u8 lv)), (6, tp (vb false)), (71, tp (V.vs (rowsA R) n)), (72, tp (i64 (↑n : Int))), (73, tp (i64 (↑n : Int))), (74, tp (vb (decide ((↑n : Int) < (↑n : Int)))))] []) (by kernel_rfl) trivial ?_
    refine AWP.seq ?_
    refine AWP.cond (b := decide ((↑n : Int) < (↑n : Int))) (by kernel_rfl) (fun hq17 => ?_) (fun hq17 => ?_)
    · simp only [decide_eq_true_eq] at hq17
      (exfalso; omega)
    simp only [decide_eq_false_iff_not] at hq17
    refine AWP.exit ?_
    refine AWP.seq ?_
    refine AWP.regionT tcok hmix [] [1, 2, 6, 17] [] (os := []) (s' := St.mk [(1, tp (u8 inh)), (2, tp (u8 lv)), (6, tp (vb false)), (17, tp (V.val (Value.string (ByteArray.mk #[]))))] []) (by kernel_rfl) trivial ?_
    refine AWP.seq ?_
    refine xe0 [1, 2, 6, 17, 88] [] (by kernel_rfl) ?_
    refine AWP.cond (b := decide (lv < 5)) (by kernel_rfl) (fun hq18 => ?_) (fun hq18 => ?_)
    · simp only [decide_eq_true_eq] at hq18
      (exfalso; omega)
    simp only [decide_eq_false_iff_not] at hq18
    refine AWP.skip ?_
    refine AWP.seq ?_
    refine AWP.regionT tcok hmix [(2, ⟨none, some ⟨vb false, [], []⟩⟩), (5, ⟨some (i64 lv), none⟩), (6, ⟨none, some ⟨vb false, [], []⟩⟩), (10, ⟨none, some ⟨V.val (Value.string (ByteArray.mk #[])), [], []⟩⟩)] [6] [] (os := [Con Tryd.prog 40 [] [u8 inh, u8 lv] [] (vb false), i64 (IntKind.wrap IntKind.i64 lv) = i64 lv, Con Tryd.prog 12 [] [u8 inh, i64 lv] [] (vb false), true = true → Con Tryd.prog (41 : Nat) [] [u8 lv] [] (V.val (Value.string (ByteArray.mk #[]))) ∧ True]) (s' := St.mk [(6, tp (vb true))] []) (by kernel_rfl) ⟨(c7 ), (wr_i64 (by omega) (by omega)), (c8 ), (fun _ => ⟨(c9 ), trivial⟩), trivial⟩ ?_
    refine AWP.ret ?_
    refine ⟨Or.inr rfl, Eq.trans (b := some ([], vb true)) (by kernel_rfl) ?_⟩
    first | rfl | (simp [bl]; done) | (exfalso; omega)
theorem law_FdirPicks (x y z : V) (hx : TyV tc 9 82 x) (hy : TyV tc 9 5 y) (hz : TyV tc 9 5 z) : Con Tryd.prog 10 [] [x, y, z] [] (vb true) := by
  obtain ⟨cs, n, e, hn, rows, h1, h2, h3⟩ := hx
  cases e
  obtain ⟨p, e2, p1, p2⟩ := hy
  cases e2
  obtain ⟨q, e3, q1, q2⟩ := hz
  cases e3
  have key : ∀ rows : List (List V), (∀ r ∈ rows, ∃ a : Al, r = Al.row a ∧ 0 ≤ a.lv) → ∃ L : List Al, L.length = rows.length ∧ rowsA L = rows.flatten ∧ ∀ a ∈ L, 0 ≤ a.lv := by
    intro rows
    induction rows with
    | nil => intro _; exact ⟨[], rfl, rfl, fun a h => by cases h⟩
    | cons r t ih =>
      intro h
      obtain ⟨L, g1, g2, g3⟩ := ih fun r hr => h r (List.mem_cons_of_mem _ hr)
      obtain ⟨a, rfl, ha⟩ := h r (List.mem_cons_self ..)
      refine ⟨a :: L, by simp [g1], by rw [List.flatten_cons, ← g2]; rfl, fun b hb => ?_⟩
      rcases List.mem_cons.1 hb with rfl | hb
      · exact ha
      · exact g3 b hb
  obtain ⟨L, g1, g2, g3⟩ := key rows fun r hr => by
    obtain ⟨_, _, rfl, ⟨lv, rfl, a1, a2⟩, _, _, rfl, ⟨un, rfl, b1, b2⟩, _, _, rfl, ⟨ev, rfl, c1, c2⟩, rfl⟩ := h3 r hr
    exact ⟨⟨lv, un, ev⟩, rfl, a1⟩
  rw [h2, ← g2]
  exact law_picks L n (by omega) (by omega) g3 p q ⟨p1, Int.lt_add_one_of_le p2⟩ ⟨q1, Int.lt_add_one_of_le q2⟩
end Go.Proofs.YtklbonfbiakebaaDoor
