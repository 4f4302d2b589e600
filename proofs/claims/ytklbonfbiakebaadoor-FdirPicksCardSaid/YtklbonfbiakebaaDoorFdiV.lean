/- FdirPicks: what is handed to it; the document's pick; the levels' names. -/
import Derived.Test.YtklbonfbiakebaaDoorRg
import Derived.Test.YtklbonfbiakebaaDoorFdiU
namespace Go.Proofs.YtklbonfbiakebaaDoor
open Go.Ab
set_option maxRecDepth 100000
set_option maxHeartbeats 8000000
set_option linter.unusedSimpArgs false
set_option linter.unusedVariables false
theorem con_rpick (inh : Int) (hi : 0 ≤ inh ∧ inh < 256) (R : List Al) (n : Nat) (hn : R.length = n) (hm : n ≤ 20) (hR : ∀ a ∈ R, 0 ≤ a.lv) (X : Option Al) (hX : pk inh (ordA R) = X) : Con Tryd.prog 35 [] [u8 inh, .vs (rowsA R) n] [] (pkV X) := by
  have hO := ordA_ok R hR
  have c := Con.frz1 (con_rorder R n hn hm hR _ rfl _ rfl)
  have hklm : (ordA R).length ≤ 20 := by
    unfold ordA
    rw [byLev_len _ _ (fun a h => by have := ok_lev (a := a) (by simpa using (List.mem_filter.1 h).2) (hR a (List.mem_filter.1 h).1); unfold levA; omega)]
    have := List.length_filter_le (fun a : Al => a.ok) R
    omega
  generalize ordA R = K at *
  generalize hk : K.length = k at *
  have hkm : k ≤ 20 := hklm
  have hkl := rowsA_len K
  refine Con.of (C := ⟨Tryd.prog, tc, Tryd.f35.ntmps⟩) [] tcok Tryd.func35 rfl rfl (by kernel_rfl) (by kernel_rfl) ?_
  refine AWP.seq ?_
  refine AWP.regionT tcok hmix [] [0, 1, 4, 5] [4] (os := []) (s' := St.mk [(0, tp (u8 inh)), (1, tp (V.vs (rowsA R) n)), (4, tp (V.ptr 4 0)), (5, tp (vb false))] [(4, Blk.mk [u8 0, i64 0, u8 0] true 3 none)]) (by kernel_rfl) trivial ?_
  refine AWP.seq ?_
  refine xe1 (os := [Con Tryd.prog 37 [] [V.vs (rowsA R) n] [] (V.vs (rowsA K) k)]) [(1, ⟨none, some ⟨V.vs (rowsA K) k, [], []⟩⟩)] [0, 4, 5, 9, 10, 11] [4] (by kernel_rfl) ⟨(c ), trivial⟩ ?_
  refine AWP.block ?_
  refine AWP.loopI [11, 10, 9, 0, 4, 5] [4] (fun N s' => ∃ (i : Int), s' = St.mk [(0, T.plain (u8 inh)), (4, T.plain (V.ptr 4 0)), (5, T.plain (vb false)), (9, T.plain (V.vs (rowsA K) k)), (10, T.plain (i64 (k : Int))), (11, T.plain (i64 i))] [(4, Blk.mk [u8 0, i64 0, u8 0] true 3 none)] ∧ pk inh (K.drop i.toNat) = X ∧ 0 ≤ i ∧ i ≤ k ∧ (N : Int) = k - i) k (s0 := St.mk [(0, T.plain (u8 inh)), (4, T.plain (V.ptr 4 0)), (5, T.plain (vb false)), (9, T.plain (V.vs (rowsA K) k)), (10, T.plain (i64 (k : Int))), (11, T.plain (i64 0))] [(4, Blk.mk [u8 0, i64 0, u8 0] true 3 none)]) (by kernel_rfl) ?_ ?_
  · exact ⟨0, rfl, hX, by omega, by omega, by omega⟩
  rintro N s' ⟨i, rfl, hp, hi0, hik, hN⟩
  by_cases hlt : i < k
  · obtain ⟨a, ha⟩ : ∃ a, K[i.toNat]? = some a := ⟨_, List.getElem?_eq_getElem (by omega)⟩
    have hd := rowsA_dr ha
    rw [pk_at ha] at hp
    have hal := hO a (List.mem_of_getElem? ha)
    have ca := con_rallowed inh a.lv hi (by omega)
    have e1 : (i + 1).toNat = i.toNat + 1 := by omega
    cases hc : al inh a.lv with
    | true =>
      rw [hc, if_pos rfl] at hp
      subst hp
      rw [hc] at ca
      refine AWP.seq ?_
      refine AWP.regionT tcok hmix [] [0, 4, 5, 9, 10, 11, 12] [4] (os := []) (s' := St.mk [(0, tp (u8 inh)), (4, tp (V.ptr 4 0)), (5, tp (vb false)), (9, tp (V.vs (rowsA K) k)), (10, tp (i64 (↑k : Int))), (11, tp (i64 i)), (12, tp (vb (decide (i < (↑k : Int)))))] [(4, Blk.mk [u8 0, i64 0, u8 0] true 3 none)]) (by kernel_rfl) trivial ?_
      refine AWP.seq ?_
      refine AWP.cond (b := decide (i < (↑k : Int))) (by kernel_rfl) (fun hq0 => ?_) (fun hq0 => ?_)
      · simp only [decide_eq_true_eq] at hq0
        refine AWP.skip ?_
        refine AWP.seq ?_
        refine AWP.block ?_
        refine AWP.seq ?_
        refine AWP.regionT tcok hmix [(0, ⟨some (V.vp (u8 a.lv :: i64 a.un :: u8 a.ev :: rowsA (List.drop (Int.toNat i + 1) K))), none⟩)] [0, 4, 5, 7, 9, 10, 11] [4, 7] (os := [(0 : Int) ≤ i ∧ i < (↑k : Int), V.vp (List.drop (Int.toNat i * 3) (rowsA K)) = V.vp (u8 a.lv :: i64 a.un :: u8 a.ev :: rowsA (List.drop (Int.toNat i + 1) K))]) (s' := St.mk [(0, tp (u8 inh)), (4, tp (V.ptr 4 0)), (5, tp (vb false)), (7, tp (V.ptr 7 0)), (9, tp (V.vs (rowsA K) k)), (10, tp (i64 (↑k : Int))), (11, tp (i64 i))] [(4, Blk.mk [u8 0, i64 0, u8 0] true 3 none), (7, Blk.mk [u8 a.lv, i64 a.un, u8 a.ev] true 3 none)]) (by kernel_rfl) ⟨(by omega), (congrArg V.vp hd), trivial⟩ ?_
        refine xe1 (os := [i64 (IntKind.wrap IntKind.i64 a.lv) = i64 a.lv, Con Tryd.prog 12 [] [u8 inh, i64 a.lv] [] (vb true)]) [(3, ⟨some (i64 a.lv), none⟩), (4, ⟨none, some ⟨vb true, [], []⟩⟩)] [0, 4, 5, 7, 9, 10, 11, 19] [4, 7] (by kernel_rfl) ⟨(wr_i64 (by omega) (by omega)), (ca ), trivial⟩ ?_
        refine AWP.condT (by kernel_rfl) ?_
        refine xe0 [0, 4, 5, 9, 10, 11] [4] (by kernel_rfl) ?_
        refine AWP.ret ?_
        refine ⟨Or.inr rfl, Eq.trans (b := some ([], V.tup [V.agg true [u8 a.lv, i64 a.un, u8 a.ev], vb true])) (by kernel_rfl) ?_⟩
        first | rfl | (exfalso; omega)
      simp only [decide_eq_false_iff_not] at hq0
      (exfalso; omega)
    | false =>
      rw [hc, if_neg (by simp), ← e1] at hp
      rw [hc] at ca
      refine AWP.seq ?_
      refine AWP.regionT tcok hmix [] [0, 4, 5, 9, 10, 11, 12] [4] (os := []) (s' := St.mk [(0, tp (u8 inh)), (4, tp (V.ptr 4 0)), (5, tp (vb false)), (9, tp (V.vs (rowsA K) k)), (10, tp (i64 (↑k : Int))), (11, tp (i64 i)), (12, tp (vb (decide (i < (↑k : Int)))))] [(4, Blk.mk [u8 0, i64 0, u8 0] true 3 none)]) (by kernel_rfl) trivial ?_
      refine AWP.seq ?_
      refine AWP.cond (b := decide (i < (↑k : Int))) (by kernel_rfl) (fun hq2 => ?_) (fun hq2 => ?_)
      · simp only [decide_eq_true_eq] at hq2
        refine AWP.skip ?_
        refine AWP.seq ?_
        refine AWP.block ?_
        refine AWP.seq ?_
        refine AWP.regionT tcok hmix [(0, ⟨some (V.vp (u8 a.lv :: i64 a.un :: u8 a.ev :: rowsA (List.drop (Int.toNat i + 1) K))), none⟩)] [0, 4, 5, 7, 9, 10, 11] [4, 7] (os := [(0 : Int) ≤ i ∧ i < (↑k : Int), V.vp (List.drop (Int.toNat i * 3) (rowsA K)) = V.vp (u8 a.lv :: i64 a.un :: u8 a.ev :: rowsA (List.drop (Int.toNat i + 1) K))]) (s' := St.mk [(0, tp (u8 inh)), (4, tp (V.ptr 4 0)), (5, tp (vb false)), (7, tp (V.ptr 7 0)), (9, tp (V.vs (rowsA K) k)), (10, tp (i64 (↑k : Int))), (11, tp (i64 i))] [(4, Blk.mk [u8 0, i64 0, u8 0] true 3 none), (7, Blk.mk [u8 a.lv, i64 a.un, u8 a.ev] true 3 none)]) (by kernel_rfl) ⟨(by omega), (congrArg V.vp hd), trivial⟩ ?_
        refine xe1 (os := [i64 (IntKind.wrap IntKind.i64 a.lv) = i64 a.lv, Con Tryd.prog 12 [] [u8 inh, i64 a.lv] [] (vb false)]) [(3, ⟨some (i64 a.lv), none⟩), (4, ⟨none, some ⟨vb false, [], []⟩⟩)] [0, 4, 5, 7, 9, 10, 11, 19] [4, 7] (by kernel_rfl) ⟨(wr_i64 (by omega) (by omega)), (ca ), trivial⟩ ?_
        refine AWP.condF (by kernel_rfl) ?_
        refine AWP.skip ?_
        refine AWP.region tcok hmix [(0, ⟨some (i64 (i + 1)), none⟩)] (os := [i64 (IntKind.wrap IntKind.i64 (i + 1)) = i64 (i + 1)]) (sf := St.mk [(0, tp (u8 inh)), (4, tp (V.ptr 4 0)), (5, tp (vb false)), (7, tp (V.ptr 7 0)), (9, tp (V.vs (rowsA K) k)), (10, tp (i64 (↑k : Int))), (11, tp (i64 (i + 1))), (19, tp (vb false)), (21, tp (i64 (i + 1)))] [(4, Blk.mk [u8 0, i64 0, u8 0] true 3 none), (7, Blk.mk [u8 a.lv, i64 a.un, u8 a.ev] true 3 none)]) (by kernel_rfl) ⟨(wr_i64 (by omega) (by omega)), trivial⟩ ?_
        refine ⟨St.mk [(0, tp (u8 inh)), (4, tp (V.ptr 4 0)), (5, tp (vb false)), (9, tp (V.vs (rowsA K) k)), (10, tp (i64 (↑k : Int))), (11, tp (i64 (i + 1)))] [(4, Blk.mk [u8 0, i64 0, u8 0] true 3 none)], by kernel_rfl, ?_⟩
        first | (exact ⟨(k - (i + 1)).toNat, (by omega), i + 1, rfl, hp, (by omega), (by omega), (by omega)⟩) | (exfalso; omega)
      simp only [decide_eq_false_iff_not] at hq2
      (exfalso; omega)
  have hin : i = k := by omega
  subst hin
  rw [List.drop_eq_nil_of_le (by omega)] at hp
  subst hp
  refine AWP.seq ?_
  refine AWP.regionT tcok hmix [] [0, 4, 5, 9, 10, 11, 12] [4] (os := []) (s' := St.mk [(0, tp (u8 inh)), (4, tp (V.ptr 4 0)), (5, tp (vb false)), (9, tp (V.vs (rowsA K) k)), (10, tp (i64 (↑k : Int))), (11, tp (i64 (↑k : Int))), (12, tp (vb (decide ((↑k : Int) < (↑k : Int)))))] [(4, Blk.mk [u8 0, i64 0, u8 0] true 3 none)]) (by kernel_rfl) trivial ?_
  refine AWP.seq ?_
  refine AWP.cond (b := decide ((↑k : Int) < (↑k : Int))) (by kernel_rfl) (fun hq4 => ?_) (fun hq4 => ?_)
  · simp only [decide_eq_true_eq] at hq4
    (exfalso; omega)
  simp only [decide_eq_false_iff_not] at hq4
  refine AWP.exit ?_
  refine AWP.seq ?_
  refine AWP.regionT tcok hmix [] [4, 5] [4] (os := []) (s' := St.mk [(4, tp (V.ptr 4 0)), (5, tp (vb false))] [(4, Blk.mk [u8 0, i64 0, u8 0] true 3 none)]) (by kernel_rfl) trivial ?_
  refine AWP.ret ?_
  refine ⟨Or.inr rfl, Eq.trans (b := some ([], V.tup [V.agg true [u8 0, i64 0, u8 0], vb false])) (by kernel_rfl) ?_⟩
  first | rfl | (exfalso; omega)
theorem con_few (L : List Al) (m : Nat) (hm : L.length = m) (hmm : m ≤ 9223372036854775807) (R : List Al) (hR : L.take 20 = R) (n : Nat) (hn : R.length = n) : Con Tryd.prog 33 [] [.vs (rowsA L) m] [(4, ⟨rowsA R, true, 0, some (47, 3)⟩), (7, ⟨rowsA R, true, 0, some (29, 3)⟩)] (.tup [.sl 7 0 n, .sl 4 0 n]) := by
  have hll := rowsA_len L
  have hrl := rowsA_len R
  have hnm : n = min m 20 := by rw [← hn, ← hR, List.length_take, hm, Nat.min_comm]
  have wf : imin (m : Int) 20 = (n : Int) := by unfold imin; split <;> omega
  have htk : List.take (n * 3) (rowsA L) = rowsA R := by rw [rowsA_take, ← hR, hnm, Nat.min_comm]; congr 1; rw [← hm]; exact (List.take_eq_take_min).symm
  have htk2 : List.take (n * 3) (rowsA R) = rowsA R := by rw [← hn, ← hrl, List.take_length]
  refine Con.of (C := ⟨Tryd.prog, tc, Tryd.f33.ntmps⟩) [4, 7] tcok Tryd.func33 rfl rfl (by kernel_rfl) (by kernel_rfl) ?_
  refine AWP.seq ?_
  refine AWP.regionT tcok hmix [] [0, 2, 3] [2, 3] (os := []) (s' := St.mk [(0, tp (V.vs (rowsA L) m)), (2, tp (V.sl 2 0 0)), (3, tp (V.sl 3 0 0))] [(2, Blk.mk [] true 0 (some (29, 3))), (3, Blk.mk [] true 0 (some (47, 3)))]) (by kernel_rfl) trivial ?_
  refine xe1 (os := [i64 (imin (↑m : Int) 20) = i64 (↑n : Int), (0 : Int) ≤ (↑(0 : Nat) : Int) ∧ (↑(0 : Nat) : Int) ≤ (↑n : Int) ∧ (↑n : Int) ≤ (↑m : Int), V.vs (subV (rowsA L) none (some (i64 (↑n : Int))) (Int.toNat (↑0 : Int) * 3) (Int.toNat (↑n : Int) * 3) ((Int.toNat (↑n : Int) - Int.toNat (↑0 : Int)) * 3)) (Int.toNat (↑n : Int) - 0) = V.vs (subV (rowsA L) none (some (i64 (↑n : Int))) (Int.toNat (↑0 : Int) * 3) (Int.toNat (↑n : Int) * 3) ((Int.toNat (↑n : Int) - Int.toNat (↑0 : Int)) * 3)) (Int.toNat (↑n : Int) - 0), (Int.toNat (↑n : Int) - (0 : Nat)) * (3 : Nat) ≤ List.length (subV (rowsA L) none (some (i64 (↑n : Int))) (Int.toNat (↑(0 : Nat) : Int) * (3 : Nat)) (Int.toNat (↑n : Int) * (3 : Nat)) ((Int.toNat (↑n : Int) - Int.toNat (↑(0 : Nat) : Int)) * (3 : Nat))), (0 : Nat) = (0 : Nat), (0 : Nat) + (Int.toNat (↑n : Int) - (0 : Nat)) ≤ (9223372036854775807 : Nat), ((0 : Nat) + (Int.toNat (↑n : Int) - (0 : Nat))) * (24 : Nat) ≤ (140737488355328 : Nat), [] ++ List.take ((Int.toNat (↑n : Int) - (0 : Nat)) * (3 : Nat)) (subV (rowsA L) none (some (i64 (↑n : Int))) (Int.toNat (↑(0 : Nat) : Int) * (3 : Nat)) (Int.toNat (↑n : Int) * (3 : Nat)) ((Int.toNat (↑n : Int) - Int.toNat (↑(0 : Nat) : Int)) * (3 : Nat))) = List.take ((Int.toNat (↑n : Int) - (0 : Nat)) * (3 : Nat)) (List.take (Int.toNat (↑n : Int) * (3 : Nat)) (rowsA L)), (0 : Nat) + (Int.toNat (↑n : Int) - (0 : Nat)) = (0 : Nat) + (Int.toNat (↑n : Int) - (0 : Nat))]) [(4, ⟨some (i64 (↑n : Int)), none⟩), (5, ⟨some (V.vs (subV (rowsA L) none (some (i64 (↑n : Int))) (Int.toNat (↑0 : Int) * 3) (Int.toNat (↑n : Int) * 3) ((Int.toNat (↑n : Int) - Int.toNat (↑0 : Int)) * 3)) (Int.toNat (↑n : Int) - 0)), none⟩), (6, ⟨some (V.tup [V.agg true (List.take ((Int.toNat (↑n : Int) - 0) * 3) (List.take (Int.toNat (↑n : Int) * 3) (rowsA L))), V.sl 0 0 (0 + (Int.toNat (↑n : Int) - 0))]), none⟩)] [0, 2, 3] [7, 2, 3] (by kernel_rfl) ⟨(in_eq wf), (by omega), rfl, (by (simp [subV]; omega)), (by omega), (by omega), (by omega), (by first | rfl | (show u8s ([]) ++ _ = _; simp only [u8s_drop, u8s_take, List.drop_zero, Nat.mul_one, Nat.one_mul, u8s_app, List.take_length, List.nil_append, List.append_nil]; done) | (simp [u8s]; done) | (simp [u8s]; omega)), (by omega), trivial⟩ ?_
  refine xe0 [0, 2, 3, 4] [2, 3, 4, 7] (by kernel_rfl) ?_
  refine AWP.seq ?_
  refine xe0 [0, 2, 3, 4, 14, 15, 16] [2, 3, 4, 7] (by kernel_rfl) ?_
  refine AWP.block ?_
  simp only [Int.toNat_natCast, Nat.sub_zero, Nat.zero_add, htk, htk2]
  refine AWP.loopI [16, 15, 14, 4, 0, 2, 3] [2, 3, 4, 7] (fun N s' => ∃ (i : Int) (q : Nat) (Z : List Al), s' = St.mk [(0, T.plain (V.sl 7 0 n)), (2, T.plain (V.sl 2 0 0)), (3, T.plain (V.sl 3 0 0)), (4, T.plain (V.sl 4 0 q)), (14, T.plain (V.sl 7 0 n)), (15, T.plain (i64 (n : Int))), (16, T.plain (i64 i))] [(2, Blk.mk [] true 0 (some (29, 3))), (3, Blk.mk [] true 0 (some (47, 3))), (4, Blk.mk (rowsA Z) true 0 (some (47, 3))), (7, Blk.mk (rowsA R) true 0 (some (29, 3)))] ∧ Z = R.take i.toNat ∧ q = Z.length ∧ 0 ≤ i ∧ i ≤ n ∧ (N : Int) = n - i) n (s0 := St.mk [(0, T.plain (V.sl 7 0 n)), (2, T.plain (V.sl 2 0 0)), (3, T.plain (V.sl 3 0 0)), (4, T.plain (V.sl 4 0 0)), (14, T.plain (V.sl 7 0 n)), (15, T.plain (i64 (n : Int))), (16, T.plain (i64 0))] [(2, Blk.mk [] true 0 (some (29, 3))), (3, Blk.mk [] true 0 (some (47, 3))), (4, Blk.mk [] true 0 (some (47, 3))), (7, Blk.mk (rowsA R) true 0 (some (29, 3)))]) (by kernel_rfl) ?_ ?_
  · exact ⟨0, 0, [], rfl, rfl, rfl, by omega, by omega, by omega⟩
  rintro N s' ⟨i, q, Z, rfl, hZ, hq, hi0, hin, hN⟩
  by_cases hlt : i < n
  · obtain ⟨a, ha⟩ : ∃ a, R[i.toNat]? = some a := ⟨_, List.getElem?_eq_getElem (by omega)⟩
    have wr := rowsA_at ha
    have e1 : (i + 1).toNat = i.toNat + 1 := by omega
    have hq2 : q ≤ 20 := by rw [hq, hZ, List.length_take]; omega
    have hzl := rowsA_len Z
    have hap : rowsA (Z ++ [a]) = rowsA Z ++ [u8 a.lv, i64 a.un, u8 a.ev] := by rw [rowsA_app]; rfl
    have hZ2 : Z ++ [a] = R.take (i + 1).toNat := by rw [e1, List.take_add_one, ha, ← hZ]; rfl
    refine AWP.seq ?_
    refine AWP.regionT tcok hmix [] [0, 2, 3, 4, 14, 15, 16, 17] [2, 3, 4, 7] (os := []) (s' := St.mk [(0, tp (V.sl 7 0 n)), (2, tp (V.sl 2 0 0)), (3, tp (V.sl 3 0 0)), (4, tp (V.sl 4 0 q)), (14, tp (V.sl 7 0 n)), (15, tp (i64 (↑n : Int))), (16, tp (i64 i)), (17, tp (vb (decide (i < (↑n : Int)))))] [(2, Blk.mk [] true 0 (some (29, 3))), (3, Blk.mk [] true 0 (some (47, 3))), (4, Blk.mk (rowsA Z) true 0 (some (47, 3))), (7, Blk.mk (rowsA R) true 0 (some (29, 3)))]) (by kernel_rfl) trivial ?_
    refine AWP.seq ?_
    refine AWP.cond (b := decide (i < (↑n : Int))) (by kernel_rfl) (fun hq5 => ?_) (fun hq5 => ?_)
    · simp only [decide_eq_true_eq] at hq5
      refine AWP.skip ?_
      refine AWP.seq ?_
      refine AWP.block ?_
      refine AWP.seq ?_
      refine AWP.regionT tcok hmix [(0, ⟨some (V.ptr 7 (0 + Int.toNat i * 3)), none⟩), (1, ⟨some (V.agg true (Al.row a)), none⟩)] [0, 2, 3, 4, 6, 14, 15, 16] [7, 2, 3, 4, 6] (os := [(0 : Int) ≤ i ∧ i < (↑n : Int), V.ptr 7 (0 + Int.toNat i * 3) = V.ptr 7 (0 + Int.toNat i * 3), (0 : Nat) + Int.toNat i * (3 : Nat) + (3 : Nat) ≤ List.length (rowsA R), V.agg true (List.take 3 (List.drop (0 + Int.toNat i * 3) (rowsA R))) = V.agg true [u8 a.lv, i64 a.un, u8 a.ev]]) (s' := St.mk [(0, tp (V.sl 7 0 n)), (2, tp (V.sl 2 0 0)), (3, tp (V.sl 3 0 0)), (4, tp (V.sl 4 0 q)), (6, tp (V.ptr 6 0)), (14, tp (V.sl 7 0 n)), (15, tp (i64 (↑n : Int))), (16, tp (i64 i))] [(2, Blk.mk [] true 0 (some (29, 3))), (3, Blk.mk [] true 0 (some (47, 3))), (4, Blk.mk (rowsA Z) true 0 (some (47, 3))), (6, Blk.mk [u8 a.lv, i64 a.un, u8 a.ev] true 3 none), (7, Blk.mk (rowsA R) true 0 (some (29, 3)))]) (by kernel_rfl) ⟨(by omega), rfl, (by first | omega | (simp [len_u8s]; done) | (simp [len_u8s]; omega)), (congrArg (V.agg true) (wr )), trivial⟩ ?_
      refine AWP.region tcok hmix [(3, ⟨some (V.tup [V.agg true (rowsA Z ++ [u8 a.lv, i64 a.un, u8 a.ev]), V.sl 0 0 (q + 1)]), none⟩)] (os := [(3 : Nat) ≤ (3 : Nat), q * (3 : Nat) = List.length (rowsA Z), q + (1 : Nat) ≤ (9223372036854775807 : Nat), (q + (1 : Nat)) * (24 : Nat) ≤ (140737488355328 : Nat), rowsA Z ++ List.take ((1 : Nat) * (3 : Nat)) (List.drop (0 : Nat) [u8 a.lv, i64 a.un, u8 a.ev]) = rowsA Z ++ [u8 a.lv, i64 a.un, u8 a.ev], q + (1 : Nat) = q + (1 : Nat)]) (sf := St.mk [(0, tp (V.sl 7 0 n)), (2, tp (V.sl 2 0 0)), (3, tp (V.sl 3 0 0)), (4, tp (V.sl 4 0 (q + 1))), (6, tp (V.ptr 6 0)), (14, tp (V.sl 7 0 n)), (15, tp (i64 (↑n : Int))), (16, tp (i64 i)), (20, tp V.top), (21, tp (V.agg true [u8 a.lv, i64 a.un, u8 a.ev])), (22, tp (V.sl 22 0 1)), (23, tp (V.sl 4 0 (q + 1)))] [(2, Blk.mk [] true 0 (some (29, 3))), (3, Blk.mk [] true 0 (some (47, 3))), (4, Blk.mk (rowsA Z ++ [u8 a.lv, i64 a.un, u8 a.ev]) true 0 (some (47, 3))), (6, Blk.mk [u8 a.lv, i64 a.un, u8 a.ev] true 3 none), (7, Blk.mk (rowsA R) true 0 (some (29, 3))), (22, Blk.mk [u8 a.lv, i64 a.un, u8 a.ev] true 0 (some (47, 3)))]) (by kernel_rfl) ⟨(by omega), (by first | omega | (simp [len_u8s]; done) | (simp [len_u8s]; omega)), (by omega), (by omega), (by first | rfl | (simp only [u8s_drop, u8s_take, List.drop_zero, Nat.mul_one, Nat.one_mul, u8s_app, List.take_length, List.nil_append, List.append_nil]; done) | (simp [u8s]; done) | (simp [u8s]; omega)), (by omega), trivial⟩ ?_
      refine AWP.keep' [0, 2, 3, 4, 14, 15, 16] [7, 2, 3, 4] (sf := St.mk [(0, tp (V.sl 7 0 n)), (2, tp (V.sl 2 0 0)), (3, tp (V.sl 3 0 0)), (4, tp (V.sl 4 0 (q + 1))), (14, tp (V.sl 7 0 n)), (15, tp (i64 (↑n : Int))), (16, tp (i64 i))] [(2, Blk.mk [] true 0 (some (29, 3))), (3, Blk.mk [] true 0 (some (47, 3))), (4, Blk.mk (rowsA Z ++ [u8 a.lv, i64 a.un, u8 a.ev]) true 0 (some (47, 3))), (7, Blk.mk (rowsA R) true 0 (some (29, 3)))]) (by kernel_rfl) ?_
      refine AWP.region tcok hmix [(0, ⟨some (i64 (i + 1)), none⟩)] (os := [i64 (IntKind.wrap IntKind.i64 (i + 1)) = i64 (i + 1)]) (sf := St.mk [(0, tp (V.sl 7 0 n)), (2, tp (V.sl 2 0 0)), (3, tp (V.sl 3 0 0)), (4, tp (V.sl 4 0 (q + 1))), (14, tp (V.sl 7 0 n)), (15, tp (i64 (↑n : Int))), (16, tp (i64 (i + 1))), (24, tp (i64 (i + 1)))] [(2, Blk.mk [] true 0 (some (29, 3))), (3, Blk.mk [] true 0 (some (47, 3))), (4, Blk.mk (rowsA Z ++ [u8 a.lv, i64 a.un, u8 a.ev]) true 0 (some (47, 3))), (7, Blk.mk (rowsA R) true 0 (some (29, 3)))]) (by kernel_rfl) ⟨(wr_i64 (by omega) (by omega)), trivial⟩ ?_
      refine ⟨St.mk [(0, tp (V.sl 7 0 n)), (2, tp (V.sl 2 0 0)), (3, tp (V.sl 3 0 0)), (4, tp (V.sl 4 0 (q + 1))), (14, tp (V.sl 7 0 n)), (15, tp (i64 (↑n : Int))), (16, tp (i64 (i + 1)))] [(2, Blk.mk [] true 0 (some (29, 3))), (3, Blk.mk [] true 0 (some (47, 3))), (4, Blk.mk (rowsA Z ++ [u8 a.lv, i64 a.un, u8 a.ev]) true 0 (some (47, 3))), (7, Blk.mk (rowsA R) true 0 (some (29, 3)))], by kernel_rfl, ?_⟩
      first | (exact ⟨(n - (i + 1)).toNat, (by omega), i + 1, q + 1, Z ++ [a], (by rw [hap]), hZ2, (by rw [List.length_append, hq]; rfl), (by omega), (by omega), (by omega)⟩) | (exfalso; omega)
    simp only [decide_eq_false_iff_not] at hq5
    (exfalso; omega)
  have hie : i = n := by omega
  subst hie
  rw [Int.toNat_natCast, ← hn, List.take_length] at hZ
  subst hZ
  obtain rfl : q = n := by omega
  refine AWP.seq ?_
  refine AWP.regionT tcok hmix [] [0, 2, 3, 4, 14, 15, 16, 17] [2, 3, 4, 7] (os := []) (s' := St.mk [(0, tp (V.sl 7 0 q)), (2, tp (V.sl 2 0 0)), (3, tp (V.sl 3 0 0)), (4, tp (V.sl 4 0 q)), (14, tp (V.sl 7 0 q)), (15, tp (i64 (↑q : Int))), (16, tp (i64 (↑q : Int))), (17, tp (vb (decide ((↑q : Int) < (↑q : Int)))))] [(2, Blk.mk [] true 0 (some (29, 3))), (3, Blk.mk [] true 0 (some (47, 3))), (4, Blk.mk (rowsA Z) true 0 (some (47, 3))), (7, Blk.mk (rowsA Z) true 0 (some (29, 3)))]) (by kernel_rfl) trivial ?_
  refine AWP.seq ?_
  refine AWP.cond (b := decide ((↑q : Int) < (↑q : Int))) (by kernel_rfl) (fun hq6 => ?_) (fun hq6 => ?_)
  · simp only [decide_eq_true_eq] at hq6
    (exfalso; omega)
  simp only [decide_eq_false_iff_not] at hq6
  refine AWP.exit ?_
  refine AWP.seq ?_
  refine AWP.keep' [0, 4] [7, 4] (sf := St.mk [(0, tp (V.sl 7 0 q)), (4, tp (V.sl 4 0 q))] [(4, Blk.mk (rowsA Z) true 0 (some (47, 3))), (7, Blk.mk (rowsA Z) true 0 (some (29, 3)))]) (by kernel_rfl) ?_
  refine AWP.regionT tcok hmix [] [2, 3] [7, 4] (os := []) (s' := St.mk [(2, tp (V.sl 7 0 q)), (3, tp (V.sl 4 0 q))] [(4, Blk.mk (rowsA Z) true 0 (some (47, 3))), (7, Blk.mk (rowsA Z) true 0 (some (29, 3)))]) (by kernel_rfl) trivial ?_
  refine AWP.ret ?_
  refine ⟨Or.inr rfl, Eq.trans (b := some ([(4, Blk.mk (rowsA Z) true 0 (some (47, 3))), (7, Blk.mk (rowsA Z) true 0 (some (29, 3)))], V.tup [V.sl 7 0 q, V.sl 4 0 q])) (by kernel_rfl) ?_⟩
  first | rfl | (exfalso; omega)
end Go.Proofs.YtklbonfbiakebaaDoor
