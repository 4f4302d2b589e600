/- The one that is picked; the document's answers. -/
import Derived.Test.YtklbonfbiakebaaDoorRg
import Derived.Test.YtklbonfbiakebaaDoorFdiT
namespace Go.Proofs.YtklbonfbiakebaaDoor
open Go.Ab
set_option maxRecDepth 100000
set_option maxHeartbeats 8000000
set_option linter.unusedSimpArgs false
set_option linter.unusedVariables false
theorem con_orderF (R : List Al) (n : Nat) (hn : R.length = n) (hm : n ≤ 20) (hR : ∀ a ∈ R, 0 ≤ a.lv) (K : List Al) (hK : ordA R = K) (k : Nat) (hk : K.length = k) : Con Tryd.prog 36 [] [.vs (rowsA R) n] [] (.vs (rowsA K) k) := by
  by_cases h0 : n = 0
  · subst h0
    have hr : R = [] := List.length_eq_zero_iff.1 hn
    subst hr
    have : K = [] := by rw [← hK]; exact byLev_nil levA 5
    subst this
    subst hk
    exact con_order0
  · exact Con.frz1 (con_order R n hn hm (by omega) hR K hK k hk)
def pk (inh : Int) (K : List Al) : Option Al := K.find? fun a => al inh a.lv
theorem pk_at {inh : Int} {K : List Al} {i : Nat} {a : Al} (h : K[i]? = some a) : pk inh (K.drop i) = if al inh a.lv = true then some a else pk inh (K.drop (i + 1)) := by
  obtain ⟨hi, rfl⟩ := List.getElem?_eq_some_iff.1 h
  rw [List.drop_eq_getElem_cons hi]
  unfold pk
  rw [List.find?_cons]
  split <;> simp_all
theorem ordA_ok (R : List Al) (hR : ∀ a ∈ R, 0 ≤ a.lv) : ∀ a ∈ ordA R, 0 ≤ a.lv ∧ a.lv < 5 := fun a h => by
  have := byLev_mem _ _ _ h
  exact ok_lev (by simpa using (List.mem_filter.1 this).2) (hR a (List.mem_filter.1 this).1)
def pkV (o : Option Al) : V := match o with
  | some a => .tup [a.v, vb true]
  | none => .tup [.agg true [u8 0, i64 0, u8 0], vb false]
theorem con_pick (inh : Int) (hi : 0 ≤ inh ∧ inh < 256) (R : List Al) (n : Nat) (hn : R.length = n) (hm : n ≤ 20) (hR : ∀ a ∈ R, 0 ≤ a.lv) (X : Option Al) (hX : pk inh (ordA R) = X) : Con Tryd.prog 34 [] [u8 inh, .vs (rowsA R) n] [] (pkV X) := by
  have hO := ordA_ok R hR
  have c := con_orderF R n hn hm hR _ rfl _ rfl
  have hklm : (ordA R).length ≤ 20 := by
    unfold ordA
    rw [byLev_len _ _ (fun a h => by have := ok_lev (a := a) (by simpa using (List.mem_filter.1 h).2) (hR a (List.mem_filter.1 h).1); unfold levA; omega)]
    have := List.length_filter_le (fun a : Al => a.ok) R
    omega
  generalize ordA R = K at *
  generalize hk : K.length = k at *
  have hkm : k ≤ 20 := hklm
  have hkl := rowsA_len K
  refine Con.of (C := ⟨Tryd.prog, tc, Tryd.f34.ntmps⟩) [] tcok Tryd.func34 rfl rfl (by kernel_rfl) (by kernel_rfl) ?_
  refine AWP.seq ?_
  refine AWP.regionT tcok hmix [] [0, 1, 4, 5] [4] (os := []) (s' := St.mk [(0, tp (u8 inh)), (1, tp (V.vs (rowsA R) n)), (4, tp (V.ptr 4 0)), (5, tp (vb false))] [(4, Blk.mk [u8 0, i64 0, u8 0] true 3 none)]) (by kernel_rfl) trivial ?_
  refine AWP.seq ?_
  refine xe1 (os := [Con Tryd.prog 36 [] [V.vs (rowsA R) n] [] (V.vs (rowsA K) k)]) [(1, ⟨none, some ⟨V.vs (rowsA K) k, [], []⟩⟩)] [0, 4, 5, 9, 10, 11] [4] (by kernel_rfl) ⟨(c ), trivial⟩ ?_
  refine AWP.block ?_
  refine AWP.loopI [11, 10, 9, 0, 4, 5] [4] (fun N s' => ∃ (i : Int), s' = St.mk [(0, T.plain (u8 inh)), (4, T.plain (V.ptr 4 0)), (5, T.plain (vb false)), (9, T.plain (V.vs (rowsA K) k)), (10, T.plain (i64 (k : Int))), (11, T.plain (i64 i))] [(4, Blk.mk [u8 0, i64 0, u8 0] true 3 none)] ∧ pk inh (K.drop i.toNat) = X ∧ 0 ≤ i ∧ i ≤ k ∧ (N : Int) = k - i) k (s0 := St.mk [(0, T.plain (u8 inh)), (4, T.plain (V.ptr 4 0)), (5, T.plain (vb false)), (9, T.plain (V.vs (rowsA K) k)), (10, T.plain (i64 (k : Int))), (11, T.plain (i64 0))] [(4, Blk.mk [u8 0, i64 0, u8 0] true 3 none)]) (by kernel_rfl) ?_ ?_
  · exact ⟨0, rfl, hX, by omega, by omega, by omega⟩
  rintro N s' ⟨i, rfl, hp, hi0, hik, hN⟩
  by_cases hlt : i < k
  · obtain ⟨a, ha⟩ : ∃ a, K[i.toNat]? = some a := ⟨_, List.getElem?_eq_getElem (by omega)⟩
    have hd := rowsA_dr ha
    rw [pk_at ha] at hp
    have hal := hO a (List.mem_of_getElem? ha)
    have ca := con_allowed inh a.lv hi (by omega)
    have e1 : (i + 1).toNat = i.toNat + 1 := by omega
    cases hc : al inh a.lv with
    | true =>
      rw [hc, if_pos rfl] at hp
      subst hp
      rw [hc] at ca
      refine AWP.seq ?_
      refine AWP.regionT tcok hmix [] [0, 4, 5, 9, 10, 11, 12] [4] (os := []) (s' := St.mk [(0, tp (u8 inh)), (4, tp (V.ptr 4 0)), (5, tp (vb false)), (9, tp (V.vs (rowsA K) k)), (10, tp (i64 (↑k : Int))), (11, tp (i64 i)), (12, tp (vb (decide (i < (↑k : Int)))))] [(4, Blk.mk [u8 0, i64 0, u8 0] true 3 none)]) (by kernel_rfl) trivial ?_
      refine AWP.seq ?_
      refine AWP.cond (b := decide (i < (↑k : Int))) (by kernel_rfl) (fun hq0 => ?_) (fun hq0 => ?_)
      · simp only [decide_eq_true_eq] at hq0
        refine AWP.skip ?_
        refine AWP.seq ?_
        refine AWP.block ?_
        refine AWP.seq ?_
        refine AWP.regionT tcok hmix [(0, ⟨some (V.vp (u8 a.lv :: i64 a.un :: u8 a.ev :: rowsA (List.drop (Int.toNat i + 1) K))), none⟩)] [0, 4, 5, 7, 9, 10, 11] [4, 7] (os := [(0 : Int) ≤ i ∧ i < (↑k : Int), V.vp (List.drop (Int.toNat i * 3) (rowsA K)) = V.vp (u8 a.lv :: i64 a.un :: u8 a.ev :: rowsA (List.drop (Int.toNat i + 1) K))]) (s' := St.mk [(0, tp (u8 inh)), (4, tp (V.ptr 4 0)), (5, tp (vb false)), (7, tp (V.ptr 7 0)), (9, tp (V.vs (rowsA K) k)), (10, tp (i64 (↑k : Int))), (11, tp (i64 i))] [(4, Blk.mk [u8 0, i64 0, u8 0] true 3 none), (7, Blk.mk [u8 a.lv, i64 a.un, u8 a.ev] true 3 none)]) (by kernel_rfl) ⟨(by omega), (congrArg V.vp hd), trivial⟩ ?_
        refine xe1 (os := [Con Tryd.prog 40 [] [u8 inh, u8 a.lv] [] (vb true)]) [(3, ⟨none, some ⟨vb true, [], []⟩⟩)] [0, 4, 5, 7, 9, 10, 11, 18] [4, 7] (by kernel_rfl) ⟨(ca ), trivial⟩ ?_
        refine AWP.condT (by kernel_rfl) ?_
        refine xe0 [0, 4, 5, 9, 10, 11] [4] (by kernel_rfl) ?_
        refine AWP.ret ?_
        refine ⟨Or.inr rfl, Eq.trans (b := some ([], V.tup [V.agg true [u8 a.lv, i64 a.un, u8 a.ev], vb true])) (by kernel_rfl) ?_⟩
        first | rfl | (exfalso; omega)
      simp only [decide_eq_false_iff_not] at hq0
      (exfalso; omega)
    | false =>
      rw [hc, if_neg (by simp), ← e1] at hp
      rw [hc] at ca
      refine AWP.seq ?_
      refine AWP.regionT tcok hmix [] [0, 4, 5, 9, 10, 11, 12] [4] (os := []) (s' := St.mk [(0, tp (u8 inh)), (4, tp (V.ptr 4 0)), (5, tp (vb false)), (9, tp (V.vs (rowsA K) k)), (10, tp (i64 (↑k : Int))), (11, tp (i64 i)), (12, tp (vb (decide (i < (↑k : Int)))))] [(4, Blk.mk [u8 0, i64 0, u8 0] true 3 none)]) (by kernel_rfl) trivial ?_
      refine AWP.seq ?_
      refine AWP.cond (b := decide (i < (↑k : Int))) (by kernel_rfl) (fun hq2 => ?_) (fun hq2 => ?_)
      · simp only [decide_eq_true_eq] at hq2
        refine AWP.skip ?_
        refine AWP.seq ?_
        refine AWP.block ?_
        refine AWP.seq ?_
        refine AWP.regionT tcok hmix [(0, ⟨some (V.vp (u8 a.lv :: i64 a.un :: u8 a.ev :: rowsA (List.drop (Int.toNat i + 1) K))), none⟩)] [0, 4, 5, 7, 9, 10, 11] [4, 7] (os := [(0 : Int) ≤ i ∧ i < (↑k : Int), V.vp (List.drop (Int.toNat i * 3) (rowsA K)) = V.vp (u8 a.lv :: i64 a.un :: u8 a.ev :: rowsA (List.drop (Int.toNat i + 1) K))]) (s' := St.mk [(0, tp (u8 inh)), (4, tp (V.ptr 4 0)), (5, tp (vb false)), (7, tp (V.ptr 7 0)), (9, tp (V.vs (rowsA K) k)), (10, tp (i64 (↑k : Int))), (11, tp (i64 i))] [(4, Blk.mk [u8 0, i64 0, u8 0] true 3 none), (7, Blk.mk [u8 a.lv, i64 a.un, u8 a.ev] true 3 none)]) (by kernel_rfl) ⟨(by omega), (congrArg V.vp hd), trivial⟩ ?_
        refine xe1 (os := [Con Tryd.prog 40 [] [u8 inh, u8 a.lv] [] (vb false)]) [(3, ⟨none, some ⟨vb false, [], []⟩⟩)] [0, 4, 5, 7, 9, 10, 11, 18] [4, 7] (by kernel_rfl) ⟨(ca ), trivial⟩ ?_
        refine AWP.condF (by kernel_rfl) ?_
        refine AWP.skip ?_
        refine AWP.region tcok hmix [(0, ⟨some (i64 (i + 1)), none⟩)] (os := [i64 (IntKind.wrap IntKind.i64 (i + 1)) = i64 (i + 1)]) (sf := St.mk [(0, tp (u8 inh)), (4, tp (V.ptr 4 0)), (5, tp (vb false)), (7, tp (V.ptr 7 0)), (9, tp (V.vs (rowsA K) k)), (10, tp (i64 (↑k : Int))), (11, tp (i64 (i + 1))), (18, tp (vb false)), (20, tp (i64 (i + 1)))] [(4, Blk.mk [u8 0, i64 0, u8 0] true 3 none), (7, Blk.mk [u8 a.lv, i64 a.un, u8 a.ev] true 3 none)]) (by kernel_rfl) ⟨(wr_i64 (by omega) (by omega)), trivial⟩ ?_
        refine ⟨St.mk [(0, tp (u8 inh)), (4, tp (V.ptr 4 0)), (5, tp (vb false)), (9, tp (V.vs (rowsA K) k)), (10, tp (i64 (↑k : Int))), (11, tp (i64 (i + 1)))] [(4, Blk.mk [u8 0, i64 0, u8 0] true 3 none)], by kernel_rfl, ?_⟩
        first | (exact ⟨(k - (i + 1)).toNat, (by omega), i + 1, rfl, hp, (by omega), (by omega), (by omega)⟩) | (exfalso; omega)
      simp only [decide_eq_false_iff_not] at hq2
      (exfalso; omega)
  have hin : i = k := by omega
  subst hin
  rw [List.drop_eq_nil_of_le (by omega)] at hp
  subst hp
  refine AWP.seq ?_
  refine AWP.regionT tcok hmix [] [0, 4, 5, 9, 10, 11, 12] [4] (os := []) (s' := St.mk [(0, tp (u8 inh)), (4, tp (V.ptr 4 0)), (5, tp (vb false)), (9, tp (V.vs (rowsA K) k)), (10, tp (i64 (↑k : Int))), (11, tp (i64 (↑k : Int))), (12, tp (vb (decide ((↑k : Int) < (↑k : Int)))))] [(4, Blk.mk [u8 0, i64 0, u8 0] true 3 none)]) (by kernel_rfl) trivial ?_
  refine AWP.seq ?_
  refine AWP.cond (b := decide ((↑k : Int) < (↑k : Int))) (by kernel_rfl) (fun hq4 => ?_) (fun hq4 => ?_)
  · simp only [decide_eq_true_eq] at hq4
    (exfalso; omega)
  simp only [decide_eq_false_iff_not] at hq4
  refine AWP.exit ?_
  refine AWP.seq ?_
  refine AWP.regionT tcok hmix [] [4, 5] [4] (os := []) (s' := St.mk [(4, tp (V.ptr 4 0)), (5, tp (vb false))] [(4, Blk.mk [u8 0, i64 0, u8 0] true 3 none)]) (by kernel_rfl) trivial ?_
  refine AWP.ret ?_
  refine ⟨Or.inr rfl, Eq.trans (b := some ([], V.tup [V.agg true [u8 0, i64 0, u8 0], vb false])) (by kernel_rfl) ?_⟩
  first | rfl | (exfalso; omega)
/-! The document's. -/
theorem con_rorder (R : List Al) (n : Nat) (hn : R.length = n) (hm : n ≤ 20) (hR : ∀ a ∈ R, 0 ≤ a.lv) (K : List Al) (hK : ordA R = K) (k : Nat) (hk : K.length = k) : Con Tryd.prog 37 [] [.vs (rowsA R) n] [(3, ⟨rowsA K, true, 0, some (47, 3)⟩)] (.sl 3 0 k) := by
  have hrl := rowsA_len R
  have hklm : K.length ≤ 20 := by
    rw [← hK]
    unfold ordA
    rw [byLev_len _ _ (fun a h => by have := ok_lev (a := a) (by simpa using (List.mem_filter.1 h).2) (hR a (List.mem_filter.1 h).1); unfold levA; omega)]
    have := List.length_filter_le (fun a : Al => a.ok) R
    omega
  refine Con.of (C := ⟨Tryd.prog, tc, Tryd.f37.ntmps⟩) [3] tcok Tryd.func37 rfl rfl (by kernel_rfl) (by kernel_rfl) ?_
  refine AWP.seq ?_
  refine AWP.regionT tcok hmix [] [0, 2] [2] (os := []) (s' := St.mk [(0, tp (V.vs (rowsA R) n)), (2, tp (V.sl 2 0 0))] [(2, Blk.mk [] true 0 (some (47, 3)))]) (by kernel_rfl) trivial ?_
  refine xe0 [0, 2, 3] [2, 3] (by kernel_rfl) ?_
  refine AWP.seq ?_
  refine xe0 [0, 2, 3, 4] [2, 3] (by kernel_rfl) ?_
  refine AWP.block ?_
  refine AWP.loopI [4, 0, 3, 2] [2, 3] (fun N s' => ∃ (m : Int) (O : List Al) (q : Nat), s' = St.mk [(0, T.plain (V.vs (rowsA R) n)), (2, T.plain (V.sl 2 0 0)), (3, T.plain (V.sl 3 0 q)), (4, T.plain (i64 m))] [(2, Blk.mk [] true 0 (some (47, 3))), (3, Blk.mk (rowsA O) true 0 (some (47, 3)))] ∧ O ++ byLev levA (R.filter fun a => a.ok) (m + 1).toNat = K ∧ O.length = q ∧ -1 ≤ m ∧ m ≤ 4 ∧ (N : Int) = m + 1) 5 (s0 := St.mk [(0, T.plain (V.vs (rowsA R) n)), (2, T.plain (V.sl 2 0 0)), (3, T.plain (V.sl 3 0 0)), (4, T.plain (i64 4))] [(2, Blk.mk [] true 0 (some (47, 3))), (3, Blk.mk [] true 0 (some (47, 3)))]) (by kernel_rfl) ?_ ?_
  · exact ⟨4, [], 0, rfl, hK, rfl, by omega, by omega, by omega⟩
  rintro N s' ⟨m, O, q, rfl, hO, hq, hm0, hm1, hN⟩
  by_cases hlt : 0 ≤ m
  · have hb : byLev levA (R.filter fun a => a.ok) (m + 1).toNat = (R.filter fun a => a.ok && levA a == m.toNat) ++ byLev levA (R.filter fun a => a.ok) (m - 1 + 1).toNat := by
      rw [show (m + 1).toNat = m.toNat + 1 by omega, show (m - 1 + 1).toNat = m.toNat by omega, byLev, List.filter_filter]
      congr 1
      apply List.filter_congr
      intro a _
      rw [Bool.and_comm]
    rw [hb, ← List.append_assoc] at hO
    have hOl : O.length + (R.filter fun a => a.ok && levA a == m.toNat).length ≤ 20 := by
      have := congrArg List.length hO
      simp only [List.length_append] at this
      omega
    refine AWP.seq ?_
    refine AWP.seq ?_
    refine AWP.regionT tcok hmix [] [0, 2, 3, 4, 8] [2, 3] (os := []) (s' := St.mk [(0, tp (V.vs (rowsA R) n)), (2, tp (V.sl 2 0 0)), (3, tp (V.sl 3 0 q)), (4, tp (i64 m)), (8, tp (vb (decide (m ≥ 0))))] [(2, Blk.mk [] true 0 (some (47, 3))), (3, Blk.mk (rowsA O) true 0 (some (47, 3)))]) (by kernel_rfl) trivial ?_
    refine AWP.cond (b := decide (m ≥ 0)) (by kernel_rfl) (fun hq5 => ?_) (fun hq5 => ?_)
    rotate_left
    · simp only [decide_eq_false_iff_not] at hq5
      (exfalso; omega)
    simp only [decide_eq_true_eq] at hq5
    refine AWP.skip ?_
    refine AWP.seq ?_
    refine AWP.block ?_
    refine AWP.seq ?_
    refine AWP.regionT tcok hmix [] [0, 2, 3, 4, 11, 12, 13] [2, 3] (os := []) (s' := St.mk [(0, tp (V.vs (rowsA R) n)), (2, tp (V.sl 2 0 0)), (3, tp (V.sl 3 0 q)), (4, tp (i64 m)), (11, tp (V.vs (rowsA R) n)), (12, tp (i64 (↑n : Int))), (13, tp (i64 0))] [(2, Blk.mk [] true 0 (some (47, 3))), (3, Blk.mk (rowsA O) true 0 (some (47, 3)))]) (by kernel_rfl) trivial ?_
    refine AWP.block ?_
    refine AWP.loopI [13, 12, 11, 4, 3, 0, 2] [2, 3] (fun N s' => ∃ (p : Int) (Z : List Al) (z : Nat), s' = St.mk [(0, T.plain (V.vs (rowsA R) n)), (2, T.plain (V.sl 2 0 0)), (3, T.plain (V.sl 3 0 z)), (4, T.plain (i64 m)), (11, T.plain (V.vs (rowsA R) n)), (12, T.plain (i64 (n : Int))), (13, T.plain (i64 p))] [(2, Blk.mk [] true 0 (some (47, 3))), (3, Blk.mk (rowsA Z) true 0 (some (47, 3)))] ∧ Z = O ++ (R.take p.toNat).filter (fun a => a.ok && levA a == m.toNat) ∧ Z.length = z ∧ 0 ≤ p ∧ p ≤ n ∧ (N : Int) = n - p) n (s0 := St.mk [(0, T.plain (V.vs (rowsA R) n)), (2, T.plain (V.sl 2 0 0)), (3, T.plain (V.sl 3 0 q)), (4, T.plain (i64 m)), (11, T.plain (V.vs (rowsA R) n)), (12, T.plain (i64 (n : Int))), (13, T.plain (i64 0))] [(2, Blk.mk [] true 0 (some (47, 3))), (3, Blk.mk (rowsA O) true 0 (some (47, 3)))]) (by kernel_rfl) ?_ ?_
    · exact ⟨0, O, q, rfl, by simp, hq, by omega, by omega, by omega⟩
    rintro M s' ⟨p, Z, z, rfl, hZ, hz, hp0, hpn, hM⟩
    by_cases hlp : p < n
    · obtain ⟨a, ha⟩ : ∃ a, R[p.toNat]? = some a := ⟨_, List.getElem?_eq_getElem (by omega)⟩
      have hd := rowsA_dr ha
      have har := hR a (List.mem_of_getElem? ha)
      have cr := con_rright a.lv a.un a.ev
      have e1 : (p + 1).toNat = p.toNat + 1 := by omega
      have hzl := rowsA_len Z
      have hle : ((R.take p.toNat).filter (fun a => a.ok && levA a == m.toNat)).length ≤ (R.filter fun a => a.ok && levA a == m.toNat).length := ((List.take_sublist _ _).filter _).length_le
      have hz2 : z ≤ 20 := by rw [← hz, hZ, List.length_append]; omega
      have htk : (R.take (p + 1).toNat).filter (fun a => a.ok && levA a == m.toNat) = (R.take p.toNat).filter (fun a => a.ok && levA a == m.toNat) ++ (if (a.ok && levA a == m.toNat) = true then [a] else []) := by
        rw [e1, List.take_add_one, ha, List.filter_append]
        simp [List.filter_cons]
      cases hok : a.ok with
      | true =>
        have hok2 := ok_lev hok har
        unfold Al.ok at hok
        rw [hok] at cr
        by_cases hlv : a.lv = m
        · have : (levA a == m.toNat) = true := by unfold levA; simp; omega
          unfold Al.ok at htk
          rw [this, hok] at htk
          have hap : rowsA (Z ++ [a]) = rowsA Z ++ [u8 a.lv, i64 a.un, u8 a.ev] := by rw [rowsA_app]; rfl
          refine AWP.seq ?_
          refine AWP.regionT tcok hmix [] [0, 2, 3, 4, 11, 12, 13, 14] [2, 3] (os := []) (s' := St.mk [(0, tp (V.vs (rowsA R) n)), (2, tp (V.sl 2 0 0)), (3, tp (V.sl 3 0 z)), (4, tp (i64 m)), (11, tp (V.vs (rowsA R) n)), (12, tp (i64 (↑n : Int))), (13, tp (i64 p)), (14, tp (vb (decide (p < (↑n : Int)))))] [(2, Blk.mk [] true 0 (some (47, 3))), (3, Blk.mk (rowsA Z) true 0 (some (47, 3)))]) (by kernel_rfl) trivial ?_
          refine AWP.seq ?_
          refine AWP.cond (b := decide (p < (↑n : Int))) (by kernel_rfl) (fun hq6 => ?_) (fun hq6 => ?_)
          · simp only [decide_eq_true_eq] at hq6
            refine AWP.skip ?_
            refine AWP.seq ?_
            refine AWP.block ?_
            refine AWP.seq ?_
            refine AWP.regionT tcok hmix [(0, ⟨some (V.vp (u8 a.lv :: i64 a.un :: u8 a.ev :: rowsA (List.drop (Int.toNat p + 1) R))), none⟩)] [0, 2, 3, 4, 6, 11, 12, 13] [2, 3, 6] (os := [(0 : Int) ≤ p ∧ p < (↑n : Int), V.vp (List.drop (Int.toNat p * 3) (rowsA R)) = V.vp (u8 a.lv :: i64 a.un :: u8 a.ev :: rowsA (List.drop (Int.toNat p + 1) R))]) (s' := St.mk [(0, tp (V.vs (rowsA R) n)), (2, tp (V.sl 2 0 0)), (3, tp (V.sl 3 0 z)), (4, tp (i64 m)), (6, tp (V.ptr 6 0)), (11, tp (V.vs (rowsA R) n)), (12, tp (i64 (↑n : Int))), (13, tp (i64 p))] [(2, Blk.mk [] true 0 (some (47, 3))), (3, Blk.mk (rowsA Z) true 0 (some (47, 3))), (6, Blk.mk [u8 a.lv, i64 a.un, u8 a.ev] true 3 none)]) (by kernel_rfl) ⟨(by omega), (congrArg V.vp hd), trivial⟩ ?_
            refine xe1 (os := [Con Tryd.prog 39 [] [V.agg true [u8 a.lv, i64 a.un, u8 a.ev]] [] (vb true), true = true → i64 (IntKind.wrap IntKind.i64 a.lv) = i64 a.lv ∧ True]) [(1, ⟨none, some ⟨vb true, [], []⟩⟩), (5, ⟨some (i64 a.lv), none⟩)] [0, 2, 3, 4, 6, 11, 12, 13, 25] [2, 3, 6] (by kernel_rfl) ⟨(cr ), (by intro hc0; first | (cases hc0; done) | ((try simp only [Bool.or_false, Bool.false_or, Bool.true_and, Bool.and_true, decide_eq_true_eq, decide_eq_false_iff_not, Bool.and_eq_true, Bool.or_eq_true, Bool.or_eq_false_iff, Bool.not_eq_true', Bool.and_eq_false_iff, beq_iff_eq, bne_iff_ne, bne_eq_false_iff_eq, beq_eq_false_iff_ne, Bool.not_eq_false'] at hc0); exact ⟨(wr_i64 (by omega) (by omega)), trivial⟩)), trivial⟩ ?_
            refine AWP.cond (b := true && a.lv == m) (by kernel_rfl) (fun hq7 => ?_) (fun hq7 => ?_)
            · simp only [Bool.true_and, beq_iff_eq] at hq7
              refine AWP.region tcok hmix [(3, ⟨some (V.tup [V.agg true (rowsA Z ++ [u8 a.lv, i64 a.un, u8 a.ev]), V.sl 0 0 (z + 1)]), none⟩)] (os := [(3 : Nat) ≤ (3 : Nat), z * (3 : Nat) = List.length (rowsA Z), z + (1 : Nat) ≤ (9223372036854775807 : Nat), (z + (1 : Nat)) * (24 : Nat) ≤ (140737488355328 : Nat), rowsA Z ++ List.take ((1 : Nat) * (3 : Nat)) (List.drop (0 : Nat) [u8 a.lv, i64 a.un, u8 a.ev]) = rowsA Z ++ [u8 a.lv, i64 a.un, u8 a.ev], z + (1 : Nat) = z + (1 : Nat)]) (sf := St.mk [(0, tp (V.vs (rowsA R) n)), (2, tp (V.sl 2 0 0)), (3, tp (V.sl 3 0 (z + 1))), (4, tp (i64 m)), (6, tp (V.ptr 6 0)), (11, tp (V.vs (rowsA R) n)), (12, tp (i64 (↑n : Int))), (13, tp (i64 p)), (25, tp (vb (true && a.lv == m))), (26, tp V.top), (27, tp (V.agg true [u8 a.lv, i64 a.un, u8 a.ev])), (28, tp (V.sl 28 0 1)), (29, tp (V.sl 3 0 (z + 1)))] [(2, Blk.mk [] true 0 (some (47, 3))), (3, Blk.mk (rowsA Z ++ [u8 a.lv, i64 a.un, u8 a.ev]) true 0 (some (47, 3))), (6, Blk.mk [u8 a.lv, i64 a.un, u8 a.ev] true 3 none), (28, Blk.mk [u8 a.lv, i64 a.un, u8 a.ev] true 0 (some (47, 3)))]) (by kernel_rfl) ⟨(by omega), (by first | omega | (simp [len_u8s]; done) | (simp [len_u8s]; omega)), (by omega), (by omega), (by first | rfl | (simp only [u8s_drop, u8s_take, List.drop_zero, Nat.mul_one, Nat.one_mul, u8s_app, List.take_length, List.nil_append, List.append_nil]; done) | (simp [u8s]; done) | (simp [u8s]; omega)), (by omega), trivial⟩ ?_
              refine AWP.keep' [0, 2, 3, 4, 11, 12, 13] [2, 3] (sf := St.mk [(0, tp (V.vs (rowsA R) n)), (2, tp (V.sl 2 0 0)), (3, tp (V.sl 3 0 (z + 1))), (4, tp (i64 m)), (11, tp (V.vs (rowsA R) n)), (12, tp (i64 (↑n : Int))), (13, tp (i64 p))] [(2, Blk.mk [] true 0 (some (47, 3))), (3, Blk.mk (rowsA Z ++ [u8 a.lv, i64 a.un, u8 a.ev]) true 0 (some (47, 3)))]) (by kernel_rfl) ?_
              refine AWP.region tcok hmix [(0, ⟨some (i64 (p + 1)), none⟩)] (os := [i64 (IntKind.wrap IntKind.i64 (p + 1)) = i64 (p + 1)]) (sf := St.mk [(0, tp (V.vs (rowsA R) n)), (2, tp (V.sl 2 0 0)), (3, tp (V.sl 3 0 (z + 1))), (4, tp (i64 m)), (11, tp (V.vs (rowsA R) n)), (12, tp (i64 (↑n : Int))), (13, tp (i64 (p + 1))), (30, tp (i64 (p + 1)))] [(2, Blk.mk [] true 0 (some (47, 3))), (3, Blk.mk (rowsA Z ++ [u8 a.lv, i64 a.un, u8 a.ev]) true 0 (some (47, 3)))]) (by kernel_rfl) ⟨(wr_i64 (by omega) (by omega)), trivial⟩ ?_
              refine ⟨St.mk [(0, tp (V.vs (rowsA R) n)), (2, tp (V.sl 2 0 0)), (3, tp (V.sl 3 0 (z + 1))), (4, tp (i64 m)), (11, tp (V.vs (rowsA R) n)), (12, tp (i64 (↑n : Int))), (13, tp (i64 (p + 1)))] [(2, Blk.mk [] true 0 (some (47, 3))), (3, Blk.mk (rowsA Z ++ [u8 a.lv, i64 a.un, u8 a.ev]) true 0 (some (47, 3)))], by kernel_rfl, ?_⟩
              first | (exact ⟨(n - (p + 1)).toNat, (by omega), p + 1, Z ++ [a], z + 1, (by rw [hap]), (by rw [hZ, List.append_assoc]; unfold Al.ok; rw [htk]; first | done | rfl | simp), (by rw [List.length_append, hz]; rfl), (by omega), (by omega), (by omega)⟩) | (exfalso; simp at hq7; omega)
            simp only [Bool.true_and, beq_eq_false_iff_ne] at hq7
            (exfalso; omega)
          simp only [decide_eq_false_iff_not] at hq6
          (exfalso; omega)
        · have : (levA a == m.toNat) = false := by unfold levA; simp; omega
          unfold Al.ok at htk
          rw [this, hok] at htk
          refine AWP.seq ?_
          refine AWP.regionT tcok hmix [] [0, 2, 3, 4, 11, 12, 13, 14] [2, 3] (os := []) (s' := St.mk [(0, tp (V.vs (rowsA R) n)), (2, tp (V.sl 2 0 0)), (3, tp (V.sl 3 0 z)), (4, tp (i64 m)), (11, tp (V.vs (rowsA R) n)), (12, tp (i64 (↑n : Int))), (13, tp (i64 p)), (14, tp (vb (decide (p < (↑n : Int)))))] [(2, Blk.mk [] true 0 (some (47, 3))), (3, Blk.mk (rowsA Z) true 0 (some (47, 3)))]) (by kernel_rfl) trivial ?_
          refine AWP.seq ?_
          refine AWP.cond (b := decide (p < (↑n : Int))) (by kernel_rfl) (fun hq8 => ?_) (fun hq8 => ?_)
          · simp only [decide_eq_true_eq] at hq8
            refine AWP.skip ?_
            refine AWP.seq ?_
            refine AWP.block ?_
            refine AWP.seq ?_
            refine AWP.regionT tcok hmix [(0, ⟨some (V.vp (u8 a.lv :: i64 a.un :: u8 a.ev :: rowsA (List.drop (Int.toNat p + 1) R))), none⟩)] [0, 2, 3, 4, 6, 11, 12, 13] [2, 3, 6] (os := [(0 : Int) ≤ p ∧ p < (↑n : Int), V.vp (List.drop (Int.toNat p * 3) (rowsA R)) = V.vp (u8 a.lv :: i64 a.un :: u8 a.ev :: rowsA (List.drop (Int.toNat p + 1) R))]) (s' := St.mk [(0, tp (V.vs (rowsA R) n)), (2, tp (V.sl 2 0 0)), (3, tp (V.sl 3 0 z)), (4, tp (i64 m)), (6, tp (V.ptr 6 0)), (11, tp (V.vs (rowsA R) n)), (12, tp (i64 (↑n : Int))), (13, tp (i64 p))] [(2, Blk.mk [] true 0 (some (47, 3))), (3, Blk.mk (rowsA Z) true 0 (some (47, 3))), (6, Blk.mk [u8 a.lv, i64 a.un, u8 a.ev] true 3 none)]) (by kernel_rfl) ⟨(by omega), (congrArg V.vp hd), trivial⟩ ?_
            refine xe1 (os := [Con Tryd.prog 39 [] [V.agg true [u8 a.lv, i64 a.un, u8 a.ev]] [] (vb true), true = true → i64 (IntKind.wrap IntKind.i64 a.lv) = i64 a.lv ∧ True]) [(1, ⟨none, some ⟨vb true, [], []⟩⟩), (5, ⟨some (i64 a.lv), none⟩)] [0, 2, 3, 4, 6, 11, 12, 13, 25] [2, 3, 6] (by kernel_rfl) ⟨(cr ), (by intro hc0; first | (cases hc0; done) | ((try simp only [Bool.or_false, Bool.false_or, Bool.true_and, Bool.and_true, decide_eq_true_eq, decide_eq_false_iff_not, Bool.and_eq_true, Bool.or_eq_true, Bool.or_eq_false_iff, Bool.not_eq_true', Bool.and_eq_false_iff, beq_iff_eq, bne_iff_ne, bne_eq_false_iff_eq, beq_eq_false_iff_ne, Bool.not_eq_false'] at hc0); exact ⟨(wr_i64 (by omega) (by omega)), trivial⟩)), trivial⟩ ?_
            refine AWP.cond (b := true && a.lv == m) (by kernel_rfl) (fun hq9 => ?_) (fun hq9 => ?_)
            · simp only [Bool.true_and, beq_iff_eq] at hq9
              (exfalso; omega)
            simp only [Bool.true_and, beq_eq_false_iff_ne] at hq9
            refine AWP.skip ?_
            refine AWP.region tcok hmix [(0, ⟨some (i64 (p + 1)), none⟩)] (os := [i64 (IntKind.wrap IntKind.i64 (p + 1)) = i64 (p + 1)]) (sf := St.mk [(0, tp (V.vs (rowsA R) n)), (2, tp (V.sl 2 0 0)), (3, tp (V.sl 3 0 z)), (4, tp (i64 m)), (6, tp (V.ptr 6 0)), (11, tp (V.vs (rowsA R) n)), (12, tp (i64 (↑n : Int))), (13, tp (i64 (p + 1))), (25, tp (vb (true && a.lv == m))), (30, tp (i64 (p + 1)))] [(2, Blk.mk [] true 0 (some (47, 3))), (3, Blk.mk (rowsA Z) true 0 (some (47, 3))), (6, Blk.mk [u8 a.lv, i64 a.un, u8 a.ev] true 3 none)]) (by kernel_rfl) ⟨(wr_i64 (by omega) (by omega)), trivial⟩ ?_
            refine ⟨St.mk [(0, tp (V.vs (rowsA R) n)), (2, tp (V.sl 2 0 0)), (3, tp (V.sl 3 0 z)), (4, tp (i64 m)), (11, tp (V.vs (rowsA R) n)), (12, tp (i64 (↑n : Int))), (13, tp (i64 (p + 1)))] [(2, Blk.mk [] true 0 (some (47, 3))), (3, Blk.mk (rowsA Z) true 0 (some (47, 3)))], by kernel_rfl, ?_⟩
            first | (exact ⟨(n - (p + 1)).toNat, (by omega), p + 1, Z, z, rfl, (by rw [hZ]; unfold Al.ok; rw [htk]; simp), hz, (by omega), (by omega), (by omega)⟩) | (exfalso; simp at hq9; omega)
          simp only [decide_eq_false_iff_not] at hq8
          (exfalso; omega)
      | false =>
        unfold Al.ok at hok
        rw [hok] at cr
        unfold Al.ok at htk
        rw [hok] at htk
        refine AWP.seq ?_
        refine AWP.regionT tcok hmix [] [0, 2, 3, 4, 11, 12, 13, 14] [2, 3] (os := []) (s' := St.mk [(0, tp (V.vs (rowsA R) n)), (2, tp (V.sl 2 0 0)), (3, tp (V.sl 3 0 z)), (4, tp (i64 m)), (11, tp (V.vs (rowsA R) n)), (12, tp (i64 (↑n : Int))), (13, tp (i64 p)), (14, tp (vb (decide (p < (↑n : Int)))))] [(2, Blk.mk [] true 0 (some (47, 3))), (3, Blk.mk (rowsA Z) true 0 (some (47, 3)))]) (by kernel_rfl) trivial ?_
        refine AWP.seq ?_
        refine AWP.cond (b := decide (p < (↑n : Int))) (by kernel_rfl) (fun hq10 => ?_) (fun hq10 => ?_)
        · simp only [decide_eq_true_eq] at hq10
          refine AWP.skip ?_
          refine AWP.seq ?_
          refine AWP.block ?_
          refine AWP.seq ?_
          refine AWP.regionT tcok hmix [(0, ⟨some (V.vp (u8 a.lv :: i64 a.un :: u8 a.ev :: rowsA (List.drop (Int.toNat p + 1) R))), none⟩)] [0, 2, 3, 4, 6, 11, 12, 13] [2, 3, 6] (os := [(0 : Int) ≤ p ∧ p < (↑n : Int), V.vp (List.drop (Int.toNat p * 3) (rowsA R)) = V.vp (u8 a.lv :: i64 a.un :: u8 a.ev :: rowsA (List.drop (Int.toNat p + 1) R))]) (s' := St.mk [(0, tp (V.vs (rowsA R) n)), (2, tp (V.sl 2 0 0)), (3, tp (V.sl 3 0 z)), (4, tp (i64 m)), (6, tp (V.ptr 6 0)), (11, tp (V.vs (rowsA R) n)), (12, tp (i64 (↑n : Int))), (13, tp (i64 p))] [(2, Blk.mk [] true 0 (some (47, 3))), (3, Blk.mk (rowsA Z) true 0 (some (47, 3))), (6, Blk.mk [u8 a.lv, i64 a.un, u8 a.ev] true 3 none)]) (by kernel_rfl) ⟨(by omega), (congrArg V.vp hd), trivial⟩ ?_
          refine xe1 (os := [Con Tryd.prog 39 [] [V.agg true [u8 a.lv, i64 a.un, u8 a.ev]] [] (vb false)]) [(1, ⟨none, some ⟨vb false, [], []⟩⟩)] [0, 2, 3, 4, 6, 11, 12, 13, 25] [2, 3, 6] (by kernel_rfl) ⟨(cr ), trivial⟩ ?_
          refine AWP.condF (by kernel_rfl) ?_
          refine AWP.skip ?_
          refine AWP.region tcok hmix [(0, ⟨some (i64 (p + 1)), none⟩)] (os := [i64 (IntKind.wrap IntKind.i64 (p + 1)) = i64 (p + 1)]) (sf := St.mk [(0, tp (V.vs (rowsA R) n)), (2, tp (V.sl 2 0 0)), (3, tp (V.sl 3 0 z)), (4, tp (i64 m)), (6, tp (V.ptr 6 0)), (11, tp (V.vs (rowsA R) n)), (12, tp (i64 (↑n : Int))), (13, tp (i64 (p + 1))), (25, tp (vb false)), (30, tp (i64 (p + 1)))] [(2, Blk.mk [] true 0 (some (47, 3))), (3, Blk.mk (rowsA Z) true 0 (some (47, 3))), (6, Blk.mk [u8 a.lv, i64 a.un, u8 a.ev] true 3 none)]) (by kernel_rfl) ⟨(wr_i64 (by omega) (by omega)), trivial⟩ ?_
          refine ⟨St.mk [(0, tp (V.vs (rowsA R) n)), (2, tp (V.sl 2 0 0)), (3, tp (V.sl 3 0 z)), (4, tp (i64 m)), (11, tp (V.vs (rowsA R) n)), (12, tp (i64 (↑n : Int))), (13, tp (i64 (p + 1)))] [(2, Blk.mk [] true 0 (some (47, 3))), (3, Blk.mk (rowsA Z) true 0 (some (47, 3)))], by kernel_rfl, ?_⟩
          first | (exact ⟨(n - (p + 1)).toNat, (by omega), p + 1, Z, z, rfl, (by rw [hZ]; unfold Al.ok; rw [htk]; simp), hz, (by omega), (by omega), (by omega)⟩) | (exfalso; simp at hq10; omega)
        simp only [decide_eq_false_iff_not] at hq10
        (exfalso; omega)
    have hpp : p = n := by omega
    subst hpp
    rw [Int.toNat_natCast, ← hn, List.take_length] at hZ
    rw [← hZ] at hO
    refine AWP.seq ?_
    refine AWP.regionT tcok hmix [] [0, 2, 3, 4, 11, 12, 13, 14] [2, 3] (os := []) (s' := St.mk [(0, tp (V.vs (rowsA R) n)), (2, tp (V.sl 2 0 0)), (3, tp (V.sl 3 0 z)), (4, tp (i64 m)), (11, tp (V.vs (rowsA R) n)), (12, tp (i64 (↑n : Int))), (13, tp (i64 (↑n : Int))), (14, tp (vb (decide ((↑n : Int) < (↑n : Int)))))] [(2, Blk.mk [] true 0 (some (47, 3))), (3, Blk.mk (rowsA Z) true 0 (some (47, 3)))]) (by kernel_rfl) trivial ?_
    refine AWP.seq ?_
    refine AWP.cond (b := decide ((↑n : Int) < (↑n : Int))) (by kernel_rfl) (fun hq12 => ?_) (fun hq12 => ?_)
    · simp only [decide_eq_true_eq] at hq12
      (exfalso; omega)
    simp only [decide_eq_false_iff_not] at hq12
    refine AWP.exit ?_
    refine AWP.region tcok hmix [(1, ⟨some (i64 (m - 1)), none⟩)] (os := [i64 (IntKind.wrap IntKind.i64 (m - 1)) = i64 (m - 1)]) (sf := St.mk [(0, tp (V.vs (rowsA R) n)), (2, tp (V.sl 2 0 0)), (3, tp (V.sl 3 0 z)), (4, tp (i64 (m - 1))), (9, tp (i64 m)), (10, tp (i64 (m - 1))), (11, tp (V.vs (rowsA R) n)), (12, tp (i64 (↑n : Int))), (13, tp (i64 (↑n : Int))), (14, tp (vb (decide ((↑n : Int) < (↑n : Int)))))] [(2, Blk.mk [] true 0 (some (47, 3))), (3, Blk.mk (rowsA Z) true 0 (some (47, 3)))]) (by kernel_rfl) ⟨(wr_i64 (by omega) (by omega)), trivial⟩ ?_
    refine ⟨St.mk [(0, tp (V.vs (rowsA R) n)), (2, tp (V.sl 2 0 0)), (3, tp (V.sl 3 0 z)), (4, tp (i64 (m - 1)))] [(2, Blk.mk [] true 0 (some (47, 3))), (3, Blk.mk (rowsA Z) true 0 (some (47, 3)))], by kernel_rfl, ?_⟩
    first | (exact ⟨m.toNat, (by omega), m - 1, Z, z, rfl, hO, hz, (by omega), (by omega), (by omega)⟩) | (exfalso; omega)
  have hmm : m = -1 := by omega
  subst hmm
  simp only [show ((-1 : Int) + 1).toNat = 0 from rfl, byLev, List.append_nil] at hO
  subst hO
  obtain rfl : q = k := by omega
  refine AWP.seq ?_
  refine AWP.seq ?_
  refine AWP.regionT tcok hmix [] [0, 2, 3, 4, 8] [2, 3] (os := []) (s' := St.mk [(0, tp (V.vs (rowsA R) n)), (2, tp (V.sl 2 0 0)), (3, tp (V.sl 3 0 q)), (4, tp (i64 (-1))), (8, tp (vb false))] [(2, Blk.mk [] true 0 (some (47, 3))), (3, Blk.mk (rowsA O) true 0 (some (47, 3)))]) (by kernel_rfl) trivial ?_
  refine AWP.condF (by kernel_rfl) ?_
  refine AWP.exit ?_
  refine AWP.seq ?_
  refine AWP.keep' [3] [3] (sf := St.mk [(3, tp (V.sl 3 0 q))] [(3, Blk.mk (rowsA O) true 0 (some (47, 3)))]) (by kernel_rfl) ?_
  refine xg0 [2] [3] (by kernel_rfl) ?_
  refine AWP.ret ?_
  refine ⟨Or.inr rfl, Eq.trans (b := some ([(3, Blk.mk (rowsA O) true 0 (some (47, 3)))], V.sl 3 0 q)) (by kernel_rfl) ?_⟩
  first | rfl | (exfalso; omega)
end Go.Proofs.YtklbonfbiakebaaDoor
