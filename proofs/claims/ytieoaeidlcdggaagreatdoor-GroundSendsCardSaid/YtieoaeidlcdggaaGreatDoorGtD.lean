/- The last of rows of one kind: all. -/
import Derived.Test.YtieoaeidlcdggaaGreatDoorRg
import Derived.Test.YtieoaeidlcdggaaGreatDoorGtC
namespace Go.Proofs.YtieoaeidlcdggaaGreatDoor
open Go Go.Ab
set_option linter.unusedSimpArgs false
set_option linter.unusedVariables false
set_option maxRecDepth 100000
def sOf (i : Nat) : Int := (rws.getD i (0, 0, 0)).1
def tOf (i : Nat) : Int := (rws.getD i (0, 0, 0)).2.1
def mOf (i : Nat) : Int := (rws.getD i (0, 0, 0)).2.2
theorem row_fin : ∀ i : Fin 19, List.drop (i.val * 4) rcells = u8 (sOf i.val) :: u8 (tOf i.val) :: i64 (mOf i.val) :: i64 (mOf i.val) :: List.drop ((i.val + 1) * 4) rcells
  | ⟨0, _⟩ => rfl
  | ⟨1, _⟩ => rfl
  | ⟨2, _⟩ => rfl
  | ⟨3, _⟩ => rfl
  | ⟨4, _⟩ => rfl
  | ⟨5, _⟩ => rfl
  | ⟨6, _⟩ => rfl
  | ⟨7, _⟩ => rfl
  | ⟨8, _⟩ => rfl
  | ⟨9, _⟩ => rfl
  | ⟨10, _⟩ => rfl
  | ⟨11, _⟩ => rfl
  | ⟨12, _⟩ => rfl
  | ⟨13, _⟩ => rfl
  | ⟨14, _⟩ => rfl
  | ⟨15, _⟩ => rfl
  | ⟨16, _⟩ => rfl
  | ⟨17, _⟩ => rfl
  | ⟨18, _⟩ => rfl
  | ⟨i + 19, h⟩ => absurd h (by omega)
theorem row_at {i : Nat} (h : i < 19) : List.drop (i * 4) rcells = u8 (sOf i) :: u8 (tOf i) :: i64 (mOf i) :: i64 (mOf i) :: List.drop ((i + 1) * 4) rcells := row_fin ⟨i, h⟩
theorem row_bd_fin : ∀ i : Fin 19, (0 ≤ sOf i.val ∧ sOf i.val < 256) ∧ (0 ≤ tOf i.val ∧ tOf i.val < 256) ∧ (0 ≤ mOf i.val ∧ mOf i.val < 256) := by decide +kernel
theorem row_bd {i : Nat} (h : i < 19) : (0 ≤ sOf i ∧ sOf i < 256) ∧ (0 ≤ tOf i ∧ tOf i < 256) ∧ (0 ≤ mOf i ∧ mOf i < 256) := row_bd_fin ⟨i, h⟩
theorem row_ne_fin : ∀ i j : Fin 19, i.val < j.val → ¬(sOf i.val = sOf j.val ∧ tOf i.val = tOf j.val) := by decide +kernel
theorem row_ne {i j : Nat} (h : i < j) (hj : j < 19) : ¬(sOf i = sOf j ∧ tOf i = tOf j) := row_ne_fin ⟨i, by omega⟩ ⟨j, hj⟩ h
theorem con_rlast : Con Tryz.prog 23 [] [.vs rcells 19] [] (.vs rcells 19) := by
  have hrow : ∀ i : Nat, i < 19 → List.drop (i * 4) rcells = u8 (sOf i) :: u8 (tOf i) :: i64 (mOf i) :: i64 (mOf i) :: List.drop ((i + 1) * 4) rcells := fun i h => row_at h
  have hlen : rcells.length = 76 := rfl
  obtain ⟨L, hL⟩ : ∃ L, rcells = L := ⟨_, rfl⟩
  rw [hL] at hrow hlen ⊢
  refine Con.of (C := ⟨Tryz.prog, tc, Tryz.f23.ntmps⟩) [1000000000] tcok Tryz.func23 rfl rfl (by kernel_rfl) (by kernel_rfl) ?_
  refine AWP.seq ?_
  refine AWP.regionT tcok hmix [] [0, 2] [2] (os := []) (s' := St.mk [(0, tp (V.vs L 19)), (2, tp (V.sl 2 0 0))] [(2, Blk.mk [] true 0 (some (69, 4)))]) (by kernel_rfl) trivial ?_
  refine xe0 [0, 2, 3] [2, 3] (by kernel_rfl) ?_
  refine AWP.seq ?_
  refine xe0 [0, 2, 3, 9, 10, 11] [2, 3] (by kernel_rfl) ?_
  refine AWP.block ?_
  refine AWP.loopI [0, 2, 3, 9, 10, 11] [2, 3] (fun N s' => ∃ i : Int, s' = St.mk [(0, T.plain (V.vs L 19)), (2, T.plain (V.sl 2 0 0)), (3, T.plain (V.sl 3 0 i.toNat)), (9, T.plain (V.vs L 19)), (10, T.plain (i64 19)), (11, T.plain (i64 i))] [(2, Blk.mk [] true 0 (some (69, 4))), (3, Blk.mk (L.take (4 * i.toNat)) true 0 (some (69, 4)))]
      ∧ 0 ≤ i ∧ i ≤ 19 ∧ (N : Int) = 19 - i) 19 (s0 := St.mk [(0, T.plain (V.vs L 19)), (2, T.plain (V.sl 2 0 0)), (3, T.plain (V.sl 3 0 0)), (9, T.plain (V.vs L 19)), (10, T.plain (i64 19)), (11, T.plain (i64 0))] [(2, Blk.mk [] true 0 (some (69, 4))), (3, Blk.mk [] true 0 (some (69, 4)))]) (by kernel_rfl) ?_ ?_
  · exact ⟨0, rfl, by omega, by omega, by omega⟩
  rintro N s' ⟨i, rfl, hi, hi2, hN⟩
  have hl : (List.take (4 * i.toNat) L).length = 4 * i.toNat := by rw [List.length_take, hlen]; omega
  by_cases h : i < 19
  case neg =>
    obtain rfl : i = 19 := by omega
    have e : List.take (4 * Int.toNat 19) L = L := List.take_of_length_le (by rw [hlen]; decide)
    rw [e]
    refine AWP.seq ?_
    refine AWP.regionT tcok hmix [] [0, 2, 3, 9, 10, 11, 12] [2, 3] (os := []) (s' := St.mk [(0, tp (V.vs L 19)), (2, tp (V.sl 2 0 0)), (3, tp (V.sl 3 0 19)), (9, tp (V.vs L 19)), (10, tp (i64 19)), (11, tp (i64 19)), (12, tp (vb false))] [(2, Blk.mk [] true 0 (some (69, 4))), (3, Blk.mk L true 0 (some (69, 4)))]) (by kernel_rfl) trivial ?_
    refine AWP.seq ?_
    refine AWP.condF (by kernel_rfl) ?_
    refine AWP.exit ?_
    refine AWP.seq ?_
    refine AWP.keep' [3] [3] (sf := St.mk [(3, tp (V.sl 3 0 19))] [(3, Blk.mk L true 0 (some (69, 4)))]) (by kernel_rfl) ?_
    refine xg0 [2] [3] (by kernel_rfl) ?_
    refine AWP.frz 3 (s' := St.mk [(2, tp (V.vs L 19))] []) (by kernel_rfl) ?_
    refine AWP.ret ?_
    refine ⟨Or.inr rfl, Eq.trans (b := some ([], V.vs L 19)) (by kernel_rfl) ?_⟩
    rfl
  have hrow1 := hrow i.toNat (by omega)
  have hbd := row_bd (i := i.toNat) (by omega)
  have hnext : List.take (4 * i.toNat) L ++ [u8 (sOf i.toNat), u8 (tOf i.toNat), i64 (mOf i.toNat), i64 (mOf i.toNat)] = List.take (4 * (i + 1).toNat) L := by
    have e : List.take (4 * (i + 1).toNat) L = List.take (4 * i.toNat) L ++ List.take 4 (List.drop (4 * i.toNat) L) := by
      rw [show 4 * (i + 1).toNat = 4 * i.toNat + 4 by omega, List.take_add]
    rw [e, Nat.mul_comm 4 i.toNat, hrow1]
    rfl
  obtain ⟨Y, hY0⟩ : ∃ Y, L.drop ((i + 1).toNat * 4) = Y := ⟨_, rfl⟩
  have hY : subV L (some (i64 (i + 1))) none (Int.toNat (i + 1) * 4) (Int.toNat 19 * 4) ((Int.toNat 19 - Int.toNat (i + 1)) * 4) = Y := by
    show List.take _ (List.drop _ L) = Y
    rw [← hY0]
    exact List.take_of_length_le (by rw [List.length_drop, hlen, show Int.toNat 19 = 19 from rfl]; omega)
  have hYr : ∀ j : Nat, j < 18 - i.toNat → List.drop (j * 4) Y = u8 (sOf (i.toNat + 1 + j)) :: u8 (tOf (i.toNat + 1 + j)) :: i64 (mOf (i.toNat + 1 + j)) :: i64 (mOf (i.toNat + 1 + j)) :: List.drop ((i.toNat + 1 + j + 1) * 4) L := fun j hj => by
    rw [← hY0, List.drop_drop, show (i + 1).toNat * 4 + j * 4 = (i.toNat + 1 + j) * 4 by omega]
    exact hrow _ (by omega)
  have hYl : Y.length = (18 - i.toNat) * 4 := by rw [← hY0, List.length_drop, hlen]; omega
  have hne : ∀ j : Nat, j < 18 - i.toNat → ¬(sOf i.toNat = sOf (i.toNat + 1 + j) ∧ tOf i.toNat = tOf (i.toNat + 1 + j)) := fun j hj => row_ne (by omega) (by omega)
  have hm : 19 - Int.toNat (i + 1) = 18 - i.toNat := by omega
  generalize sOf i.toNat = s at *
  generalize tOf i.toNat = t at *
  generalize mOf i.toNat = m at *
  clear hrow
  refine AWP.seq ?_
  refine AWP.regionT tcok hmix [] [0, 2, 3, 9, 10, 11, 12] [2, 3] (os := []) (s' := St.mk [(0, tp (V.vs L 19)), (2, tp (V.sl 2 0 0)), (3, tp (V.sl 3 0 (Int.toNat i))), (9, tp (V.vs L 19)), (10, tp (i64 19)), (11, tp (i64 i)), (12, tp (vb (decide (i < 19))))] [(2, Blk.mk [] true 0 (some (69, 4))), (3, Blk.mk (List.take (4 * Int.toNat i) L) true 0 (some (69, 4)))]) (by kernel_rfl) trivial ?_
  refine AWP.seq ?_
  refine AWP.cond (b := decide (i < 19)) (by kernel_rfl) (fun hq1 => ?_) (fun hq1 => ?_)
  rotate_left
  · simp only [decide_eq_false_iff_not] at hq1
    (exfalso; omega)
  simp only [decide_eq_true_eq] at hq1
  refine AWP.skip ?_
  refine AWP.seq ?_
  refine AWP.block ?_
  refine AWP.seq ?_
  refine AWP.regionT tcok hmix [(1, ⟨some (V.vp (u8 s :: u8 t :: i64 m :: i64 m :: List.drop ((Int.toNat i + 1) * 4) L)), none⟩)] [0, 2, 3, 4, 5, 9, 10, 11] [2, 3, 5] (os := [(0 : Int) ≤ i ∧ i < (↑(19 : Nat) : Int), V.vp (List.drop (Int.toNat i * 4) L) = V.vp (u8 s :: u8 t :: i64 m :: i64 m :: List.drop ((Int.toNat i + 1) * 4) L)]) (s' := St.mk [(0, tp (V.vs L 19)), (2, tp (V.sl 2 0 0)), (3, tp (V.sl 3 0 (Int.toNat i))), (4, tp (i64 i)), (5, tp (V.ptr 5 0)), (9, tp (V.vs L 19)), (10, tp (i64 19)), (11, tp (i64 i))] [(2, Blk.mk [] true 0 (some (69, 4))), (3, Blk.mk (List.take (4 * Int.toNat i) L) true 0 (some (69, 4))), (5, Blk.mk [u8 s, u8 t, i64 m, i64 m] true 4 none)]) (by kernel_rfl) ⟨(by omega), (congrArg V.vp hrow1), trivial⟩ ?_
  refine xe0 [0, 2, 3, 4, 5, 6, 9, 10, 11] [2, 3, 5] (by kernel_rfl) ?_
  refine AWP.seq ?_
  refine xe1 (os := [i64 (IntKind.wrap IntKind.i64 (i + 1)) = i64 (i + 1), (0 : Int) ≤ i + (1 : Int) ∧ i + (1 : Int) ≤ (↑(19 : Nat) : Int) ∧ (↑(19 : Nat) : Int) ≤ (↑(19 : Nat) : Int), V.vs (subV L (some (i64 (i + 1))) none (Int.toNat (i + 1) * 4) (Int.toNat (↑19 : Int) * 4) ((Int.toNat (↑19 : Int) - Int.toNat (i + 1)) * 4)) (19 - Int.toNat (i + 1)) = V.vs (subV L (some (i64 (i + 1))) none (Int.toNat (i + 1) * 4) (Int.toNat (↑19 : Int) * 4) ((Int.toNat (↑19 : Int) - Int.toNat (i + 1)) * 4)) (19 - Int.toNat (i + 1))]) [(2, ⟨some (i64 (i + 1)), none⟩), (3, ⟨some (V.vs (subV L (some (i64 (i + 1))) none (Int.toNat (i + 1) * 4) (Int.toNat (↑19 : Int) * 4) ((Int.toNat (↑19 : Int) - Int.toNat (i + 1)) * 4)) (19 - Int.toNat (i + 1))), none⟩)] [0, 2, 3, 5, 6, 9, 10, 11, 19, 20, 21] [2, 3, 5] (by kernel_rfl) ⟨(wr_i64 (by omega) (by omega)), (by omega), rfl, trivial⟩ ?_
  refine AWP.block ?_
  rw [hY, hm]
  obtain ⟨n, hn⟩ : ∃ n, 18 - i.toNat = n := ⟨_, rfl⟩
  rw [hn] at hYr hYl hne ⊢
  refine AWP.loopI [0, 2, 3, 5, 6, 9, 10, 11, 19, 20, 21] [2, 3, 5] (fun M s' => ∃ j : Int, s' = St.mk [(0, T.plain (V.vs L 19)), (2, T.plain (V.sl 2 0 0)), (3, T.plain (V.sl 3 0 (Int.toNat i))), (5, T.plain (V.ptr 5 0)), (6, T.plain (vb true)), (9, T.plain (V.vs L 19)), (10, T.plain (i64 19)), (11, T.plain (i64 i)), (19, T.plain (V.vs Y n)), (20, T.plain (i64 (n : Int))), (21, T.plain (i64 j))] [(2, Blk.mk [] true 0 (some (69, 4))), (3, Blk.mk (List.take (4 * Int.toNat i) L) true 0 (some (69, 4))), (5, Blk.mk [u8 s, u8 t, i64 m, i64 m] true 4 none)]
      ∧ 0 ≤ j ∧ j ≤ n ∧ (M : Int) = n - j) n (s0 := St.mk [(0, T.plain (V.vs L 19)), (2, T.plain (V.sl 2 0 0)), (3, T.plain (V.sl 3 0 (Int.toNat i))), (5, T.plain (V.ptr 5 0)), (6, T.plain (vb true)), (9, T.plain (V.vs L 19)), (10, T.plain (i64 19)), (11, T.plain (i64 i)), (19, T.plain (V.vs Y n)), (20, T.plain (i64 (n : Int))), (21, T.plain (i64 0))] [(2, Blk.mk [] true 0 (some (69, 4))), (3, Blk.mk (List.take (4 * Int.toNat i) L) true 0 (some (69, 4))), (5, Blk.mk [u8 s, u8 t, i64 m, i64 m] true 4 none)]) (by kernel_rfl) ?_ ?_
  · exact ⟨0, rfl, by omega, by omega, by omega⟩
  rintro M s' ⟨j, rfl, hj, hj2, hM⟩
  by_cases hjn : j < n
  case neg =>
    refine AWP.seq ?_
    refine AWP.regionT tcok hmix [] [0, 2, 3, 5, 6, 9, 10, 11, 19, 20, 21, 22] [2, 3, 5] (os := []) (s' := St.mk [(0, tp (V.vs L 19)), (2, tp (V.sl 2 0 0)), (3, tp (V.sl 3 0 (Int.toNat i))), (5, tp (V.ptr 5 0)), (6, tp (vb true)), (9, tp (V.vs L 19)), (10, tp (i64 19)), (11, tp (i64 i)), (19, tp (V.vs Y n)), (20, tp (i64 (↑n : Int))), (21, tp (i64 j)), (22, tp (vb (decide (j < (↑n : Int)))))] [(2, Blk.mk [] true 0 (some (69, 4))), (3, Blk.mk (List.take (4 * Int.toNat i) L) true 0 (some (69, 4))), (5, Blk.mk [u8 s, u8 t, i64 m, i64 m] true 4 none)]) (by kernel_rfl) trivial ?_
    refine AWP.seq ?_
    refine AWP.cond (b := decide (j < (↑n : Int))) (by kernel_rfl) (fun hq2 => ?_) (fun hq2 => ?_)
    · simp only [decide_eq_true_eq] at hq2
      (exfalso; omega)
    simp only [decide_eq_false_iff_not] at hq2
    refine AWP.exit ?_
    refine AWP.seq ?_
    refine AWP.regionT tcok hmix [] [0, 2, 3, 5, 9, 10, 11, 38] [2, 3, 5] (os := []) (s' := St.mk [(0, tp (V.vs L 19)), (2, tp (V.sl 2 0 0)), (3, tp (V.sl 3 0 (Int.toNat i))), (5, tp (V.ptr 5 0)), (9, tp (V.vs L 19)), (10, tp (i64 19)), (11, tp (i64 i)), (38, tp (vb true))] [(2, Blk.mk [] true 0 (some (69, 4))), (3, Blk.mk (List.take (4 * Int.toNat i) L) true 0 (some (69, 4))), (5, Blk.mk [u8 s, u8 t, i64 m, i64 m] true 4 none)]) (by kernel_rfl) trivial ?_
    refine AWP.condT (by kernel_rfl) ?_
    refine AWP.region tcok hmix [(3, ⟨some (V.tup [V.agg true (List.take (4 * Int.toNat i) L ++ [u8 s, u8 t, i64 m, i64 m]), V.sl 0 0 (Int.toNat i + 1)]), none⟩)] (os := [(4 : Nat) ≤ (4 : Nat), Int.toNat i * (4 : Nat) = List.length (List.take ((4 : Nat) * Int.toNat i) L), Int.toNat i + (1 : Nat) ≤ (9223372036854775807 : Nat), (Int.toNat i + (1 : Nat)) * (24 : Nat) ≤ (140737488355328 : Nat), List.take ((4 : Nat) * Int.toNat i) L ++ List.take ((1 : Nat) * (4 : Nat)) (List.drop (0 : Nat) [u8 s, u8 t, i64 m, i64 m]) = List.take ((4 : Nat) * Int.toNat i) L ++ [u8 s, u8 t, i64 m, i64 m], Int.toNat i + (1 : Nat) = Int.toNat i + (1 : Nat)]) (sf := St.mk [(0, tp (V.vs L 19)), (2, tp (V.sl 2 0 0)), (3, tp (V.sl 3 0 (Int.toNat i + 1))), (5, tp (V.ptr 5 0)), (9, tp (V.vs L 19)), (10, tp (i64 19)), (11, tp (i64 i)), (38, tp (vb true)), (39, tp V.top), (40, tp (V.agg true [u8 s, u8 t, i64 m, i64 m])), (41, tp (V.sl 41 0 1)), (42, tp (V.sl 3 0 (Int.toNat i + 1)))] [(2, Blk.mk [] true 0 (some (69, 4))), (3, Blk.mk (List.take (4 * Int.toNat i) L ++ [u8 s, u8 t, i64 m, i64 m]) true 0 (some (69, 4))), (5, Blk.mk [u8 s, u8 t, i64 m, i64 m] true 4 none), (41, Blk.mk [u8 s, u8 t, i64 m, i64 m] true 0 (some (69, 4)))]) (by kernel_rfl) ⟨(by omega), (by first | omega | (simp [len_u8s]; done) | (simp [len_u8s]; omega)), (by omega), (by omega), (by first | rfl | (simp only [u8s_drop, u8s_take, List.drop_zero, Nat.mul_one, Nat.one_mul, u8s_app, List.take_length, List.nil_append, List.append_nil]; done) | (simp [u8s]; done) | (simp [u8s]; omega)), (by omega), trivial⟩ ?_
    refine AWP.keep' [0, 2, 3, 9, 10, 11] [2, 3] (sf := St.mk [(0, tp (V.vs L 19)), (2, tp (V.sl 2 0 0)), (3, tp (V.sl 3 0 (Int.toNat i + 1))), (9, tp (V.vs L 19)), (10, tp (i64 19)), (11, tp (i64 i))] [(2, Blk.mk [] true 0 (some (69, 4))), (3, Blk.mk (List.take (4 * Int.toNat i) L ++ [u8 s, u8 t, i64 m, i64 m]) true 0 (some (69, 4)))]) (by kernel_rfl) ?_
    refine AWP.region tcok hmix [(0, ⟨some (i64 (i + 1)), none⟩)] (os := [i64 (IntKind.wrap IntKind.i64 (i + 1)) = i64 (i + 1)]) (sf := St.mk [(0, tp (V.vs L 19)), (2, tp (V.sl 2 0 0)), (3, tp (V.sl 3 0 (Int.toNat i + 1))), (9, tp (V.vs L 19)), (10, tp (i64 19)), (11, tp (i64 (i + 1))), (43, tp (i64 (i + 1)))] [(2, Blk.mk [] true 0 (some (69, 4))), (3, Blk.mk (List.take (4 * Int.toNat i) L ++ [u8 s, u8 t, i64 m, i64 m]) true 0 (some (69, 4)))]) (by kernel_rfl) ⟨(wr_i64 (by omega) (by omega)), trivial⟩ ?_
    refine ⟨St.mk [(0, tp (V.vs L 19)), (2, tp (V.sl 2 0 0)), (3, tp (V.sl 3 0 (Int.toNat i + 1))), (9, tp (V.vs L 19)), (10, tp (i64 19)), (11, tp (i64 (i + 1)))] [(2, Blk.mk [] true 0 (some (69, 4))), (3, Blk.mk (List.take (4 * Int.toNat i) L ++ [u8 s, u8 t, i64 m, i64 m]) true 0 (some (69, 4)))], by kernel_rfl, ?_⟩
    exact ⟨(19 - (i + 1)).toNat, (by omega), i + 1, (by rw [hnext, show (i + 1).toNat = i.toNat + 1 by omega]), (by omega), (by omega), (by omega)⟩
  have hr := hYr j.toNat (by omega)
  have hn2 := hne j.toNat (by omega)
  have hbd2 := row_bd (i := i.toNat + 1 + j.toNat) (by omega)
  generalize sOf (i.toNat + 1 + j.toNat) = s2 at *
  generalize tOf (i.toNat + 1 + j.toNat) = t2 at *
  generalize mOf (i.toNat + 1 + j.toNat) = m2 at *
  refine AWP.seq ?_
  refine AWP.regionT tcok hmix [] [0, 2, 3, 5, 6, 9, 10, 11, 19, 20, 21, 22] [2, 3, 5] (os := []) (s' := St.mk [(0, tp (V.vs L 19)), (2, tp (V.sl 2 0 0)), (3, tp (V.sl 3 0 (Int.toNat i))), (5, tp (V.ptr 5 0)), (6, tp (vb true)), (9, tp (V.vs L 19)), (10, tp (i64 19)), (11, tp (i64 i)), (19, tp (V.vs Y n)), (20, tp (i64 (↑n : Int))), (21, tp (i64 j)), (22, tp (vb (decide (j < (↑n : Int)))))] [(2, Blk.mk [] true 0 (some (69, 4))), (3, Blk.mk (List.take (4 * Int.toNat i) L) true 0 (some (69, 4))), (5, Blk.mk [u8 s, u8 t, i64 m, i64 m] true 4 none)]) (by kernel_rfl) trivial ?_
  refine AWP.seq ?_
  refine AWP.cond (b := decide (j < (↑n : Int))) (by kernel_rfl) (fun hq4 => ?_) (fun hq4 => ?_)
  · simp only [decide_eq_true_eq] at hq4
    refine AWP.skip ?_
    refine AWP.seq ?_
    refine AWP.block ?_
    refine AWP.seq ?_
    refine AWP.regionT tcok hmix [(0, ⟨some (V.vp (u8 s2 :: u8 t2 :: i64 m2 :: i64 m2 :: List.drop ((Int.toNat i + 1 + Int.toNat j + 1) * 4) L)), none⟩)] [0, 2, 3, 5, 6, 8, 9, 10, 11, 19, 20, 21] [2, 3, 5, 8] (os := [(0 : Int) ≤ j ∧ j < (↑n : Int), V.vp (List.drop (Int.toNat j * 4) Y) = V.vp (u8 s2 :: u8 t2 :: i64 m2 :: i64 m2 :: List.drop ((Int.toNat i + 1 + Int.toNat j + 1) * 4) L)]) (s' := St.mk [(0, tp (V.vs L 19)), (2, tp (V.sl 2 0 0)), (3, tp (V.sl 3 0 (Int.toNat i))), (5, tp (V.ptr 5 0)), (6, tp (vb true)), (8, tp (V.ptr 8 0)), (9, tp (V.vs L 19)), (10, tp (i64 19)), (11, tp (i64 i)), (19, tp (V.vs Y n)), (20, tp (i64 (↑n : Int))), (21, tp (i64 j))] [(2, Blk.mk [] true 0 (some (69, 4))), (3, Blk.mk (List.take (4 * Int.toNat i) L) true 0 (some (69, 4))), (5, Blk.mk [u8 s, u8 t, i64 m, i64 m] true 4 none), (8, Blk.mk [u8 s2, u8 t2, i64 m2, i64 m2] true 4 none)]) (by kernel_rfl) ⟨(by omega), (congrArg V.vp hr), trivial⟩ ?_
    refine xe0 [0, 2, 3, 5, 6, 9, 10, 11, 19, 20, 21, 36] [2, 3, 5] (by kernel_rfl) ?_
    refine AWP.cond (b := s == s2 && t == t2) (by kernel_rfl) (fun hq5 => ?_) (fun hq5 => ?_)
    · simp only [Bool.and_eq_true, beq_iff_eq] at hq5
      (exfalso; omega)
    simp only [Bool.and_eq_false_iff, beq_eq_false_iff_ne] at hq5
    refine AWP.skip ?_
    refine AWP.region tcok hmix [(0, ⟨some (i64 (j + 1)), none⟩)] (os := [i64 (IntKind.wrap IntKind.i64 (j + 1)) = i64 (j + 1)]) (sf := St.mk [(0, tp (V.vs L 19)), (2, tp (V.sl 2 0 0)), (3, tp (V.sl 3 0 (Int.toNat i))), (5, tp (V.ptr 5 0)), (6, tp (vb true)), (9, tp (V.vs L 19)), (10, tp (i64 19)), (11, tp (i64 i)), (19, tp (V.vs Y n)), (20, tp (i64 (↑n : Int))), (21, tp (i64 (j + 1))), (36, tp (vb (s == s2 && t == t2))), (37, tp (i64 (j + 1)))] [(2, Blk.mk [] true 0 (some (69, 4))), (3, Blk.mk (List.take (4 * Int.toNat i) L) true 0 (some (69, 4))), (5, Blk.mk [u8 s, u8 t, i64 m, i64 m] true 4 none)]) (by kernel_rfl) ⟨(wr_i64 (by omega) (by omega)), trivial⟩ ?_
    refine ⟨St.mk [(0, tp (V.vs L 19)), (2, tp (V.sl 2 0 0)), (3, tp (V.sl 3 0 (Int.toNat i))), (5, tp (V.ptr 5 0)), (6, tp (vb true)), (9, tp (V.vs L 19)), (10, tp (i64 19)), (11, tp (i64 i)), (19, tp (V.vs Y n)), (20, tp (i64 (↑n : Int))), (21, tp (i64 (j + 1)))] [(2, Blk.mk [] true 0 (some (69, 4))), (3, Blk.mk (List.take (4 * Int.toNat i) L) true 0 (some (69, 4))), (5, Blk.mk [u8 s, u8 t, i64 m, i64 m] true 4 none)], by kernel_rfl, ?_⟩
    first | (exact ⟨(n - (j + 1)).toNat, (by omega), j + 1, rfl, (by omega), (by omega), (by omega)⟩) | (exfalso; omega)
  simp only [decide_eq_false_iff_not] at hq4
  (exfalso; omega)
end Go.Proofs.YtieoaeidlcdggaaGreatDoor
