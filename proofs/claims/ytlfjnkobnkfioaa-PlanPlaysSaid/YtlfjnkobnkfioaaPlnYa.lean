/- The document's plan: a call that deletes. Printed by pln_del.py. -/
import Derived.Test.YtlfjnkobnkfioaaRg
import Derived.Test.YtlfjnkobnkfioaaPlnY
namespace Go.Proofs.Ytlfjnkobnkfioaa
open Go.Ab
set_option maxRecDepth 100000
set_option maxHeartbeats 8000000
set_option linter.unusedSimpArgs false
set_option linter.unusedVariables false
theorem take_drop1 (L : List It) (n i : Nat) (hn : L.length = n) (hi : i < n) : List.take (i * 3) (rowsI L) ++ List.take ((n - (i + 1)) * 3) (List.drop ((i + 1) * 3) (rowsI L)) = rowsI (L.take i ++ L.drop (i + 1)) := by
  rw [rowsI_app, rowsI_drop, rowsI_take, rowsI_take, List.take_of_length_le (l := List.drop (i + 1) L) (by rw [List.length_drop]; omega)]
theorem con_do_del (L : List It) (n : Nat) (hn : L.length = n) (hm : n ≤ 1000) (off : Bool) (d t id b : Int) (hd : 0 ≤ d ∧ d < 256) (c : List Int) (k : Nat) (on : Bool) (hd8 : d % 8 = 3) (k0 : Nat) (hk0 : k0 < n) (hat : atP id L n = (k0 : Int)) (L' : List It) (hL' : L.take k0 ++ L.drop (k0 + 1) = L') :
    Con Try.prog 33 [(1000000000, ⟨rowsI L, true, 0, some (96, 3)⟩), (2000000030, ⟨[.sl 1000000000 0 n, vb off], false, 2, none⟩)] [.ptr 2000000030 0, .agg true [u8 d, u32 t, u16 id, .vs (u8s c) k, i32 b, vb on]]
      [(1000000000, ⟨rowsI L', true, 0, some (96, 3)⟩), (2000000030, ⟨[.sl 1000000000 0 (n - 1), vb off], false, 2, none⟩)] (.tup [i64 0, .vs [] 0]) := by
  refine Con.newB (j := 76) (b1 := ⟨rowsI L, true, 0, some (96, 3)⟩) ?_ (by omega) (by omega) rfl rfl (ids0_tup (ids0_flat rfl) (ids0_flat rfl))
  have hrl := rowsI_len L
  refine Con.of (C := ⟨Try.prog, tc, Try.f33.ntmps⟩) [76, 1000000000, 2000000030] tcok Try.func33 rfl rfl (by kernel_rfl) (by kernel_rfl) ?_
  refine xe0 [0, 3, 4, 5] [1000000000, 2000000030, 3, 5] (by kernel_rfl) ?_
  refine xe0 [0, 3, 4, 5, 6] [3, 5, 1000000000, 2000000030] (by kernel_rfl) ?_
  refine AWP.seq ?_
  refine xe0 [0, 3, 4, 5, 6, 20, 21, 22] [1000000000, 2000000030, 3, 5] (by kernel_rfl) ?_
  refine AWP.block ?_
  refine AWP.loopI [22, 21, 20, 3, 6, 0, 4, 5] [3, 5, 1000000000, 2000000030] (fun N s' => ∃ (i A : Int), s' = St.mk [(0, T.plain (V.ptr 2000000030 0)), (3, T.plain (V.ptr 3 0)), (4, T.plain (i64 0)), (5, T.plain (V.sl 5 0 0)), (6, T.plain (i64 A)), (20, T.plain (V.sl 1000000000 0 n)), (21, T.plain (i64 (n : Int))), (22, T.plain (i64 i))] [(3, Blk.mk [u8 d, u32 t, u16 id, V.vs (u8s c) k, i32 b, vb on] true 6 none), (5, Blk.mk [] true 0 (some (61, 1))), (1000000000, Blk.mk (rowsI L) true 0 (some (96, 3))), (2000000030, Blk.mk [V.sl 1000000000 0 n, vb off] false 2 none)] ∧ A = atP id L i.toNat ∧ 0 ≤ i ∧ i ≤ n ∧ (N : Int) = n - i) n (s0 := St.mk [(0, T.plain (V.ptr 2000000030 0)), (3, T.plain (V.ptr 3 0)), (4, T.plain (i64 0)), (5, T.plain (V.sl 5 0 0)), (6, T.plain (i64 (-1))), (20, T.plain (V.sl 1000000000 0 n)), (21, T.plain (i64 (n : Int))), (22, T.plain (i64 0))] [(3, Blk.mk [u8 d, u32 t, u16 id, V.vs (u8s c) k, i32 b, vb on] true 6 none), (5, Blk.mk [] true 0 (some (61, 1))), (1000000000, Blk.mk (rowsI L) true 0 (some (96, 3))), (2000000030, Blk.mk [V.sl 1000000000 0 n, vb off] false 2 none)]) (by kernel_rfl) ?_ ?_
  · exact ⟨0, -1, rfl, rfl, by omega, by omega, by omega⟩
  rintro N s' ⟨i, A, rfl, hA, hi, hin, hN⟩
  by_cases hlt : i < n
  · obtain ⟨a, ha⟩ : ∃ a, L[i.toNat]? = some a := ⟨_, List.getElem?_eq_getElem (by omega)⟩
    have wr := rowsI_at ha
    have e := atP_at (id := id) ha
    rw [show i.toNat + 1 = (i + 1).toNat by omega] at e
    by_cases hid : a.id = id
    · rw [if_pos hid, Int.toNat_of_nonneg hi] at e
      refine xe0 [0, 3, 4, 5, 6, 20, 21, 22, 23] [3, 5, 1000000000, 2000000030] (by kernel_rfl) ?_
      refine AWP.seq ?_
      refine AWP.cond (b := decide (i < (↑n : Int))) (by kernel_rfl) (fun hq0 => ?_) (fun hq0 => ?_)
      · simp only [decide_eq_true_eq] at hq0
        refine AWP.skip ?_
        refine AWP.seq ?_
        refine AWP.block ?_
        refine xe1 (os := [(0 : Int) ≤ i ∧ i < (↑n : Int), V.ptr 1000000000 (0 + Int.toNat i * 3) = V.ptr 1000000000 (0 + Int.toNat i * 3), (0 : Nat) + Int.toNat i * (3 : Nat) + (3 : Nat) ≤ List.length (rowsI L), V.agg true (List.take 3 (List.drop (0 + Int.toNat i * 3) (rowsI L))) = V.agg true [u32 a.t, u16 a.id, V.vs (u8s a.c) a.k]]) [(1, ⟨some (V.ptr 1000000000 (0 + Int.toNat i * 3)), none⟩), (2, ⟨some (V.agg true (It.row a)), none⟩)] [0, 3, 4, 5, 6, 7, 8, 20, 21, 22] [1000000000, 2000000030, 3, 5, 8] (by kernel_rfl) ⟨(by omega), rfl, (by first | omega | (simp [len_u8s]; done) | (simp [len_u8s]; omega)), (congrArg (V.agg true) (wr )), trivial⟩ ?_
        refine xe0 [0, 3, 4, 5, 6, 7, 20, 21, 22, 31] [1000000000, 2000000030, 3, 5] (by kernel_rfl) ?_
        refine AWP.cond (b := a.id == id) (by kernel_rfl) (fun hq1 => ?_) (fun hq1 => ?_)
        · simp only [beq_iff_eq] at hq1
          refine AWP.region tcok hmix [] (os := []) (sf := St.mk [(0, tp (V.ptr 2000000030 0)), (3, tp (V.ptr 3 0)), (4, tp (i64 0)), (5, tp (V.sl 5 0 0)), (6, tp (i64 i)), (7, tp (i64 i)), (20, tp (V.sl 1000000000 0 n)), (21, tp (i64 (↑n : Int))), (22, tp (i64 i)), (31, tp (vb (a.id == id))), (32, tp (i64 i))] [(3, Blk.mk [u8 d, u32 t, u16 id, V.vs (u8s c) k, i32 b, vb on] true 6 none), (5, Blk.mk [] true 0 (some (61, 1))), (1000000000, Blk.mk (rowsI L) true 0 (some (96, 3))), (2000000030, Blk.mk [V.sl 1000000000 0 n, vb off] false 2 none)]) (by kernel_rfl) trivial ?_
          refine AWP.keep' [0, 3, 4, 5, 6, 20, 21, 22] [1000000000, 2000000030, 3, 5] (sf := St.mk [(0, tp (V.ptr 2000000030 0)), (3, tp (V.ptr 3 0)), (4, tp (i64 0)), (5, tp (V.sl 5 0 0)), (6, tp (i64 i)), (20, tp (V.sl 1000000000 0 n)), (21, tp (i64 (↑n : Int))), (22, tp (i64 i))] [(3, Blk.mk [u8 d, u32 t, u16 id, V.vs (u8s c) k, i32 b, vb on] true 6 none), (5, Blk.mk [] true 0 (some (61, 1))), (1000000000, Blk.mk (rowsI L) true 0 (some (96, 3))), (2000000030, Blk.mk [V.sl 1000000000 0 n, vb off] false 2 none)]) (by kernel_rfl) ?_
          refine AWP.region tcok hmix [(0, ⟨some (i64 (i + 1)), none⟩)] (os := [i64 (IntKind.wrap IntKind.i64 (i + 1)) = i64 (i + 1)]) (sf := St.mk [(0, tp (V.ptr 2000000030 0)), (3, tp (V.ptr 3 0)), (4, tp (i64 0)), (5, tp (V.sl 5 0 0)), (6, tp (i64 i)), (20, tp (V.sl 1000000000 0 n)), (21, tp (i64 (↑n : Int))), (22, tp (i64 (i + 1))), (33, tp (i64 (i + 1)))] [(3, Blk.mk [u8 d, u32 t, u16 id, V.vs (u8s c) k, i32 b, vb on] true 6 none), (5, Blk.mk [] true 0 (some (61, 1))), (1000000000, Blk.mk (rowsI L) true 0 (some (96, 3))), (2000000030, Blk.mk [V.sl 1000000000 0 n, vb off] false 2 none)]) (by kernel_rfl) ⟨(wr_i64 (by omega) (by omega)), trivial⟩ ?_
          refine ⟨St.mk [(0, tp (V.ptr 2000000030 0)), (3, tp (V.ptr 3 0)), (4, tp (i64 0)), (5, tp (V.sl 5 0 0)), (6, tp (i64 i)), (20, tp (V.sl 1000000000 0 n)), (21, tp (i64 (↑n : Int))), (22, tp (i64 (i + 1)))] [(3, Blk.mk [u8 d, u32 t, u16 id, V.vs (u8s c) k, i32 b, vb on] true 6 none), (5, Blk.mk [] true 0 (some (61, 1))), (1000000000, Blk.mk (rowsI L) true 0 (some (96, 3))), (2000000030, Blk.mk [V.sl 1000000000 0 n, vb off] false 2 none)], by kernel_rfl, ?_⟩
          first | (exact ⟨(n - (i + 1)).toNat, (by omega), i + 1, i, rfl, e.symm, (by omega), (by omega), (by omega)⟩) | (exfalso; omega)
        simp only [beq_eq_false_iff_ne] at hq1
        (exfalso; omega)
      simp only [decide_eq_false_iff_not] at hq0
      (exfalso; omega)
    · rw [if_neg hid, ← hA] at e
      refine xe0 [0, 3, 4, 5, 6, 20, 21, 22, 23] [3, 5, 1000000000, 2000000030] (by kernel_rfl) ?_
      refine AWP.seq ?_
      refine AWP.cond (b := decide (i < (↑n : Int))) (by kernel_rfl) (fun hq2 => ?_) (fun hq2 => ?_)
      · simp only [decide_eq_true_eq] at hq2
        refine AWP.skip ?_
        refine AWP.seq ?_
        refine AWP.block ?_
        refine xe1 (os := [(0 : Int) ≤ i ∧ i < (↑n : Int), V.ptr 1000000000 (0 + Int.toNat i * 3) = V.ptr 1000000000 (0 + Int.toNat i * 3), (0 : Nat) + Int.toNat i * (3 : Nat) + (3 : Nat) ≤ List.length (rowsI L), V.agg true (List.take 3 (List.drop (0 + Int.toNat i * 3) (rowsI L))) = V.agg true [u32 a.t, u16 a.id, V.vs (u8s a.c) a.k]]) [(1, ⟨some (V.ptr 1000000000 (0 + Int.toNat i * 3)), none⟩), (2, ⟨some (V.agg true (It.row a)), none⟩)] [0, 3, 4, 5, 6, 7, 8, 20, 21, 22] [1000000000, 2000000030, 3, 5, 8] (by kernel_rfl) ⟨(by omega), rfl, (by first | omega | (simp [len_u8s]; done) | (simp [len_u8s]; omega)), (congrArg (V.agg true) (wr )), trivial⟩ ?_
        refine xe0 [0, 3, 4, 5, 6, 7, 20, 21, 22, 31] [1000000000, 2000000030, 3, 5] (by kernel_rfl) ?_
        refine AWP.cond (b := a.id == id) (by kernel_rfl) (fun hq3 => ?_) (fun hq3 => ?_)
        · simp only [beq_iff_eq] at hq3
          (exfalso; omega)
        simp only [beq_eq_false_iff_ne] at hq3
        refine AWP.skip ?_
        refine AWP.region tcok hmix [(0, ⟨some (i64 (i + 1)), none⟩)] (os := [i64 (IntKind.wrap IntKind.i64 (i + 1)) = i64 (i + 1)]) (sf := St.mk [(0, tp (V.ptr 2000000030 0)), (3, tp (V.ptr 3 0)), (4, tp (i64 0)), (5, tp (V.sl 5 0 0)), (6, tp (i64 A)), (7, tp (i64 i)), (20, tp (V.sl 1000000000 0 n)), (21, tp (i64 (↑n : Int))), (22, tp (i64 (i + 1))), (31, tp (vb (a.id == id))), (33, tp (i64 (i + 1)))] [(3, Blk.mk [u8 d, u32 t, u16 id, V.vs (u8s c) k, i32 b, vb on] true 6 none), (5, Blk.mk [] true 0 (some (61, 1))), (1000000000, Blk.mk (rowsI L) true 0 (some (96, 3))), (2000000030, Blk.mk [V.sl 1000000000 0 n, vb off] false 2 none)]) (by kernel_rfl) ⟨(wr_i64 (by omega) (by omega)), trivial⟩ ?_
        refine ⟨St.mk [(0, tp (V.ptr 2000000030 0)), (3, tp (V.ptr 3 0)), (4, tp (i64 0)), (5, tp (V.sl 5 0 0)), (6, tp (i64 A)), (20, tp (V.sl 1000000000 0 n)), (21, tp (i64 (↑n : Int))), (22, tp (i64 (i + 1)))] [(3, Blk.mk [u8 d, u32 t, u16 id, V.vs (u8s c) k, i32 b, vb on] true 6 none), (5, Blk.mk [] true 0 (some (61, 1))), (1000000000, Blk.mk (rowsI L) true 0 (some (96, 3))), (2000000030, Blk.mk [V.sl 1000000000 0 n, vb off] false 2 none)], by kernel_rfl, ?_⟩
        first | (exact ⟨(n - (i + 1)).toNat, (by omega), i + 1, A, rfl, e.symm, (by omega), (by omega), (by omega)⟩) | (exfalso; omega)
      simp only [decide_eq_false_iff_not] at hq2
      (exfalso; omega)
  have hin2 : i = n := by omega
  subst hin2
  clear hN hlt hi hin
  rw [Int.toNat_natCast] at hA
  rw [hat] at hA
  subst hA
  have e1 : Int.toNat ((k0 : Int) + 1) = k0 + 1 := by omega
  have e2 : Int.toNat (n : Int) = n := Int.toNat_natCast n
  have e3 := take_drop1 L n k0 hn hk0
  rw [hL'] at e3
  by_cases hlast : k0 + 1 < n
  · refine AWP.seq ?_
    refine xg0 [0, 3, 4, 5, 6, 20, 21, 22, 23] [3, 5, 1000000000, 2000000030] (by kernel_rfl) ?_
    refine AWP.seq ?_
    refine AWP.cond (b := decide ((↑n : Int) < (↑n : Int))) (by kernel_rfl) (fun hq4 => ?_) (fun hq4 => ?_)
    · simp only [decide_eq_true_eq] at hq4
      (exfalso; omega)
    simp only [decide_eq_false_iff_not] at hq4
    refine AWP.exit ?_
    refine xe0 [0, 3, 4, 5, 6, 9] [1000000000, 2000000030, 3, 5, 9] (by kernel_rfl) ?_
    refine AWP.seq ?_
    refine xe1 (os := [(8 : Int) ≠ (0 : Int), u8 (Int.tmod d 8) = u8 (d % 8)]) [(2, ⟨some (u8 (d % 8)), none⟩)] [0, 3, 4, 5, 6, 9, 36] [1000000000, 2000000030, 3, 5, 9] (by kernel_rfl) ⟨(by omega), (tm_ (by omega)), trivial⟩ ?_
    refine AWP.block ?_
    refine xe0 [0, 3, 4, 5, 6, 9, 36, 71] [1000000000, 2000000030, 3, 5, 9] (by kernel_rfl) ?_
    refine AWP.cond (b := d % 8 == 3) (by kernel_rfl) (fun hq5 => ?_) (fun hq5 => ?_)
    · simp only [beq_iff_eq] at hq5
      refine AWP.seq ?_
      refine xe0 [0, 4, 5, 6, 9, 74] [1000000000, 2000000030, 5, 9] (by kernel_rfl) ?_
      refine AWP.condF (by kernel_rfl) ?_
      refine AWP.skip ?_
      refine AWP.regionP tcok hmix [0, 1, 2, 3, 4, 5, 6, 7, 9, 10, 11, 12, 13, 14, 15, 8, 16, 17, 18, 19] [0, 1, 2, 3, 4, 5, 6, 7, 15, 8, 9, 10, 11, 12, 13, 14, 16, 17, 18, 19] (by kernel_rfl) [(7, ⟨some (V.sl 1000000000 0 (Int.toNat (↑k0 : Int))), none⟩), (13, ⟨some (i64 ((↑k0 : Int) + 1)), none⟩), (14, ⟨some (V.sl 1000000000 (0 + Int.toNat ((↑k0 : Int) + 1) * 3) (Int.toNat (↑n : Int) - Int.toNat ((↑k0 : Int) + 1))), none⟩), (15, ⟨some (V.tup [V.agg true (List.take (Int.toNat (↑k0 : Int) * 3) (rowsI L)), V.sl 0 0 (0 + Int.toNat (↑k0 : Int))]), none⟩), (16, ⟨some (V.tup [V.agg true (List.take (Int.toNat (↑k0 : Int) * 3) (rowsI L) ++ List.take ((Int.toNat (↑n : Int) - Int.toNat ((↑k0 : Int) + 1)) * 3) (List.drop (0 + Int.toNat ((↑k0 : Int) + 1) * 3) (rowsI L))), V.sl 0 0 (0 + Int.toNat (↑k0 : Int) + (Int.toNat (↑n : Int) - Int.toNat ((↑k0 : Int) + 1)))]), none⟩)] (os := [(0 : Int) ≤ (↑k0 : Int) ∧ (↑k0 : Int) ≤ (↑n : Int), V.sl 1000000000 0 (Int.toNat (↑k0 : Int)) = V.sl 1000000000 0 (Int.toNat (↑k0 : Int)), i64 (IntKind.wrap IntKind.i64 ((↑k0 : Int) + 1)) = i64 ((↑k0 : Int) + 1), (0 : Int) ≤ (↑k0 : Int) + (1 : Int) ∧ (↑k0 : Int) + (1 : Int) < (↑n : Int) ∧ (↑n : Int) ≤ (↑n : Int), V.sl 1000000000 (0 + Int.toNat ((↑k0 : Int) + 1) * 3) (Int.toNat (↑n : Int) - Int.toNat ((↑k0 : Int) + 1)) = V.sl 1000000000 (0 + Int.toNat ((↑k0 : Int) + 1) * 3) (Int.toNat (↑n : Int) - Int.toNat ((↑k0 : Int) + 1)), (0 : Nat) + Int.toNat (↑k0 : Int) * (3 : Nat) ≤ List.length (rowsI L), (0 : Nat) = (0 : Nat), (0 : Nat) + Int.toNat (↑k0 : Int) ≤ (9223372036854775807 : Nat), ((0 : Nat) + Int.toNat (↑k0 : Int)) * (32 : Nat) ≤ (140737488355328 : Nat), [] ++ List.take (Int.toNat (↑k0 : Int) * (3 : Nat)) (List.drop (0 : Nat) (rowsI L)) = List.take (Int.toNat (↑k0 : Int) * (3 : Nat)) (rowsI L), (0 : Nat) + Int.toNat (↑k0 : Int) = (0 : Nat) + Int.toNat (↑k0 : Int), (0 : Nat) + Int.toNat ((↑k0 : Int) + (1 : Int)) * (3 : Nat) + (Int.toNat (↑n : Int) - Int.toNat ((↑k0 : Int) + (1 : Int))) * (3 : Nat) ≤ List.length (rowsI L), ((0 : Nat) + Int.toNat (↑k0 : Int)) * (3 : Nat) = List.length (List.take (Int.toNat (↑k0 : Int) * (3 : Nat)) (rowsI L)), (0 : Nat) + Int.toNat (↑k0 : Int) + (Int.toNat (↑n : Int) - Int.toNat ((↑k0 : Int) + (1 : Int))) ≤ (9223372036854775807 : Nat), ((0 : Nat) + Int.toNat (↑k0 : Int) + (Int.toNat (↑n : Int) - Int.toNat ((↑k0 : Int) + (1 : Int)))) * (32 : Nat) ≤ (140737488355328 : Nat), List.take (Int.toNat (↑k0 : Int) * (3 : Nat)) (rowsI L) ++ List.take ((Int.toNat (↑n : Int) - Int.toNat ((↑k0 : Int) + (1 : Int))) * (3 : Nat)) (List.drop ((0 : Nat) + Int.toNat ((↑k0 : Int) + (1 : Int)) * (3 : Nat)) (rowsI L)) = List.take (Int.toNat (↑k0 : Int) * (3 : Nat)) (rowsI L) ++ List.take ((Int.toNat (↑n : Int) - Int.toNat ((↑k0 : Int) + (1 : Int))) * (3 : Nat)) (List.drop ((0 : Nat) + Int.toNat ((↑k0 : Int) + (1 : Int)) * (3 : Nat)) (rowsI L)), (0 : Nat) + Int.toNat (↑k0 : Int) + (Int.toNat (↑n : Int) - Int.toNat ((↑k0 : Int) + (1 : Int))) = (0 : Nat) + Int.toNat (↑k0 : Int) + (Int.toNat (↑n : Int) - Int.toNat ((↑k0 : Int) + (1 : Int)))]) (sf := St.mk [(0, tp (V.ptr 2000000030 0)), (4, tp (i64 0)), (5, tp (V.sl 5 0 0)), (6, tp (i64 (↑k0 : Int))), (9, tp (V.sl 9 0 0)), (74, tp (vb false)), (75, tp (V.ptr 2000000030 0)), (76, tp V.top), (77, tp (V.ptr 2000000030 0)), (78, tp (V.ptr 2000000030 0)), (79, tp (V.ptr 2000000030 0)), (80, tp (V.sl 1000000000 0 n)), (81, tp (i64 (↑k0 : Int))), (82, tp (V.sl 1000000000 0 (Int.toNat (↑k0 : Int)))), (83, tp V.top), (84, tp (V.ptr 2000000030 0)), (85, tp (V.ptr 2000000030 0)), (86, tp (V.ptr 2000000030 0)), (87, tp (V.sl 1000000000 0 n)), (88, tp (i64 (↑k0 : Int))), (89, tp (i64 ((↑k0 : Int) + 1))), (90, tp (V.sl 1000000000 (0 + Int.toNat ((↑k0 : Int) + 1) * 3) (Int.toNat (↑n : Int) - Int.toNat ((↑k0 : Int) + 1)))), (91, tp (V.sl 76 0 (0 + Int.toNat (↑k0 : Int) + (Int.toNat (↑n : Int) - Int.toNat ((↑k0 : Int) + 1))))), (92, tp (V.ptr 2000000030 0)), (93, tp (V.ptr 2000000030 0))] [(5, Blk.mk [] true 0 (some (61, 1))), (9, Blk.mk [] true 0 (some (61, 1))), (76, Blk.mk (List.take (Int.toNat (↑k0 : Int) * 3) (rowsI L) ++ List.take ((Int.toNat (↑n : Int) - Int.toNat ((↑k0 : Int) + 1)) * 3) (List.drop (0 + Int.toNat ((↑k0 : Int) + 1) * 3) (rowsI L))) true 0 (some (96, 3))), (1000000000, Blk.mk (rowsI L) true 0 (some (96, 3))), (2000000030, Blk.mk [V.sl 76 0 (0 + Int.toNat (↑k0 : Int) + (Int.toNat (↑n : Int) - Int.toNat ((↑k0 : Int) + 1))), vb off] false 2 none)]) (by kernel_rfl) ⟨(by omega), rfl, (wr_i64 (by omega) (by omega)), (by omega), rfl, (by first | omega | (simp [len_u8s]; done) | (simp [len_u8s]; omega)), (by omega), (by omega), (by omega), (by first | rfl | (show u8s ([]) ++ _ = _; simp only [u8s_drop, u8s_take, List.drop_zero, Nat.mul_one, Nat.one_mul, u8s_app, List.take_length, List.nil_append, List.append_nil]; done) | (simp [u8s]; done) | (simp [u8s]; omega)), (by omega), (by first | omega | (simp [len_u8s]; done) | (simp [len_u8s]; omega)), (by (simp [len_u8s]; omega)), (by omega), (by omega), (by first | rfl | (simp only [u8s_drop, u8s_take, List.drop_zero, Nat.mul_one, Nat.one_mul, u8s_app, List.take_length, List.nil_append, List.append_nil]; done) | (simp [u8s]; done) | (simp [u8s]; omega)), (by omega), trivial⟩ ?_
      refine AWP.keep' [4, 5, 9] [1000000000, 2000000030, 5, 9, 76] (sf := St.mk [(4, tp (i64 0)), (5, tp (V.sl 5 0 0)), (9, tp (V.sl 9 0 0))] [(5, Blk.mk [] true 0 (some (61, 1))), (9, Blk.mk [] true 0 (some (61, 1))), (76, Blk.mk (List.take (Int.toNat (↑k0 : Int) * 3) (rowsI L) ++ List.take ((Int.toNat (↑n : Int) - Int.toNat ((↑k0 : Int) + 1)) * 3) (List.drop (0 + Int.toNat ((↑k0 : Int) + 1) * 3) (rowsI L))) true 0 (some (96, 3))), (1000000000, Blk.mk (rowsI L) true 0 (some (96, 3))), (2000000030, Blk.mk [V.sl 76 0 (0 + Int.toNat (↑k0 : Int) + (Int.toNat (↑n : Int) - Int.toNat ((↑k0 : Int) + 1))), vb off] false 2 none)]) (by kernel_rfl) ?_
      refine AWP.seq ?_
      refine AWP.keep' [9] [1000000000, 2000000030, 9, 76] (sf := St.mk [(9, tp (V.sl 9 0 0))] [(9, Blk.mk [] true 0 (some (61, 1))), (76, Blk.mk (List.take (Int.toNat (↑k0 : Int) * 3) (rowsI L) ++ List.take ((Int.toNat (↑n : Int) - Int.toNat ((↑k0 : Int) + 1)) * 3) (List.drop (0 + Int.toNat ((↑k0 : Int) + 1) * 3) (rowsI L))) true 0 (some (96, 3))), (1000000000, Blk.mk (rowsI L) true 0 (some (96, 3))), (2000000030, Blk.mk [V.sl 76 0 (0 + Int.toNat (↑k0 : Int) + (Int.toNat (↑n : Int) - Int.toNat ((↑k0 : Int) + 1))), vb off] false 2 none)]) (by kernel_rfl) ?_
      refine xg0 [4, 5] [1000000000, 2000000030, 9, 76] (by kernel_rfl) ?_
      refine AWP.frz 9 (s' := St.mk [(4, tp (i64 0)), (5, tp (V.vs [] 0))] [(76, Blk.mk (List.take (Int.toNat (↑k0 : Int) * 3) (rowsI L) ++ List.take ((Int.toNat (↑n : Int) - Int.toNat ((↑k0 : Int) + 1)) * 3) (List.drop (0 + Int.toNat ((↑k0 : Int) + 1) * 3) (rowsI L))) true 0 (some (96, 3))), (1000000000, Blk.mk (rowsI L) true 0 (some (96, 3))), (2000000030, Blk.mk [V.sl 76 0 (0 + Int.toNat (↑k0 : Int) + (Int.toNat (↑n : Int) - Int.toNat ((↑k0 : Int) + 1))), vb off] false 2 none)]) (by kernel_rfl) ?_
      refine AWP.ret ?_
      refine ⟨Or.inr rfl, Eq.trans (b := some ([(76, Blk.mk (List.take (Int.toNat (↑k0 : Int) * 3) (rowsI L) ++ List.take ((Int.toNat (↑n : Int) - Int.toNat ((↑k0 : Int) + 1)) * 3) (List.drop (0 + Int.toNat ((↑k0 : Int) + 1) * 3) (rowsI L))) true 0 (some (96, 3))), (1000000000, Blk.mk (rowsI L) true 0 (some (96, 3))), (2000000030, Blk.mk [V.sl 76 0 (0 + Int.toNat (↑k0 : Int) + (Int.toNat (↑n : Int) - Int.toNat ((↑k0 : Int) + 1))), vb off] false 2 none)], V.tup [i64 0, V.vs [] 0])) (by kernel_rfl) ?_⟩
      first | (simp only [Int.toNat_natCast, e1, Nat.zero_add]; rw [e3, show k0 + (n - (k0 + 1)) = n - 1 by omega]) | (exfalso; omega)
    simp only [beq_eq_false_iff_ne] at hq5
    (exfalso; omega)
  · rw [show n - (k0 + 1) = 0 by omega, Nat.zero_mul, List.take_zero, List.append_nil] at e3
    refine xe0 [0, 3, 4, 5, 6, 20, 21, 22, 23] [3, 5, 1000000000, 2000000030] (by kernel_rfl) ?_
    refine AWP.seq ?_
    refine AWP.cond (b := decide ((↑n : Int) < (↑n : Int))) (by kernel_rfl) (fun hq7 => ?_) (fun hq7 => ?_)
    · simp only [decide_eq_true_eq] at hq7
      (exfalso; omega)
    simp only [decide_eq_false_iff_not] at hq7
    refine AWP.exit ?_
    refine xe0 [0, 3, 4, 5, 6, 9] [1000000000, 2000000030, 3, 5, 9] (by kernel_rfl) ?_
    refine AWP.seq ?_
    refine xe1 (os := [(8 : Int) ≠ (0 : Int), u8 (Int.tmod d 8) = u8 (d % 8)]) [(2, ⟨some (u8 (d % 8)), none⟩)] [0, 3, 4, 5, 6, 9, 36] [1000000000, 2000000030, 3, 5, 9] (by kernel_rfl) ⟨(by omega), (tm_ (by omega)), trivial⟩ ?_
    refine AWP.block ?_
    refine xe0 [0, 3, 4, 5, 6, 9, 36, 71] [1000000000, 2000000030, 3, 5, 9] (by kernel_rfl) ?_
    refine AWP.cond (b := d % 8 == 3) (by kernel_rfl) (fun hq8 => ?_) (fun hq8 => ?_)
    · simp only [beq_iff_eq] at hq8
      refine AWP.seq ?_
      refine xe0 [0, 4, 5, 6, 9, 74] [1000000000, 2000000030, 5, 9] (by kernel_rfl) ?_
      refine AWP.condF (by kernel_rfl) ?_
      refine AWP.skip ?_
      refine AWP.regionP tcok hmix [0, 1, 2, 3, 4, 5, 6, 7, 9, 10, 11, 12, 13, 14, 15, 8, 16, 17, 18, 19] [0, 1, 2, 3, 4, 5, 6, 7, 15, 8, 9, 10, 11, 12, 13, 14, 16, 17, 18, 19] (by kernel_rfl) [(7, ⟨some (V.sl 1000000000 0 (Int.toNat (↑k0 : Int))), none⟩), (13, ⟨some (i64 ((↑k0 : Int) + 1)), none⟩), (14, ⟨some (V.vs [] 0), none⟩), (15, ⟨some (V.tup [V.agg true (List.take (Int.toNat (↑k0 : Int) * 3) (rowsI L)), V.sl 0 0 (0 + Int.toNat (↑k0 : Int))]), none⟩), (16, ⟨some (V.tup [V.agg true (List.take (Int.toNat (↑k0 : Int) * 3) (rowsI L)), V.sl 0 0 (0 + Int.toNat (↑k0 : Int) + 0)]), none⟩)] (os := [(0 : Int) ≤ (↑k0 : Int) ∧ (↑k0 : Int) ≤ (↑n : Int), V.sl 1000000000 0 (Int.toNat (↑k0 : Int)) = V.sl 1000000000 0 (Int.toNat (↑k0 : Int)), i64 (IntKind.wrap IntKind.i64 ((↑k0 : Int) + 1)) = i64 ((↑k0 : Int) + 1), (0 : Int) ≤ (↑k0 : Int) + (1 : Int) ∧ (↑k0 : Int) + (1 : Int) = (↑n : Int) ∧ (↑n : Int) ≤ (↑n : Int), V.vs [] 0 = V.vs [] 0, (0 : Nat) + Int.toNat (↑k0 : Int) * (3 : Nat) ≤ List.length (rowsI L), (0 : Nat) = (0 : Nat), (0 : Nat) + Int.toNat (↑k0 : Int) ≤ (9223372036854775807 : Nat), ((0 : Nat) + Int.toNat (↑k0 : Int)) * (32 : Nat) ≤ (140737488355328 : Nat), [] ++ List.take (Int.toNat (↑k0 : Int) * (3 : Nat)) (List.drop (0 : Nat) (rowsI L)) = List.take (Int.toNat (↑k0 : Int) * (3 : Nat)) (rowsI L), (0 : Nat) + Int.toNat (↑k0 : Int) = (0 : Nat) + Int.toNat (↑k0 : Int), (0 : Nat) ≤ (0 : Nat), ((0 : Nat) + Int.toNat (↑k0 : Int)) * (3 : Nat) = List.length (List.take (Int.toNat (↑k0 : Int) * (3 : Nat)) (rowsI L)), (0 : Nat) + Int.toNat (↑k0 : Int) + (0 : Nat) ≤ (9223372036854775807 : Nat), ((0 : Nat) + Int.toNat (↑k0 : Int) + (0 : Nat)) * (32 : Nat) ≤ (140737488355328 : Nat), List.take (Int.toNat (↑k0 : Int) * (3 : Nat)) (rowsI L) ++ List.take ((0 : Nat) * (3 : Nat)) [] = List.take (Int.toNat (↑k0 : Int) * (3 : Nat)) (rowsI L), (0 : Nat) + Int.toNat (↑k0 : Int) + (0 : Nat) = (0 : Nat) + Int.toNat (↑k0 : Int) + (0 : Nat)]) (sf := St.mk [(0, tp (V.ptr 2000000030 0)), (4, tp (i64 0)), (5, tp (V.sl 5 0 0)), (6, tp (i64 (↑k0 : Int))), (9, tp (V.sl 9 0 0)), (74, tp (vb false)), (75, tp (V.ptr 2000000030 0)), (76, tp V.top), (77, tp (V.ptr 2000000030 0)), (78, tp (V.ptr 2000000030 0)), (79, tp (V.ptr 2000000030 0)), (80, tp (V.sl 1000000000 0 n)), (81, tp (i64 (↑k0 : Int))), (82, tp (V.sl 1000000000 0 (Int.toNat (↑k0 : Int)))), (83, tp V.top), (84, tp (V.ptr 2000000030 0)), (85, tp (V.ptr 2000000030 0)), (86, tp (V.ptr 2000000030 0)), (87, tp (V.sl 1000000000 0 n)), (88, tp (i64 (↑k0 : Int))), (89, tp (i64 ((↑k0 : Int) + 1))), (90, tp (V.vs [] 0)), (91, tp (V.sl 76 0 (0 + Int.toNat (↑k0 : Int) + 0))), (92, tp (V.ptr 2000000030 0)), (93, tp (V.ptr 2000000030 0))] [(5, Blk.mk [] true 0 (some (61, 1))), (9, Blk.mk [] true 0 (some (61, 1))), (76, Blk.mk (List.take (Int.toNat (↑k0 : Int) * 3) (rowsI L)) true 0 (some (96, 3))), (1000000000, Blk.mk (rowsI L) true 0 (some (96, 3))), (2000000030, Blk.mk [V.sl 76 0 (0 + Int.toNat (↑k0 : Int) + 0), vb off] false 2 none)]) (by kernel_rfl) ⟨(by omega), rfl, (wr_i64 (by omega) (by omega)), (by omega), rfl, (by first | omega | (simp [len_u8s]; done) | (simp [len_u8s]; omega)), (by omega), (by omega), (by omega), (by first | rfl | (show u8s ([]) ++ _ = _; simp only [u8s_drop, u8s_take, List.drop_zero, Nat.mul_one, Nat.one_mul, u8s_app, List.take_length, List.nil_append, List.append_nil]; done) | (simp [u8s]; done) | (simp [u8s]; omega)), (by omega), (by omega), (by (simp [len_u8s]; omega)), (by omega), (by omega), (by first | rfl | (simp only [u8s_drop, u8s_take, List.drop_zero, Nat.mul_one, Nat.one_mul, u8s_app, List.take_length, List.nil_append, List.append_nil]; done) | (simp [u8s]; done) | (simp [u8s]; omega)), (by omega), trivial⟩ ?_
      refine AWP.keep' [4, 5, 9] [1000000000, 2000000030, 5, 9, 76] (sf := St.mk [(4, tp (i64 0)), (5, tp (V.sl 5 0 0)), (9, tp (V.sl 9 0 0))] [(5, Blk.mk [] true 0 (some (61, 1))), (9, Blk.mk [] true 0 (some (61, 1))), (76, Blk.mk (List.take (Int.toNat (↑k0 : Int) * 3) (rowsI L)) true 0 (some (96, 3))), (1000000000, Blk.mk (rowsI L) true 0 (some (96, 3))), (2000000030, Blk.mk [V.sl 76 0 (0 + Int.toNat (↑k0 : Int) + 0), vb off] false 2 none)]) (by kernel_rfl) ?_
      refine AWP.seq ?_
      refine AWP.keep' [9] [1000000000, 2000000030, 9, 76] (sf := St.mk [(9, tp (V.sl 9 0 0))] [(9, Blk.mk [] true 0 (some (61, 1))), (76, Blk.mk (List.take (Int.toNat (↑k0 : Int) * 3) (rowsI L)) true 0 (some (96, 3))), (1000000000, Blk.mk (rowsI L) true 0 (some (96, 3))), (2000000030, Blk.mk [V.sl 76 0 (0 + Int.toNat (↑k0 : Int) + 0), vb off] false 2 none)]) (by kernel_rfl) ?_
      refine xg0 [4, 5] [1000000000, 2000000030, 9, 76] (by kernel_rfl) ?_
      refine AWP.frz 9 (s' := St.mk [(4, tp (i64 0)), (5, tp (V.vs [] 0))] [(76, Blk.mk (List.take (Int.toNat (↑k0 : Int) * 3) (rowsI L)) true 0 (some (96, 3))), (1000000000, Blk.mk (rowsI L) true 0 (some (96, 3))), (2000000030, Blk.mk [V.sl 76 0 (0 + Int.toNat (↑k0 : Int) + 0), vb off] false 2 none)]) (by kernel_rfl) ?_
      refine AWP.ret ?_
      refine ⟨Or.inr rfl, Eq.trans (b := some ([(76, Blk.mk (List.take (Int.toNat (↑k0 : Int) * 3) (rowsI L)) true 0 (some (96, 3))), (1000000000, Blk.mk (rowsI L) true 0 (some (96, 3))), (2000000030, Blk.mk [V.sl 76 0 (0 + Int.toNat (↑k0 : Int) + 0), vb off] false 2 none)], V.tup [i64 0, V.vs [] 0])) (by kernel_rfl) ?_⟩
      first | (simp only [Int.toNat_natCast, e1, Nat.zero_add, Nat.add_zero]; rw [e3, show k0 = n - 1 by omega]) | (exfalso; omega)
    simp only [beq_eq_false_iff_ne] at hq8
    (exfalso; omega)
end Go.Proofs.Ytlfjnkobnkfioaa
