/- The document's plan: a call that shifts. Printed by pln_do2.py. -/
import Derived.Test.YtlfjnkobnkfioaaRg
import Derived.Test.YtlfjnkobnkfioaaPlnX
namespace Go.Proofs.Ytlfjnkobnkfioaa
open Go.Ab
set_option maxRecDepth 100000
set_option maxHeartbeats 8000000
set_option linter.unusedSimpArgs false
set_option linter.unusedVariables false
theorem con_do_shift (L : List It) (n : Nat) (hn : L.length = n) (hm : n ≤ 1000) (off : Bool) (d t id b : Int) (hd : 0 ≤ d ∧ d < 256) (c : List Int) (k : Nat) (on : Bool) (hd8 : d % 8 = 5) (hL : ∀ a ∈ L, 0 ≤ a.t ∧ a.t ≤ 4294967295) (hb : -2147483648 ≤ b ∧ b ≤ 2147483647) (L' : List It) (hL' : L.map (shI b) = L') :
    Con Try.prog 33 [(1000000000, ⟨rowsI L, true, 0, some (96, 3)⟩), (2000000030, ⟨[.sl 1000000000 0 n, vb off], false, 2, none⟩)] [.ptr 2000000030 0, .agg true [u8 d, u32 t, u16 id, .vs (u8s c) k, i32 b, vb on]]
      [(1000000000, ⟨rowsI L', true, 0, some (96, 3)⟩), (2000000030, ⟨[.sl 1000000000 0 n, vb off], false, 2, none⟩)] (.tup [i64 (n : Int), .vs [] 0]) := by
  have hrl := rowsI_len L
  refine Con.of (C := ⟨Try.prog, tc, Try.f33.ntmps⟩) [1000000000, 2000000030] tcok Try.func33 rfl rfl (by kernel_rfl) (by kernel_rfl) ?_
  refine xe0 [0, 3, 4, 5] [1000000000, 2000000030, 3, 5] (by kernel_rfl) ?_
  refine xe0 [0, 3, 4, 5, 6] [3, 5, 1000000000, 2000000030] (by kernel_rfl) ?_
  refine AWP.seq ?_
  refine xe0 [0, 3, 4, 5, 6, 20, 21, 22] [1000000000, 2000000030, 3, 5] (by kernel_rfl) ?_
  refine AWP.block ?_
  refine AWP.loopI [22, 21, 20, 3, 6, 0, 4, 5] [3, 5, 1000000000, 2000000030] (fun N s' => ∃ (i A : Int), s' = St.mk [(0, T.plain (V.ptr 2000000030 0)), (3, T.plain (V.ptr 3 0)), (4, T.plain (i64 0)), (5, T.plain (V.sl 5 0 0)), (6, T.plain (i64 A)), (20, T.plain (V.sl 1000000000 0 n)), (21, T.plain (i64 (n : Int))), (22, T.plain (i64 i))] [(3, Blk.mk [u8 d, u32 t, u16 id, V.vs (u8s c) k, i32 b, vb on] true 6 none), (5, Blk.mk [] true 0 (some (61, 1))), (1000000000, Blk.mk (rowsI L) true 0 (some (96, 3))), (2000000030, Blk.mk [V.sl 1000000000 0 n, vb off] false 2 none)] ∧ A = atP id L i.toNat ∧ 0 ≤ i ∧ i ≤ n ∧ (N : Int) = n - i) n (s0 := St.mk [(0, T.plain (V.ptr 2000000030 0)), (3, T.plain (V.ptr 3 0)), (4, T.plain (i64 0)), (5, T.plain (V.sl 5 0 0)), (6, T.plain (i64 (-1))), (20, T.plain (V.sl 1000000000 0 n)), (21, T.plain (i64 (n : Int))), (22, T.plain (i64 0))] [(3, Blk.mk [u8 d, u32 t, u16 id, V.vs (u8s c) k, i32 b, vb on] true 6 none), (5, Blk.mk [] true 0 (some (61, 1))), (1000000000, Blk.mk (rowsI L) true 0 (some (96, 3))), (2000000030, Blk.mk [V.sl 1000000000 0 n, vb off] false 2 none)]) (by kernel_rfl) ?_ ?_
  · exact ⟨0, -1, rfl, rfl, by omega, by omega, by omega⟩
  rintro N s' ⟨i, A, rfl, hA, hi, hin, hN⟩
  by_cases hlt : i < n
  · obtain ⟨a, ha⟩ : ∃ a, L[i.toNat]? = some a := ⟨_, List.getElem?_eq_getElem (by omega)⟩
    have wr := rowsI_at ha
    have e := atP_at (id := id) ha
    rw [show i.toNat + 1 = (i + 1).toNat by omega] at e
    by_cases hid : a.id = id
    · rw [if_pos hid, Int.toNat_of_nonneg hi] at e
      refine xe0 [0, 3, 4, 5, 6, 20, 21, 22, 23] [3, 5, 1000000000, 2000000030] (by kernel_rfl) ?_
      refine AWP.seq ?_
      refine AWP.cond (b := decide (i < (↑n : Int))) (by kernel_rfl) (fun hq0 => ?_) (fun hq0 => ?_)
      · simp only [decide_eq_true_eq] at hq0
        refine AWP.skip ?_
        refine AWP.seq ?_
        refine AWP.block ?_
        refine xe1 (os := [(0 : Int) ≤ i ∧ i < (↑n : Int), V.ptr 1000000000 (0 + Int.toNat i * 3) = V.ptr 1000000000 (0 + Int.toNat i * 3), (0 : Nat) + Int.toNat i * (3 : Nat) + (3 : Nat) ≤ List.length (rowsI L), V.agg true (List.take 3 (List.drop (0 + Int.toNat i * 3) (rowsI L))) = V.agg true [u32 a.t, u16 a.id, V.vs (u8s a.c) a.k]]) [(1, ⟨some (V.ptr 1000000000 (0 + Int.toNat i * 3)), none⟩), (2, ⟨some (V.agg true (It.row a)), none⟩)] [0, 3, 4, 5, 6, 7, 8, 20, 21, 22] [1000000000, 2000000030, 3, 5, 8] (by kernel_rfl) ⟨(by omega), rfl, (by first | omega | (simp [len_u8s]; done) | (simp [len_u8s]; omega)), (congrArg (V.agg true) (wr )), trivial⟩ ?_
        refine xe0 [0, 3, 4, 5, 6, 7, 20, 21, 22, 31] [1000000000, 2000000030, 3, 5] (by kernel_rfl) ?_
        refine AWP.cond (b := a.id == id) (by kernel_rfl) (fun hq1 => ?_) (fun hq1 => ?_)
        · simp only [beq_iff_eq] at hq1
          refine AWP.region tcok hmix [] (os := []) (sf := St.mk [(0, tp (V.ptr 2000000030 0)), (3, tp (V.ptr 3 0)), (4, tp (i64 0)), (5, tp (V.sl 5 0 0)), (6, tp (i64 i)), (7, tp (i64 i)), (20, tp (V.sl 1000000000 0 n)), (21, tp (i64 (↑n : Int))), (22, tp (i64 i)), (31, tp (vb (a.id == id))), (32, tp (i64 i))] [(3, Blk.mk [u8 d, u32 t, u16 id, V.vs (u8s c) k, i32 b, vb on] true 6 none), (5, Blk.mk [] true 0 (some (61, 1))), (1000000000, Blk.mk (rowsI L) true 0 (some (96, 3))), (2000000030, Blk.mk [V.sl 1000000000 0 n, vb off] false 2 none)]) (by kernel_rfl) trivial ?_
          refine AWP.keep' [0, 3, 4, 5, 6, 20, 21, 22] [1000000000, 2000000030, 3, 5] (sf := St.mk [(0, tp (V.ptr 2000000030 0)), (3, tp (V.ptr 3 0)), (4, tp (i64 0)), (5, tp (V.sl 5 0 0)), (6, tp (i64 i)), (20, tp (V.sl 1000000000 0 n)), (21, tp (i64 (↑n : Int))), (22, tp (i64 i))] [(3, Blk.mk [u8 d, u32 t, u16 id, V.vs (u8s c) k, i32 b, vb on] true 6 none), (5, Blk.mk [] true 0 (some (61, 1))), (1000000000, Blk.mk (rowsI L) true 0 (some (96, 3))), (2000000030, Blk.mk [V.sl 1000000000 0 n, vb off] false 2 none)]) (by kernel_rfl) ?_
          refine AWP.region tcok hmix [(0, ⟨some (i64 (i + 1)), none⟩)] (os := [i64 (IntKind.wrap IntKind.i64 (i + 1)) = i64 (i + 1)]) (sf := St.mk [(0, tp (V.ptr 2000000030 0)), (3, tp (V.ptr 3 0)), (4, tp (i64 0)), (5, tp (V.sl 5 0 0)), (6, tp (i64 i)), (20, tp (V.sl 1000000000 0 n)), (21, tp (i64 (↑n : Int))), (22, tp (i64 (i + 1))), (33, tp (i64 (i + 1)))] [(3, Blk.mk [u8 d, u32 t, u16 id, V.vs (u8s c) k, i32 b, vb on] true 6 none), (5, Blk.mk [] true 0 (some (61, 1))), (1000000000, Blk.mk (rowsI L) true 0 (some (96, 3))), (2000000030, Blk.mk [V.sl 1000000000 0 n, vb off] false 2 none)]) (by kernel_rfl) ⟨(wr_i64 (by omega) (by omega)), trivial⟩ ?_
          refine ⟨St.mk [(0, tp (V.ptr 2000000030 0)), (3, tp (V.ptr 3 0)), (4, tp (i64 0)), (5, tp (V.sl 5 0 0)), (6, tp (i64 i)), (20, tp (V.sl 1000000000 0 n)), (21, tp (i64 (↑n : Int))), (22, tp (i64 (i + 1)))] [(3, Blk.mk [u8 d, u32 t, u16 id, V.vs (u8s c) k, i32 b, vb on] true 6 none), (5, Blk.mk [] true 0 (some (61, 1))), (1000000000, Blk.mk (rowsI L) true 0 (some (96, 3))), (2000000030, Blk.mk [V.sl 1000000000 0 n, vb off] false 2 none)], by kernel_rfl, ?_⟩
          first | (exact ⟨(n - (i + 1)).toNat, (by omega), i + 1, i, rfl, e.symm, (by omega), (by omega), (by omega)⟩) | (exfalso; omega)
        simp only [beq_eq_false_iff_ne] at hq1
        (exfalso; omega)
      simp only [decide_eq_false_iff_not] at hq0
      (exfalso; omega)
    · rw [if_neg hid, ← hA] at e
      refine xe0 [0, 3, 4, 5, 6, 20, 21, 22, 23] [3, 5, 1000000000, 2000000030] (by kernel_rfl) ?_
      refine AWP.seq ?_
      refine AWP.cond (b := decide (i < (↑n : Int))) (by kernel_rfl) (fun hq2 => ?_) (fun hq2 => ?_)
      · simp only [decide_eq_true_eq] at hq2
        refine AWP.skip ?_
        refine AWP.seq ?_
        refine AWP.block ?_
        refine xe1 (os := [(0 : Int) ≤ i ∧ i < (↑n : Int), V.ptr 1000000000 (0 + Int.toNat i * 3) = V.ptr 1000000000 (0 + Int.toNat i * 3), (0 : Nat) + Int.toNat i * (3 : Nat) + (3 : Nat) ≤ List.length (rowsI L), V.agg true (List.take 3 (List.drop (0 + Int.toNat i * 3) (rowsI L))) = V.agg true [u32 a.t, u16 a.id, V.vs (u8s a.c) a.k]]) [(1, ⟨some (V.ptr 1000000000 (0 + Int.toNat i * 3)), none⟩), (2, ⟨some (V.agg true (It.row a)), none⟩)] [0, 3, 4, 5, 6, 7, 8, 20, 21, 22] [1000000000, 2000000030, 3, 5, 8] (by kernel_rfl) ⟨(by omega), rfl, (by first | omega | (simp [len_u8s]; done) | (simp [len_u8s]; omega)), (congrArg (V.agg true) (wr )), trivial⟩ ?_
        refine xe0 [0, 3, 4, 5, 6, 7, 20, 21, 22, 31] [1000000000, 2000000030, 3, 5] (by kernel_rfl) ?_
        refine AWP.cond (b := a.id == id) (by kernel_rfl) (fun hq3 => ?_) (fun hq3 => ?_)
        · simp only [beq_iff_eq] at hq3
          (exfalso; omega)
        simp only [beq_eq_false_iff_ne] at hq3
        refine AWP.skip ?_
        refine AWP.region tcok hmix [(0, ⟨some (i64 (i + 1)), none⟩)] (os := [i64 (IntKind.wrap IntKind.i64 (i + 1)) = i64 (i + 1)]) (sf := St.mk [(0, tp (V.ptr 2000000030 0)), (3, tp (V.ptr 3 0)), (4, tp (i64 0)), (5, tp (V.sl 5 0 0)), (6, tp (i64 A)), (7, tp (i64 i)), (20, tp (V.sl 1000000000 0 n)), (21, tp (i64 (↑n : Int))), (22, tp (i64 (i + 1))), (31, tp (vb (a.id == id))), (33, tp (i64 (i + 1)))] [(3, Blk.mk [u8 d, u32 t, u16 id, V.vs (u8s c) k, i32 b, vb on] true 6 none), (5, Blk.mk [] true 0 (some (61, 1))), (1000000000, Blk.mk (rowsI L) true 0 (some (96, 3))), (2000000030, Blk.mk [V.sl 1000000000 0 n, vb off] false 2 none)]) (by kernel_rfl) ⟨(wr_i64 (by omega) (by omega)), trivial⟩ ?_
        refine ⟨St.mk [(0, tp (V.ptr 2000000030 0)), (3, tp (V.ptr 3 0)), (4, tp (i64 0)), (5, tp (V.sl 5 0 0)), (6, tp (i64 A)), (20, tp (V.sl 1000000000 0 n)), (21, tp (i64 (↑n : Int))), (22, tp (i64 (i + 1)))] [(3, Blk.mk [u8 d, u32 t, u16 id, V.vs (u8s c) k, i32 b, vb on] true 6 none), (5, Blk.mk [] true 0 (some (61, 1))), (1000000000, Blk.mk (rowsI L) true 0 (some (96, 3))), (2000000030, Blk.mk [V.sl 1000000000 0 n, vb off] false 2 none)], by kernel_rfl, ?_⟩
        first | (exact ⟨(n - (i + 1)).toNat, (by omega), i + 1, A, rfl, e.symm, (by omega), (by omega), (by omega)⟩) | (exfalso; omega)
      simp only [decide_eq_false_iff_not] at hq2
      (exfalso; omega)
  have hin2 : i = n := by omega
  subst hin2
  clear hN hlt hi hin
  rw [Int.toNat_natCast] at hA
  refine xe0 [0, 3, 4, 5, 6, 20, 21, 22, 23] [3, 5, 1000000000, 2000000030] (by kernel_rfl) ?_
  refine AWP.seq ?_
  refine AWP.cond (b := decide ((↑n : Int) < (↑n : Int))) (by kernel_rfl) (fun hq4 => ?_) (fun hq4 => ?_)
  · simp only [decide_eq_true_eq] at hq4
    (exfalso; omega)
  simp only [decide_eq_false_iff_not] at hq4
  refine AWP.exit ?_
  refine xe0 [0, 3, 4, 5, 6, 9] [1000000000, 2000000030, 3, 5, 9] (by kernel_rfl) ?_
  refine AWP.seq ?_
  refine xe1 (os := [(8 : Int) ≠ (0 : Int), u8 (Int.tmod d 8) = u8 (d % 8)]) [(2, ⟨some (u8 (d % 8)), none⟩)] [0, 3, 4, 5, 6, 9, 36] [1000000000, 2000000030, 3, 5, 9] (by kernel_rfl) ⟨(by omega), (tm_ (by omega)), trivial⟩ ?_
  refine AWP.block ?_
  refine xe0 [0, 3, 4, 5, 6, 9, 36, 71] [1000000000, 2000000030, 3, 5, 9] (by kernel_rfl) ?_
  refine AWP.cond (b := d % 8 == 3) (by kernel_rfl) (fun hq5 => ?_) (fun hq5 => ?_)
  · simp only [beq_iff_eq] at hq5
    (exfalso; omega)
  simp only [beq_eq_false_iff_ne] at hq5
  refine xe0 [0, 3, 4, 5, 6, 9, 36, 94] [1000000000, 2000000030, 3, 5, 9] (by kernel_rfl) ?_
  refine AWP.cond (b := d % 8 == 4) (by kernel_rfl) (fun hq6 => ?_) (fun hq6 => ?_)
  · simp only [beq_iff_eq] at hq6
    (exfalso; omega)
  simp only [beq_eq_false_iff_ne] at hq6
  refine xe0 [0, 3, 4, 5, 6, 9, 36, 128] [1000000000, 2000000030, 3, 5, 9] (by kernel_rfl) ?_
  refine AWP.cond (b := d % 8 == 5) (by kernel_rfl) (fun hq7 => ?_) (fun hq7 => ?_)
  rotate_left
  · simp only [beq_eq_false_iff_ne] at hq7
    (exfalso; omega)
  simp only [beq_iff_eq] at hq7
  refine AWP.seq ?_
  refine xe0 [0, 3, 4, 5, 9, 133, 134, 135] [1000000000, 2000000030, 3, 5, 9] (by kernel_rfl) ?_
  refine AWP.block ?_
  refine AWP.loopI [135, 134, 133, 3, 0, 9, 4, 5] [3, 5, 9, 1000000000, 2000000030] (fun N s' => ∃ (i : Int) (S : List It), s' = St.mk [(0, T.plain (V.ptr 2000000030 0)), (3, T.plain (V.ptr 3 0)), (4, T.plain (i64 0)), (5, T.plain (V.sl 5 0 0)), (9, T.plain (V.sl 9 0 0)), (133, T.plain (V.sl 1000000000 0 n)), (134, T.plain (i64 (n : Int))), (135, T.plain (i64 i))] [(3, Blk.mk [u8 d, u32 t, u16 id, V.vs (u8s c) k, i32 b, vb on] true 6 none), (5, Blk.mk [] true 0 (some (61, 1))), (9, Blk.mk [] true 0 (some (61, 1))), (1000000000, Blk.mk (rowsI S) true 0 (some (96, 3))), (2000000030, Blk.mk [V.sl 1000000000 0 n, vb off] false 2 none)] ∧ 0 ≤ i ∧ i ≤ n ∧ S = (L.take i.toNat).map (shI b) ++ L.drop i.toNat ∧ (N : Int) = n - i) n (s0 := St.mk [(0, T.plain (V.ptr 2000000030 0)), (3, T.plain (V.ptr 3 0)), (4, T.plain (i64 0)), (5, T.plain (V.sl 5 0 0)), (9, T.plain (V.sl 9 0 0)), (133, T.plain (V.sl 1000000000 0 n)), (134, T.plain (i64 (n : Int))), (135, T.plain (i64 0))] [(3, Blk.mk [u8 d, u32 t, u16 id, V.vs (u8s c) k, i32 b, vb on] true 6 none), (5, Blk.mk [] true 0 (some (61, 1))), (9, Blk.mk [] true 0 (some (61, 1))), (1000000000, Blk.mk (rowsI L) true 0 (some (96, 3))), (2000000030, Blk.mk [V.sl 1000000000 0 n, vb off] false 2 none)]) (by kernel_rfl) ?_ ?_
  · exact ⟨0, L, rfl, by omega, by omega, by simp, by omega⟩
  rintro N s' ⟨i, S, rfl, hi, hin, hS, hN⟩
  have hSl : S.length = n := by rw [hS]; simp; omega
  have hsl := rowsI_len S
  by_cases hlt : i < n
  · obtain ⟨a, ha⟩ : ∃ a, L[i.toNat]? = some a := ⟨_, List.getElem?_eq_getElem (by omega)⟩
    have ha2 : S[i.toNat]? = some a := by
      rw [hS, List.getElem?_append_right (by simp; omega)]
      simp only [List.length_map, List.length_take, List.getElem?_drop]
      rw [← ha]
      congr 1
      omega
    have wr := rowsI_at ha2
    have hat := hL a (List.mem_of_getElem? ha)
    have e1 := rowsI_putT ha2 (shT b a.t) (1 == 1)
    have e2 := sh_next ha hS
    have e4 : i.toNat + 1 = (i + 1).toNat := by omega
    rw [e4] at e2
    by_cases c1 : a.t + b < 0
    · have e3 : (0 : Int) = shT b a.t := by
        unfold shT
        simp only [Int.min_def, Int.max_def]
        (repeat' split) <;> omega
      refine xe0 [0, 3, 4, 5, 9, 133, 134, 135, 136] [3, 5, 9, 1000000000, 2000000030] (by kernel_rfl) ?_
      refine AWP.seq ?_
      refine AWP.cond (b := decide (i < (↑n : Int))) (by kernel_rfl) (fun hq8 => ?_) (fun hq8 => ?_)
      · simp only [decide_eq_true_eq] at hq8
        refine AWP.skip ?_
        refine AWP.seq ?_
        refine AWP.block ?_
        refine xe1 (os := [(0 : Int) ≤ i ∧ i < (↑n : Int), V.ptr 1000000000 (0 + Int.toNat i * 3) = V.ptr 1000000000 (0 + Int.toNat i * 3), (0 : Nat) + Int.toNat i * (3 : Nat) + (3 : Nat) ≤ List.length (rowsI S), V.agg true (List.take 3 (List.drop (0 + Int.toNat i * 3) (rowsI S))) = V.agg true [u32 a.t, u16 a.id, V.vs (u8s a.c) a.k]]) [(1, ⟨some (V.ptr 1000000000 (0 + Int.toNat i * 3)), none⟩), (2, ⟨some (V.agg true (It.row a)), none⟩)] [0, 3, 4, 5, 9, 13, 14, 133, 134, 135] [1000000000, 2000000030, 3, 5, 9, 14] (by kernel_rfl) ⟨(by omega), rfl, (by first | omega | (simp [len_u8s]; done) | (simp [len_u8s]; omega)), (congrArg (V.agg true) (wr )), trivial⟩ ?_
        refine xe1 (os := [i64 (IntKind.wrap IntKind.i64 a.t) = i64 a.t, i64 (IntKind.wrap IntKind.i64 b) = i64 b, i64 (IntKind.wrap IntKind.i64 (a.t + b)) = i64 (a.t + b)]) [(2, ⟨some (i64 a.t), none⟩), (5, ⟨some (i64 b), none⟩), (6, ⟨some (i64 (a.t + b)), none⟩)] [0, 3, 4, 5, 9, 13, 15, 133, 134, 135] [1000000000, 2000000030, 3, 5, 9] (by kernel_rfl) ⟨(wr_i64 (by omega) (by omega)), (wr_i64 (by omega) (by omega)), (wr_i64 (by omega) (by omega)), trivial⟩ ?_
        refine AWP.seq ?_
        refine xe0 [0, 3, 4, 5, 9, 13, 15, 133, 134, 135, 148] [1000000000, 2000000030, 3, 5, 9] (by kernel_rfl) ?_
        refine AWP.cond (b := decide (a.t + b < 0)) (by kernel_rfl) (fun hq9 => ?_) (fun hq9 => ?_)
        · simp only [decide_eq_true_eq] at hq9
          refine xg0 [0, 3, 4, 5, 9, 13, 15, 133, 134, 135] [1000000000, 2000000030, 3, 5, 9] (by kernel_rfl) ?_
          refine AWP.seq ?_
          refine xe0 [0, 3, 4, 5, 9, 13, 15, 133, 134, 135, 150] [1000000000, 2000000030, 3, 5, 9] (by kernel_rfl) ?_
          refine AWP.condF (by kernel_rfl) ?_
          refine AWP.skip ?_
          refine AWP.region tcok hmix [(7, ⟨some (V.ptr 1000000000 (0 + Int.toNat i * 3)), none⟩), (9, ⟨some V.top, none⟩)] (os := [(0 : Int) ≤ i ∧ i < (↑n : Int), V.ptr 1000000000 (0 + Int.toNat i * 3) = V.ptr 1000000000 (0 + Int.toNat i * 3), (1 : Nat) = (1 : Nat), (0 : Nat) + Int.toNat i * (3 : Nat) + (0 : Nat) + (1 : Nat) ≤ List.length (rowsI S)]) (sf := St.mk [(0, tp (V.ptr 2000000030 0)), (3, tp (V.ptr 3 0)), (4, tp (i64 0)), (5, tp (V.sl 5 0 0)), (9, tp (V.sl 9 0 0)), (13, tp (i64 i)), (15, tp (i64 0)), (133, tp (V.sl 1000000000 0 n)), (134, tp (i64 (↑n : Int))), (135, tp (i64 i)), (150, tp (vb false)), (151, tp (V.ptr 2000000030 0)), (152, tp (V.ptr 2000000030 0)), (153, tp (V.ptr 2000000030 0)), (154, tp (V.sl 1000000000 0 n)), (155, tp (i64 i)), (156, tp (i64 0)), (157, tp (u32 0)), (158, tp (V.ptr 1000000000 (0 + Int.toNat i * 3))), (159, tp (V.ptr 1000000000 (0 + Int.toNat i * 3 + 0)))] [(3, Blk.mk [u8 d, u32 t, u16 id, V.vs (u8s c) k, i32 b, vb on] true 6 none), (5, Blk.mk [] true 0 (some (61, 1))), (9, Blk.mk [] true 0 (some (61, 1))), (1000000000, Blk.mk (putC (1 == 1) (rowsI S) (0 + Int.toNat i * 3 + 0) [u32 0]) true 0 (some (96, 3))), (2000000030, Blk.mk [V.sl 1000000000 0 n, vb off] false 2 none)]) (by kernel_rfl) ⟨(by omega), rfl, (by omega), (by first | omega | (simp [len_u8s]; done) | (simp [len_u8s]; omega)), trivial⟩ ?_
          refine AWP.keep' [0, 3, 4, 5, 9, 133, 134, 135] [1000000000, 2000000030, 3, 5, 9] (sf := St.mk [(0, tp (V.ptr 2000000030 0)), (3, tp (V.ptr 3 0)), (4, tp (i64 0)), (5, tp (V.sl 5 0 0)), (9, tp (V.sl 9 0 0)), (133, tp (V.sl 1000000000 0 n)), (134, tp (i64 (↑n : Int))), (135, tp (i64 i))] [(3, Blk.mk [u8 d, u32 t, u16 id, V.vs (u8s c) k, i32 b, vb on] true 6 none), (5, Blk.mk [] true 0 (some (61, 1))), (9, Blk.mk [] true 0 (some (61, 1))), (1000000000, Blk.mk (putC (1 == 1) (rowsI S) (0 + Int.toNat i * 3 + 0) [u32 0]) true 0 (some (96, 3))), (2000000030, Blk.mk [V.sl 1000000000 0 n, vb off] false 2 none)]) (by kernel_rfl) ?_
          refine AWP.region tcok hmix [(0, ⟨some (i64 (i + 1)), none⟩)] (os := [i64 (IntKind.wrap IntKind.i64 (i + 1)) = i64 (i + 1)]) (sf := St.mk [(0, tp (V.ptr 2000000030 0)), (3, tp (V.ptr 3 0)), (4, tp (i64 0)), (5, tp (V.sl 5 0 0)), (9, tp (V.sl 9 0 0)), (133, tp (V.sl 1000000000 0 n)), (134, tp (i64 (↑n : Int))), (135, tp (i64 (i + 1))), (160, tp (i64 (i + 1)))] [(3, Blk.mk [u8 d, u32 t, u16 id, V.vs (u8s c) k, i32 b, vb on] true 6 none), (5, Blk.mk [] true 0 (some (61, 1))), (9, Blk.mk [] true 0 (some (61, 1))), (1000000000, Blk.mk (putC (1 == 1) (rowsI S) (0 + Int.toNat i * 3 + 0) [u32 0]) true 0 (some (96, 3))), (2000000030, Blk.mk [V.sl 1000000000 0 n, vb off] false 2 none)]) (by kernel_rfl) ⟨(wr_i64 (by omega) (by omega)), trivial⟩ ?_
          refine ⟨St.mk [(0, tp (V.ptr 2000000030 0)), (3, tp (V.ptr 3 0)), (4, tp (i64 0)), (5, tp (V.sl 5 0 0)), (9, tp (V.sl 9 0 0)), (133, tp (V.sl 1000000000 0 n)), (134, tp (i64 (↑n : Int))), (135, tp (i64 (i + 1)))] [(3, Blk.mk [u8 d, u32 t, u16 id, V.vs (u8s c) k, i32 b, vb on] true 6 none), (5, Blk.mk [] true 0 (some (61, 1))), (9, Blk.mk [] true 0 (some (61, 1))), (1000000000, Blk.mk (putC (1 == 1) (rowsI S) (0 + Int.toNat i * 3 + 0) [u32 0]) true 0 (some (96, 3))), (2000000030, Blk.mk [V.sl 1000000000 0 n, vb off] false 2 none)], by kernel_rfl, ?_⟩
          first | (exact ⟨(n - (i + 1)).toNat, (by omega), i + 1, _, (by rw [e3, e1]; rfl), (by omega), (by omega), e2, (by omega)⟩) | (exfalso; omega)
        simp only [decide_eq_false_iff_not] at hq9
        (exfalso; omega)
      simp only [decide_eq_false_iff_not] at hq8
      (exfalso; omega)
    · by_cases c2 : a.t + b > 4294967295
      · have e3 : (4294967295 : Int) = shT b a.t := by
          unfold shT
          simp only [Int.min_def, Int.max_def]
          (repeat' split) <;> omega
        refine xe0 [0, 3, 4, 5, 9, 133, 134, 135, 136] [3, 5, 9, 1000000000, 2000000030] (by kernel_rfl) ?_
        refine AWP.seq ?_
        refine AWP.cond (b := decide (i < (↑n : Int))) (by kernel_rfl) (fun hq11 => ?_) (fun hq11 => ?_)
        · simp only [decide_eq_true_eq] at hq11
          refine AWP.skip ?_
          refine AWP.seq ?_
          refine AWP.block ?_
          refine xe1 (os := [(0 : Int) ≤ i ∧ i < (↑n : Int), V.ptr 1000000000 (0 + Int.toNat i * 3) = V.ptr 1000000000 (0 + Int.toNat i * 3), (0 : Nat) + Int.toNat i * (3 : Nat) + (3 : Nat) ≤ List.length (rowsI S), V.agg true (List.take 3 (List.drop (0 + Int.toNat i * 3) (rowsI S))) = V.agg true [u32 a.t, u16 a.id, V.vs (u8s a.c) a.k]]) [(1, ⟨some (V.ptr 1000000000 (0 + Int.toNat i * 3)), none⟩), (2, ⟨some (V.agg true (It.row a)), none⟩)] [0, 3, 4, 5, 9, 13, 14, 133, 134, 135] [1000000000, 2000000030, 3, 5, 9, 14] (by kernel_rfl) ⟨(by omega), rfl, (by first | omega | (simp [len_u8s]; done) | (simp [len_u8s]; omega)), (congrArg (V.agg true) (wr )), trivial⟩ ?_
          refine xe1 (os := [i64 (IntKind.wrap IntKind.i64 a.t) = i64 a.t, i64 (IntKind.wrap IntKind.i64 b) = i64 b, i64 (IntKind.wrap IntKind.i64 (a.t + b)) = i64 (a.t + b)]) [(2, ⟨some (i64 a.t), none⟩), (5, ⟨some (i64 b), none⟩), (6, ⟨some (i64 (a.t + b)), none⟩)] [0, 3, 4, 5, 9, 13, 15, 133, 134, 135] [1000000000, 2000000030, 3, 5, 9] (by kernel_rfl) ⟨(wr_i64 (by omega) (by omega)), (wr_i64 (by omega) (by omega)), (wr_i64 (by omega) (by omega)), trivial⟩ ?_
          refine AWP.seq ?_
          refine xe0 [0, 3, 4, 5, 9, 13, 15, 133, 134, 135, 148] [1000000000, 2000000030, 3, 5, 9] (by kernel_rfl) ?_
          refine AWP.cond (b := decide (a.t + b < 0)) (by kernel_rfl) (fun hq12 => ?_) (fun hq12 => ?_)
          · simp only [decide_eq_true_eq] at hq12
            (exfalso; omega)
          simp only [decide_eq_false_iff_not] at hq12
          refine AWP.skip ?_
          refine AWP.seq ?_
          refine xe0 [0, 3, 4, 5, 9, 13, 15, 133, 134, 135, 150] [1000000000, 2000000030, 3, 5, 9] (by kernel_rfl) ?_
          refine AWP.cond (b := decide (a.t + b > 4294967295)) (by kernel_rfl) (fun hq13 => ?_) (fun hq13 => ?_)
          · simp only [decide_eq_true_eq] at hq13
            refine xg0 [0, 3, 4, 5, 9, 13, 15, 133, 134, 135] [1000000000, 2000000030, 3, 5, 9] (by kernel_rfl) ?_
            refine AWP.region tcok hmix [(7, ⟨some (V.ptr 1000000000 (0 + Int.toNat i * 3)), none⟩), (9, ⟨some V.top, none⟩)] (os := [(0 : Int) ≤ i ∧ i < (↑n : Int), V.ptr 1000000000 (0 + Int.toNat i * 3) = V.ptr 1000000000 (0 + Int.toNat i * 3), (1 : Nat) = (1 : Nat), (0 : Nat) + Int.toNat i * (3 : Nat) + (0 : Nat) + (1 : Nat) ≤ List.length (rowsI S)]) (sf := St.mk [(0, tp (V.ptr 2000000030 0)), (3, tp (V.ptr 3 0)), (4, tp (i64 0)), (5, tp (V.sl 5 0 0)), (9, tp (V.sl 9 0 0)), (13, tp (i64 i)), (15, tp (i64 4294967295)), (133, tp (V.sl 1000000000 0 n)), (134, tp (i64 (↑n : Int))), (135, tp (i64 i)), (151, tp (V.ptr 2000000030 0)), (152, tp (V.ptr 2000000030 0)), (153, tp (V.ptr 2000000030 0)), (154, tp (V.sl 1000000000 0 n)), (155, tp (i64 i)), (156, tp (i64 4294967295)), (157, tp (u32 4294967295)), (158, tp (V.ptr 1000000000 (0 + Int.toNat i * 3))), (159, tp (V.ptr 1000000000 (0 + Int.toNat i * 3 + 0)))] [(3, Blk.mk [u8 d, u32 t, u16 id, V.vs (u8s c) k, i32 b, vb on] true 6 none), (5, Blk.mk [] true 0 (some (61, 1))), (9, Blk.mk [] true 0 (some (61, 1))), (1000000000, Blk.mk (putC (1 == 1) (rowsI S) (0 + Int.toNat i * 3 + 0) [u32 4294967295]) true 0 (some (96, 3))), (2000000030, Blk.mk [V.sl 1000000000 0 n, vb off] false 2 none)]) (by kernel_rfl) ⟨(by omega), rfl, (by omega), (by first | omega | (simp [len_u8s]; done) | (simp [len_u8s]; omega)), trivial⟩ ?_
            refine AWP.keep' [0, 3, 4, 5, 9, 133, 134, 135] [1000000000, 2000000030, 3, 5, 9] (sf := St.mk [(0, tp (V.ptr 2000000030 0)), (3, tp (V.ptr 3 0)), (4, tp (i64 0)), (5, tp (V.sl 5 0 0)), (9, tp (V.sl 9 0 0)), (133, tp (V.sl 1000000000 0 n)), (134, tp (i64 (↑n : Int))), (135, tp (i64 i))] [(3, Blk.mk [u8 d, u32 t, u16 id, V.vs (u8s c) k, i32 b, vb on] true 6 none), (5, Blk.mk [] true 0 (some (61, 1))), (9, Blk.mk [] true 0 (some (61, 1))), (1000000000, Blk.mk (putC (1 == 1) (rowsI S) (0 + Int.toNat i * 3 + 0) [u32 4294967295]) true 0 (some (96, 3))), (2000000030, Blk.mk [V.sl 1000000000 0 n, vb off] false 2 none)]) (by kernel_rfl) ?_
            refine AWP.region tcok hmix [(0, ⟨some (i64 (i + 1)), none⟩)] (os := [i64 (IntKind.wrap IntKind.i64 (i + 1)) = i64 (i + 1)]) (sf := St.mk [(0, tp (V.ptr 2000000030 0)), (3, tp (V.ptr 3 0)), (4, tp (i64 0)), (5, tp (V.sl 5 0 0)), (9, tp (V.sl 9 0 0)), (133, tp (V.sl 1000000000 0 n)), (134, tp (i64 (↑n : Int))), (135, tp (i64 (i + 1))), (160, tp (i64 (i + 1)))] [(3, Blk.mk [u8 d, u32 t, u16 id, V.vs (u8s c) k, i32 b, vb on] true 6 none), (5, Blk.mk [] true 0 (some (61, 1))), (9, Blk.mk [] true 0 (some (61, 1))), (1000000000, Blk.mk (putC (1 == 1) (rowsI S) (0 + Int.toNat i * 3 + 0) [u32 4294967295]) true 0 (some (96, 3))), (2000000030, Blk.mk [V.sl 1000000000 0 n, vb off] false 2 none)]) (by kernel_rfl) ⟨(wr_i64 (by omega) (by omega)), trivial⟩ ?_
            refine ⟨St.mk [(0, tp (V.ptr 2000000030 0)), (3, tp (V.ptr 3 0)), (4, tp (i64 0)), (5, tp (V.sl 5 0 0)), (9, tp (V.sl 9 0 0)), (133, tp (V.sl 1000000000 0 n)), (134, tp (i64 (↑n : Int))), (135, tp (i64 (i + 1)))] [(3, Blk.mk [u8 d, u32 t, u16 id, V.vs (u8s c) k, i32 b, vb on] true 6 none), (5, Blk.mk [] true 0 (some (61, 1))), (9, Blk.mk [] true 0 (some (61, 1))), (1000000000, Blk.mk (putC (1 == 1) (rowsI S) (0 + Int.toNat i * 3 + 0) [u32 4294967295]) true 0 (some (96, 3))), (2000000030, Blk.mk [V.sl 1000000000 0 n, vb off] false 2 none)], by kernel_rfl, ?_⟩
            first | (exact ⟨(n - (i + 1)).toNat, (by omega), i + 1, _, (by rw [e3, e1]; rfl), (by omega), (by omega), e2, (by omega)⟩) | (exfalso; omega)
          simp only [decide_eq_false_iff_not] at hq13
          (exfalso; omega)
        simp only [decide_eq_false_iff_not] at hq11
        (exfalso; omega)
      · have e3 : a.t + b = shT b a.t := by
          unfold shT
          simp only [Int.min_def, Int.max_def]
          (repeat' split) <;> omega
        refine xe0 [0, 3, 4, 5, 9, 133, 134, 135, 136] [3, 5, 9, 1000000000, 2000000030] (by kernel_rfl) ?_
        refine AWP.seq ?_
        refine AWP.cond (b := decide (i < (↑n : Int))) (by kernel_rfl) (fun hq14 => ?_) (fun hq14 => ?_)
        · simp only [decide_eq_true_eq] at hq14
          refine AWP.skip ?_
          refine AWP.seq ?_
          refine AWP.block ?_
          refine xe1 (os := [(0 : Int) ≤ i ∧ i < (↑n : Int), V.ptr 1000000000 (0 + Int.toNat i * 3) = V.ptr 1000000000 (0 + Int.toNat i * 3), (0 : Nat) + Int.toNat i * (3 : Nat) + (3 : Nat) ≤ List.length (rowsI S), V.agg true (List.take 3 (List.drop (0 + Int.toNat i * 3) (rowsI S))) = V.agg true [u32 a.t, u16 a.id, V.vs (u8s a.c) a.k]]) [(1, ⟨some (V.ptr 1000000000 (0 + Int.toNat i * 3)), none⟩), (2, ⟨some (V.agg true (It.row a)), none⟩)] [0, 3, 4, 5, 9, 13, 14, 133, 134, 135] [1000000000, 2000000030, 3, 5, 9, 14] (by kernel_rfl) ⟨(by omega), rfl, (by first | omega | (simp [len_u8s]; done) | (simp [len_u8s]; omega)), (congrArg (V.agg true) (wr )), trivial⟩ ?_
          refine xe1 (os := [i64 (IntKind.wrap IntKind.i64 a.t) = i64 a.t, i64 (IntKind.wrap IntKind.i64 b) = i64 b, i64 (IntKind.wrap IntKind.i64 (a.t + b)) = i64 (a.t + b)]) [(2, ⟨some (i64 a.t), none⟩), (5, ⟨some (i64 b), none⟩), (6, ⟨some (i64 (a.t + b)), none⟩)] [0, 3, 4, 5, 9, 13, 15, 133, 134, 135] [1000000000, 2000000030, 3, 5, 9] (by kernel_rfl) ⟨(wr_i64 (by omega) (by omega)), (wr_i64 (by omega) (by omega)), (wr_i64 (by omega) (by omega)), trivial⟩ ?_
          refine AWP.seq ?_
          refine xe0 [0, 3, 4, 5, 9, 13, 15, 133, 134, 135, 148] [1000000000, 2000000030, 3, 5, 9] (by kernel_rfl) ?_
          refine AWP.cond (b := decide (a.t + b < 0)) (by kernel_rfl) (fun hq15 => ?_) (fun hq15 => ?_)
          · simp only [decide_eq_true_eq] at hq15
            (exfalso; omega)
          simp only [decide_eq_false_iff_not] at hq15
          refine AWP.skip ?_
          refine AWP.seq ?_
          refine xe0 [0, 3, 4, 5, 9, 13, 15, 133, 134, 135, 150] [1000000000, 2000000030, 3, 5, 9] (by kernel_rfl) ?_
          refine AWP.cond (b := decide (a.t + b > 4294967295)) (by kernel_rfl) (fun hq16 => ?_) (fun hq16 => ?_)
          · simp only [decide_eq_true_eq] at hq16
            (exfalso; omega)
          simp only [decide_eq_false_iff_not] at hq16
          refine AWP.skip ?_
          refine AWP.region tcok hmix [(6, ⟨some (u32 (a.t + b)), none⟩), (7, ⟨some (V.ptr 1000000000 (0 + Int.toNat i * 3)), none⟩), (9, ⟨some V.top, none⟩)] (os := [u32 (IntKind.wrap IntKind.u32 (a.t + b)) = u32 (a.t + b), (0 : Int) ≤ i ∧ i < (↑n : Int), V.ptr 1000000000 (0 + Int.toNat i * 3) = V.ptr 1000000000 (0 + Int.toNat i * 3), (1 : Nat) = (1 : Nat), (0 : Nat) + Int.toNat i * (3 : Nat) + (0 : Nat) + (1 : Nat) ≤ List.length (rowsI S)]) (sf := St.mk [(0, tp (V.ptr 2000000030 0)), (3, tp (V.ptr 3 0)), (4, tp (i64 0)), (5, tp (V.sl 5 0 0)), (9, tp (V.sl 9 0 0)), (13, tp (i64 i)), (15, tp (i64 (a.t + b))), (133, tp (V.sl 1000000000 0 n)), (134, tp (i64 (↑n : Int))), (135, tp (i64 i)), (150, tp (vb (decide (a.t + b > 4294967295)))), (151, tp (V.ptr 2000000030 0)), (152, tp (V.ptr 2000000030 0)), (153, tp (V.ptr 2000000030 0)), (154, tp (V.sl 1000000000 0 n)), (155, tp (i64 i)), (156, tp (i64 (a.t + b))), (157, tp (u32 (a.t + b))), (158, tp (V.ptr 1000000000 (0 + Int.toNat i * 3))), (159, tp (V.ptr 1000000000 (0 + Int.toNat i * 3 + 0)))] [(3, Blk.mk [u8 d, u32 t, u16 id, V.vs (u8s c) k, i32 b, vb on] true 6 none), (5, Blk.mk [] true 0 (some (61, 1))), (9, Blk.mk [] true 0 (some (61, 1))), (1000000000, Blk.mk (putC (1 == 1) (rowsI S) (0 + Int.toNat i * 3 + 0) [u32 (a.t + b)]) true 0 (some (96, 3))), (2000000030, Blk.mk [V.sl 1000000000 0 n, vb off] false 2 none)]) (by kernel_rfl) ⟨(wr_u32 (by omega) (by omega)), (by omega), rfl, (by omega), (by first | omega | (simp [len_u8s]; done) | (simp [len_u8s]; omega)), trivial⟩ ?_
          refine AWP.keep' [0, 3, 4, 5, 9, 133, 134, 135] [1000000000, 2000000030, 3, 5, 9] (sf := St.mk [(0, tp (V.ptr 2000000030 0)), (3, tp (V.ptr 3 0)), (4, tp (i64 0)), (5, tp (V.sl 5 0 0)), (9, tp (V.sl 9 0 0)), (133, tp (V.sl 1000000000 0 n)), (134, tp (i64 (↑n : Int))), (135, tp (i64 i))] [(3, Blk.mk [u8 d, u32 t, u16 id, V.vs (u8s c) k, i32 b, vb on] true 6 none), (5, Blk.mk [] true 0 (some (61, 1))), (9, Blk.mk [] true 0 (some (61, 1))), (1000000000, Blk.mk (putC (1 == 1) (rowsI S) (0 + Int.toNat i * 3 + 0) [u32 (a.t + b)]) true 0 (some (96, 3))), (2000000030, Blk.mk [V.sl 1000000000 0 n, vb off] false 2 none)]) (by kernel_rfl) ?_
          refine AWP.region tcok hmix [(0, ⟨some (i64 (i + 1)), none⟩)] (os := [i64 (IntKind.wrap IntKind.i64 (i + 1)) = i64 (i + 1)]) (sf := St.mk [(0, tp (V.ptr 2000000030 0)), (3, tp (V.ptr 3 0)), (4, tp (i64 0)), (5, tp (V.sl 5 0 0)), (9, tp (V.sl 9 0 0)), (133, tp (V.sl 1000000000 0 n)), (134, tp (i64 (↑n : Int))), (135, tp (i64 (i + 1))), (160, tp (i64 (i + 1)))] [(3, Blk.mk [u8 d, u32 t, u16 id, V.vs (u8s c) k, i32 b, vb on] true 6 none), (5, Blk.mk [] true 0 (some (61, 1))), (9, Blk.mk [] true 0 (some (61, 1))), (1000000000, Blk.mk (putC (1 == 1) (rowsI S) (0 + Int.toNat i * 3 + 0) [u32 (a.t + b)]) true 0 (some (96, 3))), (2000000030, Blk.mk [V.sl 1000000000 0 n, vb off] false 2 none)]) (by kernel_rfl) ⟨(wr_i64 (by omega) (by omega)), trivial⟩ ?_
          refine ⟨St.mk [(0, tp (V.ptr 2000000030 0)), (3, tp (V.ptr 3 0)), (4, tp (i64 0)), (5, tp (V.sl 5 0 0)), (9, tp (V.sl 9 0 0)), (133, tp (V.sl 1000000000 0 n)), (134, tp (i64 (↑n : Int))), (135, tp (i64 (i + 1)))] [(3, Blk.mk [u8 d, u32 t, u16 id, V.vs (u8s c) k, i32 b, vb on] true 6 none), (5, Blk.mk [] true 0 (some (61, 1))), (9, Blk.mk [] true 0 (some (61, 1))), (1000000000, Blk.mk (putC (1 == 1) (rowsI S) (0 + Int.toNat i * 3 + 0) [u32 (a.t + b)]) true 0 (some (96, 3))), (2000000030, Blk.mk [V.sl 1000000000 0 n, vb off] false 2 none)], by kernel_rfl, ?_⟩
          first | (exact ⟨(n - (i + 1)).toNat, (by omega), i + 1, _, (by rw [e3, e1]; rfl), (by omega), (by omega), e2, (by omega)⟩) | (exfalso; omega)
        simp only [decide_eq_false_iff_not] at hq14
        (exfalso; omega)
  have hin3 : i = n := by omega
  subst hin3
  rw [Int.toNat_natCast, ← hn, List.take_length, List.drop_length, List.append_nil, hL'] at hS
  subst hS
  refine xe0 [0, 3, 4, 5, 9, 133, 134, 135, 136] [3, 5, 9, 1000000000, 2000000030] (by kernel_rfl) ?_
  refine AWP.seq ?_
  refine AWP.cond (b := decide ((↑n : Int) < (↑n : Int))) (by kernel_rfl) (fun hq17 => ?_) (fun hq17 => ?_)
  · simp only [decide_eq_true_eq] at hq17
    (exfalso; omega)
  simp only [decide_eq_false_iff_not] at hq17
  refine AWP.exit ?_
  refine AWP.seq ?_
  refine AWP.keep' [0, 9] [1000000000, 2000000030, 9] (sf := St.mk [(0, tp (V.ptr 2000000030 0)), (9, tp (V.sl 9 0 0))] [(9, Blk.mk [] true 0 (some (61, 1))), (1000000000, Blk.mk (rowsI S) true 0 (some (96, 3))), (2000000030, Blk.mk [V.sl 1000000000 0 n, vb off] false 2 none)]) (by kernel_rfl) ?_
  refine xg0 [4, 5, 9] [1000000000, 2000000030, 5, 9] (by kernel_rfl) ?_
  refine AWP.frz 5 (s' := St.mk [(4, tp (i64 (↑n : Int))), (5, tp (V.vs [] 0)), (9, tp (V.sl 9 0 0))] [(9, Blk.mk [] true 0 (some (61, 1))), (1000000000, Blk.mk (rowsI S) true 0 (some (96, 3))), (2000000030, Blk.mk [V.sl 1000000000 0 n, vb off] false 2 none)]) (by kernel_rfl) ?_
  refine AWP.ret ?_
  refine ⟨Or.inr rfl, Eq.trans (b := some ([(1000000000, Blk.mk (rowsI S) true 0 (some (96, 3))), (2000000030, Blk.mk [V.sl 1000000000 0 n, vb off] false 2 none)], V.tup [i64 (↑n : Int), V.vs [] 0])) (by kernel_rfl) ?_⟩
  first | rfl | (exfalso; omega)
end Go.Proofs.Ytlfjnkobnkfioaa
