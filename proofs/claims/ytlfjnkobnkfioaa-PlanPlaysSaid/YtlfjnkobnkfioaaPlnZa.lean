/- The document's plan: a call that tells what is due. -/
import Derived.Test.YtlfjnkobnkfioaaRg
import Derived.Test.YtlfjnkobnkfioaaPlnX
namespace Go.Proofs.Ytlfjnkobnkfioaa
open Go.Ab
set_option maxRecDepth 100000
set_option maxHeartbeats 8000000
set_option linter.unusedSimpArgs false
set_option linter.unusedVariables false
theorem due_take (t : Int) : ∀ L : List It, SortI L → L.filter (fun a => decide (a.t ≤ t)) = L.take (posI t L) ∧ L.filter (fun a => !decide (a.t ≤ t)) = L.drop (posI t L)
  | [], _ => ⟨rfl, rfl⟩
  | a :: L, hs => by
    obtain ⟨h1, h2⟩ := List.pairwise_cons.1 hs
    obtain ⟨i1, i2⟩ := due_take t L h2
    simp only [List.filter_cons, posI]
    by_cases c : a.t ≤ t
    · simp only [c, decide_true, if_true, Bool.not_true, Bool.false_eq_true, if_false, List.take_succ_cons, List.drop_succ_cons, i1, i2, and_self]
    · have h0 : posI t L = 0 := posI_none fun b hb => by have := h1 b hb; omega
      rw [h0] at i1 i2
      simp only [c, decide_false, Bool.false_eq_true, if_false, Bool.not_false, if_true, List.take_zero, List.drop_zero, i1, i2, and_self]
theorem con_do_due (L : List It) (n : Nat) (hn : L.length = n) (hm : n ≤ 1000) (off : Bool) (d t id b : Int) (hd : 0 ≤ d ∧ d < 256) (c : List Int) (k : Nat) (on : Bool) (hd8 : d % 8 = 4) (ho : off = false) (hs : SortI L) (p : Nat) (hp : posI t L = p) (L' : List It) (hL' : L.drop p = L') (n' : Nat) (hn' : n - p = n') :
    Con Try.prog 33 [(1000000000, ⟨rowsI L, true, 0, some (96, 3)⟩), (2000000030, ⟨[.sl 1000000000 0 n, vb off], false, 2, none⟩)] [.ptr 2000000030 0, .agg true [u8 d, u32 t, u16 id, .vs (u8s c) k, i32 b, vb on]]
      [(1000000000, ⟨rowsI L', true, 0, some (96, 3)⟩), (2000000030, ⟨[.sl 1000000000 0 n', vb off], false, 2, none⟩)] (.tup [i64 0, .vs (tcC (L.take p)) p]) := by
  have hpl := posI_le t L
  obtain ⟨hf1, hf2⟩ := due_take t L hs
  rw [hp] at hf1 hf2
  rw [hL'] at hf2
  refine Con.newB (j := 10) (b1 := ⟨rowsI L, true, 0, some (96, 3)⟩) ?_ (by omega) (by omega) rfl rfl (ids0_tup (ids0_flat rfl) (ids0_flat rfl))
  have hrl := rowsI_len L
  refine Con.of (C := ⟨Try.prog, tc, Try.f33.ntmps⟩) [10, 1000000000, 2000000030] tcok Try.func33 rfl rfl (by kernel_rfl) (by kernel_rfl) ?_
  refine xe0 [0, 3, 4, 5] [1000000000, 2000000030, 3, 5] (by kernel_rfl) ?_
  refine xe0 [0, 3, 4, 5, 6] [3, 5, 1000000000, 2000000030] (by kernel_rfl) ?_
  refine AWP.seq ?_
  refine xe0 [0, 3, 4, 5, 6, 20, 21, 22] [1000000000, 2000000030, 3, 5] (by kernel_rfl) ?_
  refine AWP.block ?_
  refine AWP.loopI [22, 21, 20, 3, 6, 0, 4, 5] [3, 5, 1000000000, 2000000030] (fun N s' => ∃ (i A : Int), s' = St.mk [(0, T.plain (V.ptr 2000000030 0)), (3, T.plain (V.ptr 3 0)), (4, T.plain (i64 0)), (5, T.plain (V.sl 5 0 0)), (6, T.plain (i64 A)), (20, T.plain (V.sl 1000000000 0 n)), (21, T.plain (i64 (n : Int))), (22, T.plain (i64 i))] [(3, Blk.mk [u8 d, u32 t, u16 id, V.vs (u8s c) k, i32 b, vb on] true 6 none), (5, Blk.mk [] true 0 (some (61, 1))), (1000000000, Blk.mk (rowsI L) true 0 (some (96, 3))), (2000000030, Blk.mk [V.sl 1000000000 0 n, vb off] false 2 none)] ∧ A = atP id L i.toNat ∧ 0 ≤ i ∧ i ≤ n ∧ (N : Int) = n - i) n (s0 := St.mk [(0, T.plain (V.ptr 2000000030 0)), (3, T.plain (V.ptr 3 0)), (4, T.plain (i64 0)), (5, T.plain (V.sl 5 0 0)), (6, T.plain (i64 (-1))), (20, T.plain (V.sl 1000000000 0 n)), (21, T.plain (i64 (n : Int))), (22, T.plain (i64 0))] [(3, Blk.mk [u8 d, u32 t, u16 id, V.vs (u8s c) k, i32 b, vb on] true 6 none), (5, Blk.mk [] true 0 (some (61, 1))), (1000000000, Blk.mk (rowsI L) true 0 (some (96, 3))), (2000000030, Blk.mk [V.sl 1000000000 0 n, vb off] false 2 none)]) (by kernel_rfl) ?_ ?_
  · exact ⟨0, -1, rfl, rfl, by omega, by omega, by omega⟩
  rintro N s' ⟨i, A, rfl, hA, hi, hin, hN⟩
  by_cases hlt : i < n
  · obtain ⟨a, ha⟩ : ∃ a, L[i.toNat]? = some a := ⟨_, List.getElem?_eq_getElem (by omega)⟩
    have wr := rowsI_at ha
    have e := atP_at (id := id) ha
    rw [show i.toNat + 1 = (i + 1).toNat by omega] at e
    by_cases hid : a.id = id
    · rw [if_pos hid, Int.toNat_of_nonneg hi] at e
      refine xe0 [0, 3, 4, 5, 6, 20, 21, 22, 23] [3, 5, 1000000000, 2000000030] (by kernel_rfl) ?_
      refine AWP.seq ?_
      refine AWP.cond (b := decide (i < (↑n : Int))) (by kernel_rfl) (fun hq0 => ?_) (fun hq0 => ?_)
      · simp only [decide_eq_true_eq] at hq0
        refine AWP.skip ?_
        refine AWP.seq ?_
        refine AWP.block ?_
        refine xe1 (os := [(0 : Int) ≤ i ∧ i < (↑n : Int), V.ptr 1000000000 (0 + Int.toNat i * 3) = V.ptr 1000000000 (0 + Int.toNat i * 3), (0 : Nat) + Int.toNat i * (3 : Nat) + (3 : Nat) ≤ List.length (rowsI L), V.agg true (List.take 3 (List.drop (0 + Int.toNat i * 3) (rowsI L))) = V.agg true [u32 a.t, u16 a.id, V.vs (u8s a.c) a.k]]) [(1, ⟨some (V.ptr 1000000000 (0 + Int.toNat i * 3)), none⟩), (2, ⟨some (V.agg true (It.row a)), none⟩)] [0, 3, 4, 5, 6, 7, 8, 20, 21, 22] [1000000000, 2000000030, 3, 5, 8] (by kernel_rfl) ⟨(by omega), rfl, (by first | omega | (simp [len_u8s]; done) | (simp [len_u8s]; omega)), (congrArg (V.agg true) (wr )), trivial⟩ ?_
        refine xe0 [0, 3, 4, 5, 6, 7, 20, 21, 22, 31] [1000000000, 2000000030, 3, 5] (by kernel_rfl) ?_
        refine AWP.cond (b := a.id == id) (by kernel_rfl) (fun hq1 => ?_) (fun hq1 => ?_)
        · simp only [beq_iff_eq] at hq1
          refine AWP.region tcok hmix [] (os := []) (sf := St.mk [(0, tp (V.ptr 2000000030 0)), (3, tp (V.ptr 3 0)), (4, tp (i64 0)), (5, tp (V.sl 5 0 0)), (6, tp (i64 i)), (7, tp (i64 i)), (20, tp (V.sl 1000000000 0 n)), (21, tp (i64 (↑n : Int))), (22, tp (i64 i)), (31, tp (vb (a.id == id))), (32, tp (i64 i))] [(3, Blk.mk [u8 d, u32 t, u16 id, V.vs (u8s c) k, i32 b, vb on] true 6 none), (5, Blk.mk [] true 0 (some (61, 1))), (1000000000, Blk.mk (rowsI L) true 0 (some (96, 3))), (2000000030, Blk.mk [V.sl 1000000000 0 n, vb off] false 2 none)]) (by kernel_rfl) trivial ?_
          refine AWP.keep' [0, 3, 4, 5, 6, 20, 21, 22] [1000000000, 2000000030, 3, 5] (sf := St.mk [(0, tp (V.ptr 2000000030 0)), (3, tp (V.ptr 3 0)), (4, tp (i64 0)), (5, tp (V.sl 5 0 0)), (6, tp (i64 i)), (20, tp (V.sl 1000000000 0 n)), (21, tp (i64 (↑n : Int))), (22, tp (i64 i))] [(3, Blk.mk [u8 d, u32 t, u16 id, V.vs (u8s c) k, i32 b, vb on] true 6 none), (5, Blk.mk [] true 0 (some (61, 1))), (1000000000, Blk.mk (rowsI L) true 0 (some (96, 3))), (2000000030, Blk.mk [V.sl 1000000000 0 n, vb off] false 2 none)]) (by kernel_rfl) ?_
          refine AWP.region tcok hmix [(0, ⟨some (i64 (i + 1)), none⟩)] (os := [i64 (IntKind.wrap IntKind.i64 (i + 1)) = i64 (i + 1)]) (sf := St.mk [(0, tp (V.ptr 2000000030 0)), (3, tp (V.ptr 3 0)), (4, tp (i64 0)), (5, tp (V.sl 5 0 0)), (6, tp (i64 i)), (20, tp (V.sl 1000000000 0 n)), (21, tp (i64 (↑n : Int))), (22, tp (i64 (i + 1))), (33, tp (i64 (i + 1)))] [(3, Blk.mk [u8 d, u32 t, u16 id, V.vs (u8s c) k, i32 b, vb on] true 6 none), (5, Blk.mk [] true 0 (some (61, 1))), (1000000000, Blk.mk (rowsI L) true 0 (some (96, 3))), (2000000030, Blk.mk [V.sl 1000000000 0 n, vb off] false 2 none)]) (by kernel_rfl) ⟨(wr_i64 (by omega) (by omega)), trivial⟩ ?_
          refine ⟨St.mk [(0, tp (V.ptr 2000000030 0)), (3, tp (V.ptr 3 0)), (4, tp (i64 0)), (5, tp (V.sl 5 0 0)), (6, tp (i64 i)), (20, tp (V.sl 1000000000 0 n)), (21, tp (i64 (↑n : Int))), (22, tp (i64 (i + 1)))] [(3, Blk.mk [u8 d, u32 t, u16 id, V.vs (u8s c) k, i32 b, vb on] true 6 none), (5, Blk.mk [] true 0 (some (61, 1))), (1000000000, Blk.mk (rowsI L) true 0 (some (96, 3))), (2000000030, Blk.mk [V.sl 1000000000 0 n, vb off] false 2 none)], by kernel_rfl, ?_⟩
          first | (exact ⟨(n - (i + 1)).toNat, (by omega), i + 1, i, rfl, e.symm, (by omega), (by omega), (by omega)⟩) | (exfalso; omega)
        simp only [beq_eq_false_iff_ne] at hq1
        (exfalso; omega)
      simp only [decide_eq_false_iff_not] at hq0
      (exfalso; omega)
    · rw [if_neg hid, ← hA] at e
      refine xe0 [0, 3, 4, 5, 6, 20, 21, 22, 23] [3, 5, 1000000000, 2000000030] (by kernel_rfl) ?_
      refine AWP.seq ?_
      refine AWP.cond (b := decide (i < (↑n : Int))) (by kernel_rfl) (fun hq2 => ?_) (fun hq2 => ?_)
      · simp only [decide_eq_true_eq] at hq2
        refine AWP.skip ?_
        refine AWP.seq ?_
        refine AWP.block ?_
        refine xe1 (os := [(0 : Int) ≤ i ∧ i < (↑n : Int), V.ptr 1000000000 (0 + Int.toNat i * 3) = V.ptr 1000000000 (0 + Int.toNat i * 3), (0 : Nat) + Int.toNat i * (3 : Nat) + (3 : Nat) ≤ List.length (rowsI L), V.agg true (List.take 3 (List.drop (0 + Int.toNat i * 3) (rowsI L))) = V.agg true [u32 a.t, u16 a.id, V.vs (u8s a.c) a.k]]) [(1, ⟨some (V.ptr 1000000000 (0 + Int.toNat i * 3)), none⟩), (2, ⟨some (V.agg true (It.row a)), none⟩)] [0, 3, 4, 5, 6, 7, 8, 20, 21, 22] [1000000000, 2000000030, 3, 5, 8] (by kernel_rfl) ⟨(by omega), rfl, (by first | omega | (simp [len_u8s]; done) | (simp [len_u8s]; omega)), (congrArg (V.agg true) (wr )), trivial⟩ ?_
        refine xe0 [0, 3, 4, 5, 6, 7, 20, 21, 22, 31] [1000000000, 2000000030, 3, 5] (by kernel_rfl) ?_
        refine AWP.cond (b := a.id == id) (by kernel_rfl) (fun hq3 => ?_) (fun hq3 => ?_)
        · simp only [beq_iff_eq] at hq3
          (exfalso; omega)
        simp only [beq_eq_false_iff_ne] at hq3
        refine AWP.skip ?_
        refine AWP.region tcok hmix [(0, ⟨some (i64 (i + 1)), none⟩)] (os := [i64 (IntKind.wrap IntKind.i64 (i + 1)) = i64 (i + 1)]) (sf := St.mk [(0, tp (V.ptr 2000000030 0)), (3, tp (V.ptr 3 0)), (4, tp (i64 0)), (5, tp (V.sl 5 0 0)), (6, tp (i64 A)), (7, tp (i64 i)), (20, tp (V.sl 1000000000 0 n)), (21, tp (i64 (↑n : Int))), (22, tp (i64 (i + 1))), (31, tp (vb (a.id == id))), (33, tp (i64 (i + 1)))] [(3, Blk.mk [u8 d, u32 t, u16 id, V.vs (u8s c) k, i32 b, vb on] true 6 none), (5, Blk.mk [] true 0 (some (61, 1))), (1000000000, Blk.mk (rowsI L) true 0 (some (96, 3))), (2000000030, Blk.mk [V.sl 1000000000 0 n, vb off] false 2 none)]) (by kernel_rfl) ⟨(wr_i64 (by omega) (by omega)), trivial⟩ ?_
        refine ⟨St.mk [(0, tp (V.ptr 2000000030 0)), (3, tp (V.ptr 3 0)), (4, tp (i64 0)), (5, tp (V.sl 5 0 0)), (6, tp (i64 A)), (20, tp (V.sl 1000000000 0 n)), (21, tp (i64 (↑n : Int))), (22, tp (i64 (i + 1)))] [(3, Blk.mk [u8 d, u32 t, u16 id, V.vs (u8s c) k, i32 b, vb on] true 6 none), (5, Blk.mk [] true 0 (some (61, 1))), (1000000000, Blk.mk (rowsI L) true 0 (some (96, 3))), (2000000030, Blk.mk [V.sl 1000000000 0 n, vb off] false 2 none)], by kernel_rfl, ?_⟩
        first | (exact ⟨(n - (i + 1)).toNat, (by omega), i + 1, A, rfl, e.symm, (by omega), (by omega), (by omega)⟩) | (exfalso; omega)
      simp only [decide_eq_false_iff_not] at hq2
      (exfalso; omega)
  have hin2 : i = n := by omega
  subst hin2
  clear hN hlt hi hin
  rw [Int.toNat_natCast] at hA
  subst ho
  refine xe0 [0, 3, 4, 5, 6, 20, 21, 22, 23] [3, 5, 1000000000, 2000000030] (by kernel_rfl) ?_
  refine AWP.seq ?_
  refine AWP.cond (b := decide ((↑n : Int) < (↑n : Int))) (by kernel_rfl) (fun hq4 => ?_) (fun hq4 => ?_)
  · simp only [decide_eq_true_eq] at hq4
    (exfalso; omega)
  simp only [decide_eq_false_iff_not] at hq4
  refine AWP.exit ?_
  refine xe0 [0, 3, 4, 5, 6, 9] [1000000000, 2000000030, 3, 5, 9] (by kernel_rfl) ?_
  refine AWP.seq ?_
  refine xe1 (os := [(8 : Int) ≠ (0 : Int), u8 (Int.tmod d 8) = u8 (d % 8)]) [(2, ⟨some (u8 (d % 8)), none⟩)] [0, 3, 4, 5, 6, 9, 36] [1000000000, 2000000030, 3, 5, 9] (by kernel_rfl) ⟨(by omega), (tm_ (by omega)), trivial⟩ ?_
  refine AWP.block ?_
  refine xe0 [0, 3, 4, 5, 6, 9, 36, 71] [1000000000, 2000000030, 3, 5, 9] (by kernel_rfl) ?_
  refine AWP.cond (b := d % 8 == 3) (by kernel_rfl) (fun hq5 => ?_) (fun hq5 => ?_)
  · simp only [beq_iff_eq] at hq5
    (exfalso; omega)
  simp only [beq_eq_false_iff_ne] at hq5
  refine xe0 [0, 3, 4, 5, 6, 9, 36, 94] [1000000000, 2000000030, 3, 5, 9] (by kernel_rfl) ?_
  refine AWP.cond (b := d % 8 == 4) (by kernel_rfl) (fun hq6 => ?_) (fun hq6 => ?_)
  rotate_left
  · simp only [beq_eq_false_iff_ne] at hq6
    (exfalso; omega)
  simp only [beq_iff_eq] at hq6
  refine AWP.seq ?_
  refine xe0 [0, 3, 4, 5, 9, 99] [1000000000, 2000000030, 3, 5, 9] (by kernel_rfl) ?_
  refine AWP.condF (by kernel_rfl) ?_
  refine AWP.skip ?_
  refine xe0 [0, 3, 4, 5, 9, 10] [1000000000, 2000000030, 3, 5, 9, 10] (by kernel_rfl) ?_
  refine AWP.seq ?_
  refine xe0 [0, 3, 4, 5, 9, 10, 103, 104, 105] [1000000000, 2000000030, 3, 5, 9, 10] (by kernel_rfl) ?_
  refine AWP.block ?_
  refine AWP.loopI [105, 104, 103, 3, 9, 10, 0, 4, 5] [3, 5, 9, 10, 1000000000, 2000000030] (fun N s' => ∃ (i : Int) (u v : Nat) (O : List V) (F S : List It), s' = St.mk [(0, T.plain (V.ptr 2000000030 0)), (3, T.plain (V.ptr 3 0)), (4, T.plain (i64 0)), (5, T.plain (V.sl 5 0 0)), (9, T.plain (V.sl 9 0 u)), (10, T.plain (V.sl 10 0 v)), (103, T.plain (V.sl 1000000000 0 n)), (104, T.plain (i64 (n : Int))), (105, T.plain (i64 i))] [(3, Blk.mk [u8 d, u32 t, u16 id, V.vs (u8s c) k, i32 b, vb on] true 6 none), (5, Blk.mk [] true 0 (some (61, 1))), (9, Blk.mk O true 0 (some (61, 1))), (10, Blk.mk (rowsI S) true 0 (some (96, 3))), (1000000000, Blk.mk (rowsI L) true 0 (some (96, 3))), (2000000030, Blk.mk [V.sl 1000000000 0 n, vb false] false 2 none)] ∧ 0 ≤ i ∧ i ≤ n ∧ O = tcC F ∧ F = (L.take i.toNat).filter (fun a => decide (a.t ≤ t)) ∧ S = (L.take i.toNat).filter (fun a => !decide (a.t ≤ t)) ∧ u = F.length ∧ v = S.length ∧ u + v = i.toNat ∧ (N : Int) = n - i) n (s0 := St.mk [(0, T.plain (V.ptr 2000000030 0)), (3, T.plain (V.ptr 3 0)), (4, T.plain (i64 0)), (5, T.plain (V.sl 5 0 0)), (9, T.plain (V.sl 9 0 0)), (10, T.plain (V.sl 10 0 0)), (103, T.plain (V.sl 1000000000 0 n)), (104, T.plain (i64 (n : Int))), (105, T.plain (i64 0))] [(3, Blk.mk [u8 d, u32 t, u16 id, V.vs (u8s c) k, i32 b, vb on] true 6 none), (5, Blk.mk [] true 0 (some (61, 1))), (9, Blk.mk [] true 0 (some (61, 1))), (10, Blk.mk [] true 0 (some (96, 3))), (1000000000, Blk.mk (rowsI L) true 0 (some (96, 3))), (2000000030, Blk.mk [V.sl 1000000000 0 n, vb false] false 2 none)]) (by kernel_rfl) ?_ ?_
  · exact ⟨0, 0, 0, [], [], [], rfl, by omega, by omega, rfl, by simp, by simp, rfl, rfl, rfl, by omega⟩
  rintro N s' ⟨i, u, v, O, F, S, rfl, hi, hin, hO, hF, hS, hu, hv, huv, hN⟩
  have hsl := rowsI_len S
  have hol : O.length = u := by rw [hO, tcC_len, hu]
  by_cases hlt : i < n
  · obtain ⟨a, ha⟩ : ∃ a, L[i.toNat]? = some a := ⟨_, List.getElem?_eq_getElem (by omega)⟩
    have wr := rowsI_at ha
    have e4 : (i + 1).toNat = i.toNat + 1 := by omega
    by_cases c1 : a.t ≤ t
    · have g1 : F ++ [a] = (L.take (i + 1).toNat).filter (fun a => decide (a.t ≤ t)) := by rw [e4, List.take_add_one, ha, List.filter_append, ← hF]; simp [c1]
      have g2 : S = (L.take (i + 1).toNat).filter (fun a => !decide (a.t ≤ t)) := by rw [e4, List.take_add_one, ha, List.filter_append, ← hS]; simp [c1]
      have g3 : O ++ [.vs (u8s a.c) a.k] = tcC (F ++ [a]) := by rw [hO]; simp [tcC]
      refine xe0 [0, 3, 4, 5, 9, 10, 103, 104, 105, 106] [3, 5, 9, 10, 1000000000, 2000000030] (by kernel_rfl) ?_
      refine AWP.seq ?_
      refine AWP.cond (b := decide (i < (↑n : Int))) (by kernel_rfl) (fun hq8 => ?_) (fun hq8 => ?_)
      · simp only [decide_eq_true_eq] at hq8
        refine AWP.skip ?_
        refine AWP.seq ?_
        refine AWP.block ?_
        refine xe1 (os := [(0 : Int) ≤ i ∧ i < (↑n : Int), V.ptr 1000000000 (0 + Int.toNat i * 3) = V.ptr 1000000000 (0 + Int.toNat i * 3), (0 : Nat) + Int.toNat i * (3 : Nat) + (3 : Nat) ≤ List.length (rowsI L), V.agg true (List.take 3 (List.drop (0 + Int.toNat i * 3) (rowsI L))) = V.agg true [u32 a.t, u16 a.id, V.vs (u8s a.c) a.k]]) [(0, ⟨some (V.ptr 1000000000 (0 + Int.toNat i * 3)), none⟩), (1, ⟨some (V.agg true (It.row a)), none⟩)] [0, 3, 4, 5, 9, 10, 12, 103, 104, 105] [1000000000, 2000000030, 3, 5, 9, 10, 12] (by kernel_rfl) ⟨(by omega), rfl, (by first | omega | (simp [len_u8s]; done) | (simp [len_u8s]; omega)), (congrArg (V.agg true) (wr )), trivial⟩ ?_
        refine xe0 [0, 3, 4, 5, 9, 10, 12, 103, 104, 105, 113] [1000000000, 2000000030, 3, 5, 9, 10, 12] (by kernel_rfl) ?_
        refine AWP.cond (b := decide (a.t ≤ t)) (by kernel_rfl) (fun hq9 => ?_) (fun hq9 => ?_)
        · simp only [decide_eq_true_eq] at hq9
          refine AWP.region tcok hmix [(4, ⟨some (V.tup [V.agg true (O ++ [V.vs (u8s a.c) a.k]), V.sl 0 0 (u + 1)]), none⟩)] (os := [(1 : Nat) ≤ (1 : Nat), u * (1 : Nat) = List.length O, u + (1 : Nat) ≤ (9223372036854775807 : Nat), (u + (1 : Nat)) * (24 : Nat) ≤ (140737488355328 : Nat), O ++ List.take ((1 : Nat) * (1 : Nat)) (List.drop (0 : Nat) [V.vs (u8s a.c) a.k]) = O ++ [V.vs (u8s a.c) a.k], u + (1 : Nat) = u + (1 : Nat)]) (sf := St.mk [(0, tp (V.ptr 2000000030 0)), (3, tp (V.ptr 3 0)), (4, tp (i64 0)), (5, tp (V.sl 5 0 0)), (9, tp (V.sl 9 0 (u + 1))), (10, tp (V.sl 10 0 v)), (12, tp (V.ptr 12 0)), (103, tp (V.sl 1000000000 0 n)), (104, tp (i64 (↑n : Int))), (105, tp (i64 i)), (113, tp (vb (decide (a.t ≤ t)))), (114, tp V.top), (115, tp (V.ptr 12 2)), (116, tp (V.vs (u8s a.c) a.k)), (117, tp (V.sl 117 0 1)), (118, tp (V.sl 9 0 (u + 1)))] [(3, Blk.mk [u8 d, u32 t, u16 id, V.vs (u8s c) k, i32 b, vb on] true 6 none), (5, Blk.mk [] true 0 (some (61, 1))), (9, Blk.mk (O ++ [V.vs (u8s a.c) a.k]) true 0 (some (61, 1))), (10, Blk.mk (rowsI S) true 0 (some (96, 3))), (12, Blk.mk [u32 a.t, u16 a.id, V.vs (u8s a.c) a.k] true 3 none), (117, Blk.mk [V.vs (u8s a.c) a.k] true 0 (some (61, 1))), (1000000000, Blk.mk (rowsI L) true 0 (some (96, 3))), (2000000030, Blk.mk [V.sl 1000000000 0 n, vb false] false 2 none)]) (by kernel_rfl) ⟨(by omega), (by omega), (by omega), (by omega), (by first | rfl | (simp only [u8s_drop, u8s_take, List.drop_zero, Nat.mul_one, Nat.one_mul, u8s_app, List.take_length, List.nil_append, List.append_nil]; done) | (simp [u8s]; done) | (simp [u8s]; omega)), (by omega), trivial⟩ ?_
          refine AWP.keep' [0, 3, 4, 5, 9, 10, 103, 104, 105] [1000000000, 2000000030, 3, 5, 9, 10] (sf := St.mk [(0, tp (V.ptr 2000000030 0)), (3, tp (V.ptr 3 0)), (4, tp (i64 0)), (5, tp (V.sl 5 0 0)), (9, tp (V.sl 9 0 (u + 1))), (10, tp (V.sl 10 0 v)), (103, tp (V.sl 1000000000 0 n)), (104, tp (i64 (↑n : Int))), (105, tp (i64 i))] [(3, Blk.mk [u8 d, u32 t, u16 id, V.vs (u8s c) k, i32 b, vb on] true 6 none), (5, Blk.mk [] true 0 (some (61, 1))), (9, Blk.mk (O ++ [V.vs (u8s a.c) a.k]) true 0 (some (61, 1))), (10, Blk.mk (rowsI S) true 0 (some (96, 3))), (1000000000, Blk.mk (rowsI L) true 0 (some (96, 3))), (2000000030, Blk.mk [V.sl 1000000000 0 n, vb false] false 2 none)]) (by kernel_rfl) ?_
          refine AWP.region tcok hmix [(0, ⟨some (i64 (i + 1)), none⟩)] (os := [i64 (IntKind.wrap IntKind.i64 (i + 1)) = i64 (i + 1)]) (sf := St.mk [(0, tp (V.ptr 2000000030 0)), (3, tp (V.ptr 3 0)), (4, tp (i64 0)), (5, tp (V.sl 5 0 0)), (9, tp (V.sl 9 0 (u + 1))), (10, tp (V.sl 10 0 v)), (103, tp (V.sl 1000000000 0 n)), (104, tp (i64 (↑n : Int))), (105, tp (i64 (i + 1))), (123, tp (i64 (i + 1)))] [(3, Blk.mk [u8 d, u32 t, u16 id, V.vs (u8s c) k, i32 b, vb on] true 6 none), (5, Blk.mk [] true 0 (some (61, 1))), (9, Blk.mk (O ++ [V.vs (u8s a.c) a.k]) true 0 (some (61, 1))), (10, Blk.mk (rowsI S) true 0 (some (96, 3))), (1000000000, Blk.mk (rowsI L) true 0 (some (96, 3))), (2000000030, Blk.mk [V.sl 1000000000 0 n, vb false] false 2 none)]) (by kernel_rfl) ⟨(wr_i64 (by omega) (by omega)), trivial⟩ ?_
          refine ⟨St.mk [(0, tp (V.ptr 2000000030 0)), (3, tp (V.ptr 3 0)), (4, tp (i64 0)), (5, tp (V.sl 5 0 0)), (9, tp (V.sl 9 0 (u + 1))), (10, tp (V.sl 10 0 v)), (103, tp (V.sl 1000000000 0 n)), (104, tp (i64 (↑n : Int))), (105, tp (i64 (i + 1)))] [(3, Blk.mk [u8 d, u32 t, u16 id, V.vs (u8s c) k, i32 b, vb on] true 6 none), (5, Blk.mk [] true 0 (some (61, 1))), (9, Blk.mk (O ++ [V.vs (u8s a.c) a.k]) true 0 (some (61, 1))), (10, Blk.mk (rowsI S) true 0 (some (96, 3))), (1000000000, Blk.mk (rowsI L) true 0 (some (96, 3))), (2000000030, Blk.mk [V.sl 1000000000 0 n, vb false] false 2 none)], by kernel_rfl, ?_⟩
          first | (exact ⟨(n - (i + 1)).toNat, (by omega), i + 1, u + 1, v, _, F ++ [a], S, rfl, (by omega), (by omega), g3, g1, g2, (by rw [List.length_append, hu]; rfl), hv, (by omega), (by omega)⟩) | (exfalso; omega)
        simp only [decide_eq_false_iff_not] at hq9
        (exfalso; omega)
      simp only [decide_eq_false_iff_not] at hq8
      (exfalso; omega)
    · have g1 : F = (L.take (i + 1).toNat).filter (fun a => decide (a.t ≤ t)) := by rw [e4, List.take_add_one, ha, List.filter_append, ← hF]; simp [c1]
      have g2 : S ++ [a] = (L.take (i + 1).toNat).filter (fun a => !decide (a.t ≤ t)) := by rw [e4, List.take_add_one, ha, List.filter_append, ← hS]; simp [c1]
      have g3 : rowsI S ++ It.row a = rowsI (S ++ [a]) := by rw [rowsI_app]; simp [rowsI]
      refine xe0 [0, 3, 4, 5, 9, 10, 103, 104, 105, 106] [3, 5, 9, 10, 1000000000, 2000000030] (by kernel_rfl) ?_
      refine AWP.seq ?_
      refine AWP.cond (b := decide (i < (↑n : Int))) (by kernel_rfl) (fun hq10 => ?_) (fun hq10 => ?_)
      · simp only [decide_eq_true_eq] at hq10
        refine AWP.skip ?_
        refine AWP.seq ?_
        refine AWP.block ?_
        refine xe1 (os := [(0 : Int) ≤ i ∧ i < (↑n : Int), V.ptr 1000000000 (0 + Int.toNat i * 3) = V.ptr 1000000000 (0 + Int.toNat i * 3), (0 : Nat) + Int.toNat i * (3 : Nat) + (3 : Nat) ≤ List.length (rowsI L), V.agg true (List.take 3 (List.drop (0 + Int.toNat i * 3) (rowsI L))) = V.agg true [u32 a.t, u16 a.id, V.vs (u8s a.c) a.k]]) [(0, ⟨some (V.ptr 1000000000 (0 + Int.toNat i * 3)), none⟩), (1, ⟨some (V.agg true (It.row a)), none⟩)] [0, 3, 4, 5, 9, 10, 12, 103, 104, 105] [1000000000, 2000000030, 3, 5, 9, 10, 12] (by kernel_rfl) ⟨(by omega), rfl, (by first | omega | (simp [len_u8s]; done) | (simp [len_u8s]; omega)), (congrArg (V.agg true) (wr )), trivial⟩ ?_
        refine xe0 [0, 3, 4, 5, 9, 10, 12, 103, 104, 105, 113] [1000000000, 2000000030, 3, 5, 9, 10, 12] (by kernel_rfl) ?_
        refine AWP.cond (b := decide (a.t ≤ t)) (by kernel_rfl) (fun hq11 => ?_) (fun hq11 => ?_)
        · simp only [decide_eq_true_eq] at hq11
          (exfalso; omega)
        simp only [decide_eq_false_iff_not] at hq11
        refine AWP.region tcok hmix [(3, ⟨some (V.tup [V.agg true (rowsI S ++ [u32 a.t, u16 a.id, V.vs (u8s a.c) a.k]), V.sl 0 0 (v + 1)]), none⟩)] (os := [(3 : Nat) ≤ (3 : Nat), v * (3 : Nat) = List.length (rowsI S), v + (1 : Nat) ≤ (9223372036854775807 : Nat), (v + (1 : Nat)) * (32 : Nat) ≤ (140737488355328 : Nat), rowsI S ++ List.take ((1 : Nat) * (3 : Nat)) (List.drop (0 : Nat) [u32 a.t, u16 a.id, V.vs (u8s a.c) a.k]) = rowsI S ++ [u32 a.t, u16 a.id, V.vs (u8s a.c) a.k], v + (1 : Nat) = v + (1 : Nat)]) (sf := St.mk [(0, tp (V.ptr 2000000030 0)), (3, tp (V.ptr 3 0)), (4, tp (i64 0)), (5, tp (V.sl 5 0 0)), (9, tp (V.sl 9 0 u)), (10, tp (V.sl 10 0 (v + 1))), (12, tp (V.ptr 12 0)), (103, tp (V.sl 1000000000 0 n)), (104, tp (i64 (↑n : Int))), (105, tp (i64 i)), (113, tp (vb (decide (a.t ≤ t)))), (119, tp V.top), (120, tp (V.agg true [u32 a.t, u16 a.id, V.vs (u8s a.c) a.k])), (121, tp (V.sl 121 0 1)), (122, tp (V.sl 10 0 (v + 1)))] [(3, Blk.mk [u8 d, u32 t, u16 id, V.vs (u8s c) k, i32 b, vb on] true 6 none), (5, Blk.mk [] true 0 (some (61, 1))), (9, Blk.mk O true 0 (some (61, 1))), (10, Blk.mk (rowsI S ++ [u32 a.t, u16 a.id, V.vs (u8s a.c) a.k]) true 0 (some (96, 3))), (12, Blk.mk [u32 a.t, u16 a.id, V.vs (u8s a.c) a.k] true 3 none), (121, Blk.mk [u32 a.t, u16 a.id, V.vs (u8s a.c) a.k] true 0 (some (96, 3))), (1000000000, Blk.mk (rowsI L) true 0 (some (96, 3))), (2000000030, Blk.mk [V.sl 1000000000 0 n, vb false] false 2 none)]) (by kernel_rfl) ⟨(by omega), (by first | omega | (simp [len_u8s]; done) | (simp [len_u8s]; omega)), (by omega), (by omega), (by first | rfl | (simp only [u8s_drop, u8s_take, List.drop_zero, Nat.mul_one, Nat.one_mul, u8s_app, List.take_length, List.nil_append, List.append_nil]; done) | (simp [u8s]; done) | (simp [u8s]; omega)), (by omega), trivial⟩ ?_
        refine AWP.keep' [0, 3, 4, 5, 9, 10, 103, 104, 105] [1000000000, 2000000030, 3, 5, 9, 10] (sf := St.mk [(0, tp (V.ptr 2000000030 0)), (3, tp (V.ptr 3 0)), (4, tp (i64 0)), (5, tp (V.sl 5 0 0)), (9, tp (V.sl 9 0 u)), (10, tp (V.sl 10 0 (v + 1))), (103, tp (V.sl 1000000000 0 n)), (104, tp (i64 (↑n : Int))), (105, tp (i64 i))] [(3, Blk.mk [u8 d, u32 t, u16 id, V.vs (u8s c) k, i32 b, vb on] true 6 none), (5, Blk.mk [] true 0 (some (61, 1))), (9, Blk.mk O true 0 (some (61, 1))), (10, Blk.mk (rowsI S ++ [u32 a.t, u16 a.id, V.vs (u8s a.c) a.k]) true 0 (some (96, 3))), (1000000000, Blk.mk (rowsI L) true 0 (some (96, 3))), (2000000030, Blk.mk [V.sl 1000000000 0 n, vb false] false 2 none)]) (by kernel_rfl) ?_
        refine AWP.region tcok hmix [(0, ⟨some (i64 (i + 1)), none⟩)] (os := [i64 (IntKind.wrap IntKind.i64 (i + 1)) = i64 (i + 1)]) (sf := St.mk [(0, tp (V.ptr 2000000030 0)), (3, tp (V.ptr 3 0)), (4, tp (i64 0)), (5, tp (V.sl 5 0 0)), (9, tp (V.sl 9 0 u)), (10, tp (V.sl 10 0 (v + 1))), (103, tp (V.sl 1000000000 0 n)), (104, tp (i64 (↑n : Int))), (105, tp (i64 (i + 1))), (123, tp (i64 (i + 1)))] [(3, Blk.mk [u8 d, u32 t, u16 id, V.vs (u8s c) k, i32 b, vb on] true 6 none), (5, Blk.mk [] true 0 (some (61, 1))), (9, Blk.mk O true 0 (some (61, 1))), (10, Blk.mk (rowsI S ++ [u32 a.t, u16 a.id, V.vs (u8s a.c) a.k]) true 0 (some (96, 3))), (1000000000, Blk.mk (rowsI L) true 0 (some (96, 3))), (2000000030, Blk.mk [V.sl 1000000000 0 n, vb false] false 2 none)]) (by kernel_rfl) ⟨(wr_i64 (by omega) (by omega)), trivial⟩ ?_
        refine ⟨St.mk [(0, tp (V.ptr 2000000030 0)), (3, tp (V.ptr 3 0)), (4, tp (i64 0)), (5, tp (V.sl 5 0 0)), (9, tp (V.sl 9 0 u)), (10, tp (V.sl 10 0 (v + 1))), (103, tp (V.sl 1000000000 0 n)), (104, tp (i64 (↑n : Int))), (105, tp (i64 (i + 1)))] [(3, Blk.mk [u8 d, u32 t, u16 id, V.vs (u8s c) k, i32 b, vb on] true 6 none), (5, Blk.mk [] true 0 (some (61, 1))), (9, Blk.mk O true 0 (some (61, 1))), (10, Blk.mk (rowsI S ++ [u32 a.t, u16 a.id, V.vs (u8s a.c) a.k]) true 0 (some (96, 3))), (1000000000, Blk.mk (rowsI L) true 0 (some (96, 3))), (2000000030, Blk.mk [V.sl 1000000000 0 n, vb false] false 2 none)], by kernel_rfl, ?_⟩
        first | (exact ⟨(n - (i + 1)).toNat, (by omega), i + 1, u, v + 1, O, F, S ++ [a], (by rw [← g3]; rfl), (by omega), (by omega), hO, g1, g2, hu, (by rw [List.length_append, hv]; rfl), (by omega), (by omega)⟩) | (exfalso; omega)
      simp only [decide_eq_false_iff_not] at hq10
      (exfalso; omega)
  have hin3 : i = n := by omega
  subst hin3
  rw [Int.toNat_natCast, ← hn, List.take_length] at hF hS
  rw [hf1] at hF
  rw [hf2] at hS
  subst hS
  subst hF
  subst hO
  have hup : u = p := by rw [hu, List.length_take]; omega
  subst hup
  have hvn : v = n' := by rw [Int.toNat_natCast] at huv; omega
  subst hvn
  refine xe0 [0, 3, 4, 5, 9, 10, 103, 104, 105, 106] [3, 5, 9, 10, 1000000000, 2000000030] (by kernel_rfl) ?_
  refine AWP.seq ?_
  refine AWP.cond (b := decide ((↑n : Int) < (↑n : Int))) (by kernel_rfl) (fun hq12 => ?_) (fun hq12 => ?_)
  · simp only [decide_eq_true_eq] at hq12
    (exfalso; omega)
  simp only [decide_eq_false_iff_not] at hq12
  refine AWP.exit ?_
  refine AWP.region tcok hmix [] (os := []) (sf := St.mk [(0, tp (V.ptr 2000000030 0)), (3, tp (V.ptr 3 0)), (4, tp (i64 0)), (5, tp (V.sl 5 0 0)), (9, tp (V.sl 9 0 u)), (10, tp (V.sl 10 0 v)), (103, tp (V.sl 1000000000 0 n)), (104, tp (i64 (↑n : Int))), (105, tp (i64 (↑n : Int))), (106, tp (vb (decide ((↑n : Int) < (↑n : Int))))), (124, tp (V.ptr 2000000030 0)), (125, tp (V.sl 10 0 v)), (126, tp (V.ptr 2000000030 0)), (127, tp (V.ptr 2000000030 0))] [(3, Blk.mk [u8 d, u32 t, u16 id, V.vs (u8s c) k, i32 b, vb on] true 6 none), (5, Blk.mk [] true 0 (some (61, 1))), (9, Blk.mk (tcC (List.take u L)) true 0 (some (61, 1))), (10, Blk.mk (rowsI S) true 0 (some (96, 3))), (1000000000, Blk.mk (rowsI L) true 0 (some (96, 3))), (2000000030, Blk.mk [V.sl 10 0 v, vb false] false 2 none)]) (by kernel_rfl) trivial ?_
  refine AWP.keep' [4, 5, 9] [1000000000, 2000000030, 5, 9, 10] (sf := St.mk [(4, tp (i64 0)), (5, tp (V.sl 5 0 0)), (9, tp (V.sl 9 0 u))] [(5, Blk.mk [] true 0 (some (61, 1))), (9, Blk.mk (tcC (List.take u L)) true 0 (some (61, 1))), (10, Blk.mk (rowsI S) true 0 (some (96, 3))), (1000000000, Blk.mk (rowsI L) true 0 (some (96, 3))), (2000000030, Blk.mk [V.sl 10 0 v, vb false] false 2 none)]) (by kernel_rfl) ?_
  refine AWP.seq ?_
  refine AWP.keep' [9] [1000000000, 2000000030, 9, 10] (sf := St.mk [(9, tp (V.sl 9 0 u))] [(9, Blk.mk (tcC (List.take u L)) true 0 (some (61, 1))), (10, Blk.mk (rowsI S) true 0 (some (96, 3))), (1000000000, Blk.mk (rowsI L) true 0 (some (96, 3))), (2000000030, Blk.mk [V.sl 10 0 v, vb false] false 2 none)]) (by kernel_rfl) ?_
  refine xg0 [4, 5] [1000000000, 2000000030, 9, 10] (by kernel_rfl) ?_
  refine AWP.frz 9 (s' := St.mk [(4, tp (i64 0)), (5, tp (V.vs (dropC 0 (tcC (List.take u L))) u))] [(10, Blk.mk (rowsI S) true 0 (some (96, 3))), (1000000000, Blk.mk (rowsI L) true 0 (some (96, 3))), (2000000030, Blk.mk [V.sl 10 0 v, vb false] false 2 none)]) (by kernel_rfl) ?_
  refine AWP.ret ?_
  refine ⟨Or.inr rfl, Eq.trans (b := some ([(10, Blk.mk (rowsI S) true 0 (some (96, 3))), (1000000000, Blk.mk (rowsI L) true 0 (some (96, 3))), (2000000030, Blk.mk [V.sl 10 0 v, vb false] false 2 none)], V.tup [i64 0, V.vs (dropC 0 (tcC (List.take u L))) u])) (by kernel_rfl) ?_⟩
  first | rfl | (exfalso; omega)
end Go.Proofs.Ytlfjnkobnkfioaa
