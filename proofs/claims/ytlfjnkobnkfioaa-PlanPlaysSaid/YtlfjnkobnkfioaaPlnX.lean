/- The document's plan: a call. Printed by pln_do.py. -/
import Derived.Test.YtlfjnkobnkfioaaRg
import Derived.Test.YtlfjnkobnkfioaaPlnV
namespace Go.Proofs.Ytlfjnkobnkfioaa
open Go.Ab
set_option maxRecDepth 100000
set_option maxHeartbeats 8000000
set_option linter.unusedSimpArgs false
set_option linter.unusedVariables false
/-- Where an item is, the last one with that number; -1: nowhere. -/
def atP (id : Int) (L : List It) : Nat → Int
  | 0 => -1
  | i + 1 => match L[i]? with
    | some a => if a.id = id then (i : Int) else atP id L i
    | none => atP id L i
theorem atP_at {id : Int} {L : List It} {i : Nat} {a : It} (h : L[i]? = some a) : atP id L (i + 1) = if a.id = id then (i : Int) else atP id L i := by
  simp only [atP, h]
theorem atP_none {id : Int} {L : List It} (h : ∀ a ∈ L, a.id ≠ id) : ∀ i, atP id L i = -1
  | 0 => rfl
  | i + 1 => by
    simp only [atP]
    split
    · rename_i a ha
      rw [if_neg (h a (List.mem_of_getElem? ha)), atP_none h i]
    · exact atP_none h i
theorem con_do_en (L : List It) (n : Nat) (hn : L.length = n) (hm : n ≤ 1000) (off : Bool) (d t id b : Int) (hd : 0 ≤ d ∧ d < 256) (c : List Int) (k : Nat) (on : Bool) (hd8 : d % 8 = 6) (off' : Bool) (ho : (!on) = off') :
    Con Try.prog 33 [(1000000000, ⟨rowsI L, true, 0, some (96, 3)⟩), (2000000030, ⟨[.sl 1000000000 0 n, vb off], false, 2, none⟩)] [.ptr 2000000030 0, .agg true [u8 d, u32 t, u16 id, .vs (u8s c) k, i32 b, vb on]]
      [(1000000000, ⟨rowsI L, true, 0, some (96, 3)⟩), (2000000030, ⟨[.sl 1000000000 0 n, vb off'], false, 2, none⟩)] (.tup [i64 0, .vs [] 0]) := by
  subst ho
  have hrl := rowsI_len L
  refine Con.of (C := ⟨Try.prog, tc, Try.f33.ntmps⟩) [1000000000, 2000000030] tcok Try.func33 rfl rfl (by kernel_rfl) (by kernel_rfl) ?_
  refine xe0 [0, 3, 4, 5] [1000000000, 2000000030, 3, 5] (by kernel_rfl) ?_
  refine xe0 [0, 3, 4, 5, 6] [3, 5, 1000000000, 2000000030] (by kernel_rfl) ?_
  refine AWP.seq ?_
  refine xe0 [0, 3, 4, 5, 6, 20, 21, 22] [1000000000, 2000000030, 3, 5] (by kernel_rfl) ?_
  refine AWP.block ?_
  refine AWP.loopI [22, 21, 20, 3, 6, 0, 4, 5] [3, 5, 1000000000, 2000000030] (fun N s' => ∃ (i A : Int), s' = St.mk [(0, T.plain (V.ptr 2000000030 0)), (3, T.plain (V.ptr 3 0)), (4, T.plain (i64 0)), (5, T.plain (V.sl 5 0 0)), (6, T.plain (i64 A)), (20, T.plain (V.sl 1000000000 0 n)), (21, T.plain (i64 (n : Int))), (22, T.plain (i64 i))] [(3, Blk.mk [u8 d, u32 t, u16 id, V.vs (u8s c) k, i32 b, vb on] true 6 none), (5, Blk.mk [] true 0 (some (61, 1))), (1000000000, Blk.mk (rowsI L) true 0 (some (96, 3))), (2000000030, Blk.mk [V.sl 1000000000 0 n, vb off] false 2 none)] ∧ A = atP id L i.toNat ∧ 0 ≤ i ∧ i ≤ n ∧ (N : Int) = n - i) n (s0 := St.mk [(0, T.plain (V.ptr 2000000030 0)), (3, T.plain (V.ptr 3 0)), (4, T.plain (i64 0)), (5, T.plain (V.sl 5 0 0)), (6, T.plain (i64 (-1))), (20, T.plain (V.sl 1000000000 0 n)), (21, T.plain (i64 (n : Int))), (22, T.plain (i64 0))] [(3, Blk.mk [u8 d, u32 t, u16 id, V.vs (u8s c) k, i32 b, vb on] true 6 none), (5, Blk.mk [] true 0 (some (61, 1))), (1000000000, Blk.mk (rowsI L) true 0 (some (96, 3))), (2000000030, Blk.mk [V.sl 1000000000 0 n, vb off] false 2 none)]) (by kernel_rfl) ?_ ?_
  · exact ⟨0, -1, rfl, rfl, by omega, by omega, by omega⟩
  rintro N s' ⟨i, A, rfl, hA, hi, hin, hN⟩
  by_cases hlt : i < n
  · obtain ⟨a, ha⟩ : ∃ a, L[i.toNat]? = some a := ⟨_, List.getElem?_eq_getElem (by omega)⟩
    have wr := rowsI_at ha
    have e := atP_at (id := id) ha
    rw [show i.toNat + 1 = (i + 1).toNat by omega] at e
    by_cases hid : a.id = id
    · rw [if_pos hid, Int.toNat_of_nonneg hi] at e
      refine xe0 [0, 3, 4, 5, 6, 20, 21, 22, 23] [3, 5, 1000000000, 2000000030] (by kernel_rfl) ?_
      refine AWP.seq ?_
      refine AWP.cond (b := decide (i < (↑n : Int))) (by kernel_rfl) (fun hq0 => ?_) (fun hq0 => ?_)
      · simp only [decide_eq_true_eq] at hq0
        refine AWP.skip ?_
        refine AWP.seq ?_
        refine AWP.block ?_
        refine xe1 (os := [(0 : Int) ≤ i ∧ i < (↑n : Int), V.ptr 1000000000 (0 + Int.toNat i * 3) = V.ptr 1000000000 (0 + Int.toNat i * 3), (0 : Nat) + Int.toNat i * (3 : Nat) + (3 : Nat) ≤ List.length (rowsI L), V.agg true (List.take 3 (List.drop (0 + Int.toNat i * 3) (rowsI L))) = V.agg true [u32 a.t, u16 a.id, V.vs (u8s a.c) a.k]]) [(1, ⟨some (V.ptr 1000000000 (0 + Int.toNat i * 3)), none⟩), (2, ⟨some (V.agg true (It.row a)), none⟩)] [0, 3, 4, 5, 6, 7, 8, 20, 21, 22] [1000000000, 2000000030, 3, 5, 8] (by kernel_rfl) ⟨(by omega), rfl, (by first | omega | (simp [len_u8s]; done) | (simp [len_u8s]; omega)), (congrArg (V.agg true) (wr )), trivial⟩ ?_
        refine xe0 [0, 3, 4, 5, 6, 7, 20, 21, 22, 31] [1000000000, 2000000030, 3, 5] (by kernel_rfl) ?_
        refine AWP.cond (b := a.id == id) (by kernel_rfl) (fun hq1 => ?_) (fun hq1 => ?_)
        · simp only [beq_iff_eq] at hq1
          refine AWP.region tcok hmix [] (os := []) (sf := St.mk [(0, tp (V.ptr 2000000030 0)), (3, tp (V.ptr 3 0)), (4, tp (i64 0)), (5, tp (V.sl 5 0 0)), (6, tp (i64 i)), (7, tp (i64 i)), (20, tp (V.sl 1000000000 0 n)), (21, tp (i64 (↑n : Int))), (22, tp (i64 i)), (31, tp (vb (a.id == id))), (32, tp (i64 i))] [(3, Blk.mk [u8 d, u32 t, u16 id, V.vs (u8s c) k, i32 b, vb on] true 6 none), (5, Blk.mk [] true 0 (some (61, 1))), (1000000000, Blk.mk (rowsI L) true 0 (some (96, 3))), (2000000030, Blk.mk [V.sl 1000000000 0 n, vb off] false 2 none)]) (by kernel_rfl) trivial ?_
          refine AWP.keep' [0, 3, 4, 5, 6, 20, 21, 22] [1000000000, 2000000030, 3, 5] (sf := St.mk [(0, tp (V.ptr 2000000030 0)), (3, tp (V.ptr 3 0)), (4, tp (i64 0)), (5, tp (V.sl 5 0 0)), (6, tp (i64 i)), (20, tp (V.sl 1000000000 0 n)), (21, tp (i64 (↑n : Int))), (22, tp (i64 i))] [(3, Blk.mk [u8 d, u32 t, u16 id, V.vs (u8s c) k, i32 b, vb on] true 6 none), (5, Blk.mk [] true 0 (some (61, 1))), (1000000000, Blk.mk (rowsI L) true 0 (some (96, 3))), (2000000030, Blk.mk [V.sl 1000000000 0 n, vb off] false 2 none)]) (by kernel_rfl) ?_
          refine AWP.region tcok hmix [(0, ⟨some (i64 (i + 1)), none⟩)] (os := [i64 (IntKind.wrap IntKind.i64 (i + 1)) = i64 (i + 1)]) (sf := St.mk [(0, tp (V.ptr 2000000030 0)), (3, tp (V.ptr 3 0)), (4, tp (i64 0)), (5, tp (V.sl 5 0 0)), (6, tp (i64 i)), (20, tp (V.sl 1000000000 0 n)), (21, tp (i64 (↑n : Int))), (22, tp (i64 (i + 1))), (33, tp (i64 (i + 1)))] [(3, Blk.mk [u8 d, u32 t, u16 id, V.vs (u8s c) k, i32 b, vb on] true 6 none), (5, Blk.mk [] true 0 (some (61, 1))), (1000000000, Blk.mk (rowsI L) true 0 (some (96, 3))), (2000000030, Blk.mk [V.sl 1000000000 0 n, vb off] false 2 none)]) (by kernel_rfl) ⟨(wr_i64 (by omega) (by omega)), trivial⟩ ?_
          refine ⟨St.mk [(0, tp (V.ptr 2000000030 0)), (3, tp (V.ptr 3 0)), (4, tp (i64 0)), (5, tp (V.sl 5 0 0)), (6, tp (i64 i)), (20, tp (V.sl 1000000000 0 n)), (21, tp (i64 (↑n : Int))), (22, tp (i64 (i + 1)))] [(3, Blk.mk [u8 d, u32 t, u16 id, V.vs (u8s c) k, i32 b, vb on] true 6 none), (5, Blk.mk [] true 0 (some (61, 1))), (1000000000, Blk.mk (rowsI L) true 0 (some (96, 3))), (2000000030, Blk.mk [V.sl 1000000000 0 n, vb off] false 2 none)], by kernel_rfl, ?_⟩
          first | (exact ⟨(n - (i + 1)).toNat, (by omega), i + 1, i, rfl, e.symm, (by omega), (by omega), (by omega)⟩) | (exfalso; omega)
        simp only [beq_eq_false_iff_ne] at hq1
        (exfalso; omega)
      simp only [decide_eq_false_iff_not] at hq0
      (exfalso; omega)
    · rw [if_neg hid, ← hA] at e
      refine xe0 [0, 3, 4, 5, 6, 20, 21, 22, 23] [3, 5, 1000000000, 2000000030] (by kernel_rfl) ?_
      refine AWP.seq ?_
      refine AWP.cond (b := decide (i < (↑n : Int))) (by kernel_rfl) (fun hq2 => ?_) (fun hq2 => ?_)
      · simp only [decide_eq_true_eq] at hq2
        refine AWP.skip ?_
        refine AWP.seq ?_
        refine AWP.block ?_
        refine xe1 (os := [(0 : Int) ≤ i ∧ i < (↑n : Int), V.ptr 1000000000 (0 + Int.toNat i * 3) = V.ptr 1000000000 (0 + Int.toNat i * 3), (0 : Nat) + Int.toNat i * (3 : Nat) + (3 : Nat) ≤ List.length (rowsI L), V.agg true (List.take 3 (List.drop (0 + Int.toNat i * 3) (rowsI L))) = V.agg true [u32 a.t, u16 a.id, V.vs (u8s a.c) a.k]]) [(1, ⟨some (V.ptr 1000000000 (0 + Int.toNat i * 3)), none⟩), (2, ⟨some (V.agg true (It.row a)), none⟩)] [0, 3, 4, 5, 6, 7, 8, 20, 21, 22] [1000000000, 2000000030, 3, 5, 8] (by kernel_rfl) ⟨(by omega), rfl, (by first | omega | (simp [len_u8s]; done) | (simp [len_u8s]; omega)), (congrArg (V.agg true) (wr )), trivial⟩ ?_
        refine xe0 [0, 3, 4, 5, 6, 7, 20, 21, 22, 31] [1000000000, 2000000030, 3, 5] (by kernel_rfl) ?_
        refine AWP.cond (b := a.id == id) (by kernel_rfl) (fun hq3 => ?_) (fun hq3 => ?_)
        · simp only [beq_iff_eq] at hq3
          (exfalso; omega)
        simp only [beq_eq_false_iff_ne] at hq3
        refine AWP.skip ?_
        refine AWP.region tcok hmix [(0, ⟨some (i64 (i + 1)), none⟩)] (os := [i64 (IntKind.wrap IntKind.i64 (i + 1)) = i64 (i + 1)]) (sf := St.mk [(0, tp (V.ptr 2000000030 0)), (3, tp (V.ptr 3 0)), (4, tp (i64 0)), (5, tp (V.sl 5 0 0)), (6, tp (i64 A)), (7, tp (i64 i)), (20, tp (V.sl 1000000000 0 n)), (21, tp (i64 (↑n : Int))), (22, tp (i64 (i + 1))), (31, tp (vb (a.id == id))), (33, tp (i64 (i + 1)))] [(3, Blk.mk [u8 d, u32 t, u16 id, V.vs (u8s c) k, i32 b, vb on] true 6 none), (5, Blk.mk [] true 0 (some (61, 1))), (1000000000, Blk.mk (rowsI L) true 0 (some (96, 3))), (2000000030, Blk.mk [V.sl 1000000000 0 n, vb off] false 2 none)]) (by kernel_rfl) ⟨(wr_i64 (by omega) (by omega)), trivial⟩ ?_
        refine ⟨St.mk [(0, tp (V.ptr 2000000030 0)), (3, tp (V.ptr 3 0)), (4, tp (i64 0)), (5, tp (V.sl 5 0 0)), (6, tp (i64 A)), (20, tp (V.sl 1000000000 0 n)), (21, tp (i64 (↑n : Int))), (22, tp (i64 (i + 1)))] [(3, Blk.mk [u8 d, u32 t, u16 id, V.vs (u8s c) k, i32 b, vb on] true 6 none), (5, Blk.mk [] true 0 (some (61, 1))), (1000000000, Blk.mk (rowsI L) true 0 (some (96, 3))), (2000000030, Blk.mk [V.sl 1000000000 0 n, vb off] false 2 none)], by kernel_rfl, ?_⟩
        first | (exact ⟨(n - (i + 1)).toNat, (by omega), i + 1, A, rfl, e.symm, (by omega), (by omega), (by omega)⟩) | (exfalso; omega)
      simp only [decide_eq_false_iff_not] at hq2
      (exfalso; omega)
  have hin2 : i = n := by omega
  subst hin2
  clear hN hlt hi hin
  rw [Int.toNat_natCast] at hA
  refine xe0 [0, 3, 4, 5, 6, 20, 21, 22, 23] [3, 5, 1000000000, 2000000030] (by kernel_rfl) ?_
  refine AWP.seq ?_
  refine AWP.cond (b := decide ((↑n : Int) < (↑n : Int))) (by kernel_rfl) (fun hq4 => ?_) (fun hq4 => ?_)
  · simp only [decide_eq_true_eq] at hq4
    (exfalso; omega)
  simp only [decide_eq_false_iff_not] at hq4
  refine AWP.exit ?_
  refine xe0 [0, 3, 4, 5, 6, 9] [1000000000, 2000000030, 3, 5, 9] (by kernel_rfl) ?_
  refine AWP.seq ?_
  refine xe1 (os := [(8 : Int) ≠ (0 : Int), u8 (Int.tmod d 8) = u8 (d % 8)]) [(2, ⟨some (u8 (d % 8)), none⟩)] [0, 3, 4, 5, 6, 9, 36] [1000000000, 2000000030, 3, 5, 9] (by kernel_rfl) ⟨(by omega), (tm_ (by omega)), trivial⟩ ?_
  refine AWP.block ?_
  refine xe0 [0, 3, 4, 5, 6, 9, 36, 71] [1000000000, 2000000030, 3, 5, 9] (by kernel_rfl) ?_
  refine AWP.cond (b := d % 8 == 3) (by kernel_rfl) (fun hq5 => ?_) (fun hq5 => ?_)
  · simp only [beq_iff_eq] at hq5
    (exfalso; omega)
  simp only [beq_eq_false_iff_ne] at hq5
  refine xe0 [0, 3, 4, 5, 6, 9, 36, 94] [1000000000, 2000000030, 3, 5, 9] (by kernel_rfl) ?_
  refine AWP.cond (b := d % 8 == 4) (by kernel_rfl) (fun hq6 => ?_) (fun hq6 => ?_)
  · simp only [beq_iff_eq] at hq6
    (exfalso; omega)
  simp only [beq_eq_false_iff_ne] at hq6
  refine xe0 [0, 3, 4, 5, 6, 9, 36, 128] [1000000000, 2000000030, 3, 5, 9] (by kernel_rfl) ?_
  refine AWP.cond (b := d % 8 == 5) (by kernel_rfl) (fun hq7 => ?_) (fun hq7 => ?_)
  · simp only [beq_iff_eq] at hq7
    (exfalso; omega)
  simp only [beq_eq_false_iff_ne] at hq7
  refine xe0 [0, 3, 4, 5, 6, 9, 36, 166] [1000000000, 2000000030, 3, 5, 9] (by kernel_rfl) ?_
  refine AWP.cond (b := d % 8 == 6) (by kernel_rfl) (fun hq8 => ?_) (fun hq8 => ?_)
  · simp only [beq_iff_eq] at hq8
    refine AWP.region tcok hmix [] (os := []) (sf := St.mk [(0, tp (V.ptr 2000000030 0)), (3, tp (V.ptr 3 0)), (4, tp (i64 0)), (5, tp (V.sl 5 0 0)), (6, tp (i64 A)), (9, tp (V.sl 9 0 0)), (36, tp (u8 (d % 8))), (166, tp (vb (d % 8 == 6))), (168, tp (V.ptr 2000000030 0)), (169, tp (V.ptr 3 5)), (170, tp (vb on)), (171, tp (vb !on)), (172, tp (V.ptr 2000000030 0)), (173, tp (V.ptr 2000000030 1))] [(3, Blk.mk [u8 d, u32 t, u16 id, V.vs (u8s c) k, i32 b, vb on] true 6 none), (5, Blk.mk [] true 0 (some (61, 1))), (9, Blk.mk [] true 0 (some (61, 1))), (1000000000, Blk.mk (rowsI L) true 0 (some (96, 3))), (2000000030, Blk.mk [V.sl 1000000000 0 n, vb !on] false 2 none)]) (by kernel_rfl) trivial ?_
    refine AWP.keep' [4, 5, 9] [1000000000, 2000000030, 5, 9] (sf := St.mk [(4, tp (i64 0)), (5, tp (V.sl 5 0 0)), (9, tp (V.sl 9 0 0))] [(5, Blk.mk [] true 0 (some (61, 1))), (9, Blk.mk [] true 0 (some (61, 1))), (1000000000, Blk.mk (rowsI L) true 0 (some (96, 3))), (2000000030, Blk.mk [V.sl 1000000000 0 n, vb !on] false 2 none)]) (by kernel_rfl) ?_
    refine AWP.seq ?_
    refine AWP.keep' [9] [1000000000, 2000000030, 9] (sf := St.mk [(9, tp (V.sl 9 0 0))] [(9, Blk.mk [] true 0 (some (61, 1))), (1000000000, Blk.mk (rowsI L) true 0 (some (96, 3))), (2000000030, Blk.mk [V.sl 1000000000 0 n, vb !on] false 2 none)]) (by kernel_rfl) ?_
    refine xg0 [4, 5] [1000000000, 2000000030, 9] (by kernel_rfl) ?_
    refine AWP.frz 9 (s' := St.mk [(4, tp (i64 0)), (5, tp (V.vs [] 0))] [(1000000000, Blk.mk (rowsI L) true 0 (some (96, 3))), (2000000030, Blk.mk [V.sl 1000000000 0 n, vb !on] false 2 none)]) (by kernel_rfl) ?_
    refine AWP.ret ?_
    refine ⟨Or.inr rfl, Eq.trans (b := some ([(1000000000, Blk.mk (rowsI L) true 0 (some (96, 3))), (2000000030, Blk.mk [V.sl 1000000000 0 n, vb !on] false 2 none)], V.tup [i64 0, V.vs [] 0])) (by kernel_rfl) ?_⟩
    first | rfl | (exfalso; omega)
  simp only [beq_eq_false_iff_ne] at hq8
  (exfalso; omega)
theorem con_do_long (L : List It) (n : Nat) (hn : L.length = n) (hm : n ≤ 1000) (off : Bool) (d t id b : Int) (hd : 0 ≤ d ∧ d < 256) (c : List Int) (k : Nat) (on : Bool) (hd8 : d % 8 < 3) (hk : 208 < k) :
    Con Try.prog 33 [(1000000000, ⟨rowsI L, true, 0, some (96, 3)⟩), (2000000030, ⟨[.sl 1000000000 0 n, vb off], false, 2, none⟩)] [.ptr 2000000030 0, .agg true [u8 d, u32 t, u16 id, .vs (u8s c) k, i32 b, vb on]]
      [(1000000000, ⟨rowsI L, true, 0, some (96, 3)⟩), (2000000030, ⟨[.sl 1000000000 0 n, vb off], false, 2, none⟩)] (.tup [i64 4, .vs [] 0]) := by
  have hrl := rowsI_len L
  refine Con.of (C := ⟨Try.prog, tc, Try.f33.ntmps⟩) [1000000000, 2000000030] tcok Try.func33 rfl rfl (by kernel_rfl) (by kernel_rfl) ?_
  refine xe0 [0, 3, 4, 5] [1000000000, 2000000030, 3, 5] (by kernel_rfl) ?_
  refine xe0 [0, 3, 4, 5, 6] [3, 5, 1000000000, 2000000030] (by kernel_rfl) ?_
  refine AWP.seq ?_
  refine xe0 [0, 3, 4, 5, 6, 20, 21, 22] [1000000000, 2000000030, 3, 5] (by kernel_rfl) ?_
  refine AWP.block ?_
  refine AWP.loopI [22, 21, 20, 3, 6, 0, 4, 5] [3, 5, 1000000000, 2000000030] (fun N s' => ∃ (i A : Int), s' = St.mk [(0, T.plain (V.ptr 2000000030 0)), (3, T.plain (V.ptr 3 0)), (4, T.plain (i64 0)), (5, T.plain (V.sl 5 0 0)), (6, T.plain (i64 A)), (20, T.plain (V.sl 1000000000 0 n)), (21, T.plain (i64 (n : Int))), (22, T.plain (i64 i))] [(3, Blk.mk [u8 d, u32 t, u16 id, V.vs (u8s c) k, i32 b, vb on] true 6 none), (5, Blk.mk [] true 0 (some (61, 1))), (1000000000, Blk.mk (rowsI L) true 0 (some (96, 3))), (2000000030, Blk.mk [V.sl 1000000000 0 n, vb off] false 2 none)] ∧ A = atP id L i.toNat ∧ 0 ≤ i ∧ i ≤ n ∧ (N : Int) = n - i) n (s0 := St.mk [(0, T.plain (V.ptr 2000000030 0)), (3, T.plain (V.ptr 3 0)), (4, T.plain (i64 0)), (5, T.plain (V.sl 5 0 0)), (6, T.plain (i64 (-1))), (20, T.plain (V.sl 1000000000 0 n)), (21, T.plain (i64 (n : Int))), (22, T.plain (i64 0))] [(3, Blk.mk [u8 d, u32 t, u16 id, V.vs (u8s c) k, i32 b, vb on] true 6 none), (5, Blk.mk [] true 0 (some (61, 1))), (1000000000, Blk.mk (rowsI L) true 0 (some (96, 3))), (2000000030, Blk.mk [V.sl 1000000000 0 n, vb off] false 2 none)]) (by kernel_rfl) ?_ ?_
  · exact ⟨0, -1, rfl, rfl, by omega, by omega, by omega⟩
  rintro N s' ⟨i, A, rfl, hA, hi, hin, hN⟩
  by_cases hlt : i < n
  · obtain ⟨a, ha⟩ : ∃ a, L[i.toNat]? = some a := ⟨_, List.getElem?_eq_getElem (by omega)⟩
    have wr := rowsI_at ha
    have e := atP_at (id := id) ha
    rw [show i.toNat + 1 = (i + 1).toNat by omega] at e
    by_cases hid : a.id = id
    · rw [if_pos hid, Int.toNat_of_nonneg hi] at e
      refine xe0 [0, 3, 4, 5, 6, 20, 21, 22, 23] [3, 5, 1000000000, 2000000030] (by kernel_rfl) ?_
      refine AWP.seq ?_
      refine AWP.cond (b := decide (i < (↑n : Int))) (by kernel_rfl) (fun hq9 => ?_) (fun hq9 => ?_)
      · simp only [decide_eq_true_eq] at hq9
        refine AWP.skip ?_
        refine AWP.seq ?_
        refine AWP.block ?_
        refine xe1 (os := [(0 : Int) ≤ i ∧ i < (↑n : Int), V.ptr 1000000000 (0 + Int.toNat i * 3) = V.ptr 1000000000 (0 + Int.toNat i * 3), (0 : Nat) + Int.toNat i * (3 : Nat) + (3 : Nat) ≤ List.length (rowsI L), V.agg true (List.take 3 (List.drop (0 + Int.toNat i * 3) (rowsI L))) = V.agg true [u32 a.t, u16 a.id, V.vs (u8s a.c) a.k]]) [(1, ⟨some (V.ptr 1000000000 (0 + Int.toNat i * 3)), none⟩), (2, ⟨some (V.agg true (It.row a)), none⟩)] [0, 3, 4, 5, 6, 7, 8, 20, 21, 22] [1000000000, 2000000030, 3, 5, 8] (by kernel_rfl) ⟨(by omega), rfl, (by first | omega | (simp [len_u8s]; done) | (simp [len_u8s]; omega)), (congrArg (V.agg true) (wr )), trivial⟩ ?_
        refine xe0 [0, 3, 4, 5, 6, 7, 20, 21, 22, 31] [1000000000, 2000000030, 3, 5] (by kernel_rfl) ?_
        refine AWP.cond (b := a.id == id) (by kernel_rfl) (fun hq10 => ?_) (fun hq10 => ?_)
        · simp only [beq_iff_eq] at hq10
          refine AWP.region tcok hmix [] (os := []) (sf := St.mk [(0, tp (V.ptr 2000000030 0)), (3, tp (V.ptr 3 0)), (4, tp (i64 0)), (5, tp (V.sl 5 0 0)), (6, tp (i64 i)), (7, tp (i64 i)), (20, tp (V.sl 1000000000 0 n)), (21, tp (i64 (↑n : Int))), (22, tp (i64 i)), (31, tp (vb (a.id == id))), (32, tp (i64 i))] [(3, Blk.mk [u8 d, u32 t, u16 id, V.vs (u8s c) k, i32 b, vb on] true 6 none), (5, Blk.mk [] true 0 (some (61, 1))), (1000000000, Blk.mk (rowsI L) true 0 (some (96, 3))), (2000000030, Blk.mk [V.sl 1000000000 0 n, vb off] false 2 none)]) (by kernel_rfl) trivial ?_
          refine AWP.keep' [0, 3, 4, 5, 6, 20, 21, 22] [1000000000, 2000000030, 3, 5] (sf := St.mk [(0, tp (V.ptr 2000000030 0)), (3, tp (V.ptr 3 0)), (4, tp (i64 0)), (5, tp (V.sl 5 0 0)), (6, tp (i64 i)), (20, tp (V.sl 1000000000 0 n)), (21, tp (i64 (↑n : Int))), (22, tp (i64 i))] [(3, Blk.mk [u8 d, u32 t, u16 id, V.vs (u8s c) k, i32 b, vb on] true 6 none), (5, Blk.mk [] true 0 (some (61, 1))), (1000000000, Blk.mk (rowsI L) true 0 (some (96, 3))), (2000000030, Blk.mk [V.sl 1000000000 0 n, vb off] false 2 none)]) (by kernel_rfl) ?_
          refine AWP.region tcok hmix [(0, ⟨some (i64 (i + 1)), none⟩)] (os := [i64 (IntKind.wrap IntKind.i64 (i + 1)) = i64 (i + 1)]) (sf := St.mk [(0, tp (V.ptr 2000000030 0)), (3, tp (V.ptr 3 0)), (4, tp (i64 0)), (5, tp (V.sl 5 0 0)), (6, tp (i64 i)), (20, tp (V.sl 1000000000 0 n)), (21, tp (i64 (↑n : Int))), (22, tp (i64 (i + 1))), (33, tp (i64 (i + 1)))] [(3, Blk.mk [u8 d, u32 t, u16 id, V.vs (u8s c) k, i32 b, vb on] true 6 none), (5, Blk.mk [] true 0 (some (61, 1))), (1000000000, Blk.mk (rowsI L) true 0 (some (96, 3))), (2000000030, Blk.mk [V.sl 1000000000 0 n, vb off] false 2 none)]) (by kernel_rfl) ⟨(wr_i64 (by omega) (by omega)), trivial⟩ ?_
          refine ⟨St.mk [(0, tp (V.ptr 2000000030 0)), (3, tp (V.ptr 3 0)), (4, tp (i64 0)), (5, tp (V.sl 5 0 0)), (6, tp (i64 i)), (20, tp (V.sl 1000000000 0 n)), (21, tp (i64 (↑n : Int))), (22, tp (i64 (i + 1)))] [(3, Blk.mk [u8 d, u32 t, u16 id, V.vs (u8s c) k, i32 b, vb on] true 6 none), (5, Blk.mk [] true 0 (some (61, 1))), (1000000000, Blk.mk (rowsI L) true 0 (some (96, 3))), (2000000030, Blk.mk [V.sl 1000000000 0 n, vb off] false 2 none)], by kernel_rfl, ?_⟩
          first | (exact ⟨(n - (i + 1)).toNat, (by omega), i + 1, i, rfl, e.symm, (by omega), (by omega), (by omega)⟩) | (exfalso; omega)
        simp only [beq_eq_false_iff_ne] at hq10
        (exfalso; omega)
      simp only [decide_eq_false_iff_not] at hq9
      (exfalso; omega)
    · rw [if_neg hid, ← hA] at e
      refine xe0 [0, 3, 4, 5, 6, 20, 21, 22, 23] [3, 5, 1000000000, 2000000030] (by kernel_rfl) ?_
      refine AWP.seq ?_
      refine AWP.cond (b := decide (i < (↑n : Int))) (by kernel_rfl) (fun hq11 => ?_) (fun hq11 => ?_)
      · simp only [decide_eq_true_eq] at hq11
        refine AWP.skip ?_
        refine AWP.seq ?_
        refine AWP.block ?_
        refine xe1 (os := [(0 : Int) ≤ i ∧ i < (↑n : Int), V.ptr 1000000000 (0 + Int.toNat i * 3) = V.ptr 1000000000 (0 + Int.toNat i * 3), (0 : Nat) + Int.toNat i * (3 : Nat) + (3 : Nat) ≤ List.length (rowsI L), V.agg true (List.take 3 (List.drop (0 + Int.toNat i * 3) (rowsI L))) = V.agg true [u32 a.t, u16 a.id, V.vs (u8s a.c) a.k]]) [(1, ⟨some (V.ptr 1000000000 (0 + Int.toNat i * 3)), none⟩), (2, ⟨some (V.agg true (It.row a)), none⟩)] [0, 3, 4, 5, 6, 7, 8, 20, 21, 22] [1000000000, 2000000030, 3, 5, 8] (by kernel_rfl) ⟨(by omega), rfl, (by first | omega | (simp [len_u8s]; done) | (simp [len_u8s]; omega)), (congrArg (V.agg true) (wr )), trivial⟩ ?_
        refine xe0 [0, 3, 4, 5, 6, 7, 20, 21, 22, 31] [1000000000, 2000000030, 3, 5] (by kernel_rfl) ?_
        refine AWP.cond (b := a.id == id) (by kernel_rfl) (fun hq12 => ?_) (fun hq12 => ?_)
        · simp only [beq_iff_eq] at hq12
          (exfalso; omega)
        simp only [beq_eq_false_iff_ne] at hq12
        refine AWP.skip ?_
        refine AWP.region tcok hmix [(0, ⟨some (i64 (i + 1)), none⟩)] (os := [i64 (IntKind.wrap IntKind.i64 (i + 1)) = i64 (i + 1)]) (sf := St.mk [(0, tp (V.ptr 2000000030 0)), (3, tp (V.ptr 3 0)), (4, tp (i64 0)), (5, tp (V.sl 5 0 0)), (6, tp (i64 A)), (7, tp (i64 i)), (20, tp (V.sl 1000000000 0 n)), (21, tp (i64 (↑n : Int))), (22, tp (i64 (i + 1))), (31, tp (vb (a.id == id))), (33, tp (i64 (i + 1)))] [(3, Blk.mk [u8 d, u32 t, u16 id, V.vs (u8s c) k, i32 b, vb on] true 6 none), (5, Blk.mk [] true 0 (some (61, 1))), (1000000000, Blk.mk (rowsI L) true 0 (some (96, 3))), (2000000030, Blk.mk [V.sl 1000000000 0 n, vb off] false 2 none)]) (by kernel_rfl) ⟨(wr_i64 (by omega) (by omega)), trivial⟩ ?_
        refine ⟨St.mk [(0, tp (V.ptr 2000000030 0)), (3, tp (V.ptr 3 0)), (4, tp (i64 0)), (5, tp (V.sl 5 0 0)), (6, tp (i64 A)), (20, tp (V.sl 1000000000 0 n)), (21, tp (i64 (↑n : Int))), (22, tp (i64 (i + 1)))] [(3, Blk.mk [u8 d, u32 t, u16 id, V.vs (u8s c) k, i32 b, vb on] true 6 none), (5, Blk.mk [] true 0 (some (61, 1))), (1000000000, Blk.mk (rowsI L) true 0 (some (96, 3))), (2000000030, Blk.mk [V.sl 1000000000 0 n, vb off] false 2 none)], by kernel_rfl, ?_⟩
        first | (exact ⟨(n - (i + 1)).toNat, (by omega), i + 1, A, rfl, e.symm, (by omega), (by omega), (by omega)⟩) | (exfalso; omega)
      simp only [decide_eq_false_iff_not] at hq11
      (exfalso; omega)
  have hin2 : i = n := by omega
  subst hin2
  clear hN hlt hi hin
  rw [Int.toNat_natCast] at hA
  refine xe0 [0, 3, 4, 5, 6, 20, 21, 22, 23] [3, 5, 1000000000, 2000000030] (by kernel_rfl) ?_
  refine AWP.seq ?_
  refine AWP.cond (b := decide ((↑n : Int) < (↑n : Int))) (by kernel_rfl) (fun hq13 => ?_) (fun hq13 => ?_)
  · simp only [decide_eq_true_eq] at hq13
    (exfalso; omega)
  simp only [decide_eq_false_iff_not] at hq13
  refine AWP.exit ?_
  refine xe0 [0, 3, 4, 5, 6, 9] [1000000000, 2000000030, 3, 5, 9] (by kernel_rfl) ?_
  refine AWP.seq ?_
  refine xe1 (os := [(8 : Int) ≠ (0 : Int), u8 (Int.tmod d 8) = u8 (d % 8)]) [(2, ⟨some (u8 (d % 8)), none⟩)] [0, 3, 4, 5, 6, 9, 36] [1000000000, 2000000030, 3, 5, 9] (by kernel_rfl) ⟨(by omega), (tm_ (by omega)), trivial⟩ ?_
  refine AWP.block ?_
  refine xe0 [0, 3, 4, 5, 6, 9, 36, 71] [1000000000, 2000000030, 3, 5, 9] (by kernel_rfl) ?_
  refine AWP.cond (b := d % 8 == 3) (by kernel_rfl) (fun hq14 => ?_) (fun hq14 => ?_)
  · simp only [beq_iff_eq] at hq14
    (exfalso; omega)
  simp only [beq_eq_false_iff_ne] at hq14
  refine xe0 [0, 3, 4, 5, 6, 9, 36, 94] [1000000000, 2000000030, 3, 5, 9] (by kernel_rfl) ?_
  refine AWP.cond (b := d % 8 == 4) (by kernel_rfl) (fun hq15 => ?_) (fun hq15 => ?_)
  · simp only [beq_iff_eq] at hq15
    (exfalso; omega)
  simp only [beq_eq_false_iff_ne] at hq15
  refine xe0 [0, 3, 4, 5, 6, 9, 36, 128] [1000000000, 2000000030, 3, 5, 9] (by kernel_rfl) ?_
  refine AWP.cond (b := d % 8 == 5) (by kernel_rfl) (fun hq16 => ?_) (fun hq16 => ?_)
  · simp only [beq_iff_eq] at hq16
    (exfalso; omega)
  simp only [beq_eq_false_iff_ne] at hq16
  refine xe0 [0, 3, 4, 5, 6, 9, 36, 166] [1000000000, 2000000030, 3, 5, 9] (by kernel_rfl) ?_
  refine AWP.cond (b := d % 8 == 6) (by kernel_rfl) (fun hq17 => ?_) (fun hq17 => ?_)
  · simp only [beq_iff_eq] at hq17
    (exfalso; omega)
  simp only [beq_eq_false_iff_ne] at hq17
  refine xe0 [0, 3, 4, 5, 6, 9, 174] [1000000000, 2000000030, 3, 5, 9] (by kernel_rfl) ?_
  refine AWP.cond (b := d % 8 == 7) (by kernel_rfl) (fun hq18 => ?_) (fun hq18 => ?_)
  · simp only [beq_iff_eq] at hq18
    (exfalso; omega)
  simp only [beq_eq_false_iff_ne] at hq18
  refine AWP.seq ?_
  refine AWP.block ?_
  refine xe0 [0, 3, 4, 5, 6, 9, 37] [1000000000, 2000000030, 3, 5, 9] (by kernel_rfl) ?_
  refine AWP.cond (b := decide ((↑k : Int) > 208)) (by kernel_rfl) (fun hq19 => ?_) (fun hq19 => ?_)
  · simp only [decide_eq_true_eq] at hq19
    refine AWP.seq ?_
    refine AWP.keep' [0, 3, 9] [1000000000, 2000000030, 3, 9] (sf := St.mk [(0, tp (V.ptr 2000000030 0)), (3, tp (V.ptr 3 0)), (9, tp (V.sl 9 0 0))] [(3, Blk.mk [u8 d, u32 t, u16 id, V.vs (u8s c) k, i32 b, vb on] true 6 none), (9, Blk.mk [] true 0 (some (61, 1))), (1000000000, Blk.mk (rowsI L) true 0 (some (96, 3))), (2000000030, Blk.mk [V.sl 1000000000 0 n, vb off] false 2 none)]) (by kernel_rfl) ?_
    refine xg0 [0, 3, 4, 5, 9] [3, 5, 9, 1000000000, 2000000030] (by kernel_rfl) ?_
    refine AWP.frz 5 (s' := St.mk [(0, tp (V.ptr 2000000030 0)), (3, tp (V.ptr 3 0)), (4, tp (i64 4)), (5, tp (V.vs [] 0)), (9, tp (V.sl 9 0 0))] [(3, Blk.mk [u8 d, u32 t, u16 id, V.vs (u8s c) k, i32 b, vb on] true 6 none), (9, Blk.mk [] true 0 (some (61, 1))), (1000000000, Blk.mk (rowsI L) true 0 (some (96, 3))), (2000000030, Blk.mk [V.sl 1000000000 0 n, vb off] false 2 none)]) (by kernel_rfl) ?_
    refine AWP.ret ?_
    refine ⟨Or.inr rfl, Eq.trans (b := some ([(1000000000, Blk.mk (rowsI L) true 0 (some (96, 3))), (2000000030, Blk.mk [V.sl 1000000000 0 n, vb off] false 2 none)], V.tup [i64 4, V.vs [] 0])) (by kernel_rfl) ?_⟩
    first | rfl | (exfalso; omega)
  simp only [decide_eq_false_iff_not] at hq19
  (exfalso; omega)
theorem con_do_has (L : List It) (n : Nat) (hn : L.length = n) (hm : n ≤ 1000) (off : Bool) (d t id b : Int) (hd : 0 ≤ d ∧ d < 256) (c : List Int) (k : Nat) (on : Bool) (hd8 : d % 8 < 3) (hk : k ≤ 208) (hat : 0 ≤ atP id L n) :
    Con Try.prog 33 [(1000000000, ⟨rowsI L, true, 0, some (96, 3)⟩), (2000000030, ⟨[.sl 1000000000 0 n, vb off], false, 2, none⟩)] [.ptr 2000000030 0, .agg true [u8 d, u32 t, u16 id, .vs (u8s c) k, i32 b, vb on]]
      [(1000000000, ⟨rowsI L, true, 0, some (96, 3)⟩), (2000000030, ⟨[.sl 1000000000 0 n, vb off], false, 2, none⟩)] (.tup [i64 8, .vs [] 0]) := by
  have hrl := rowsI_len L
  refine Con.of (C := ⟨Try.prog, tc, Try.f33.ntmps⟩) [1000000000, 2000000030] tcok Try.func33 rfl rfl (by kernel_rfl) (by kernel_rfl) ?_
  refine xe0 [0, 3, 4, 5] [1000000000, 2000000030, 3, 5] (by kernel_rfl) ?_
  refine xe0 [0, 3, 4, 5, 6] [3, 5, 1000000000, 2000000030] (by kernel_rfl) ?_
  refine AWP.seq ?_
  refine xe0 [0, 3, 4, 5, 6, 20, 21, 22] [1000000000, 2000000030, 3, 5] (by kernel_rfl) ?_
  refine AWP.block ?_
  refine AWP.loopI [22, 21, 20, 3, 6, 0, 4, 5] [3, 5, 1000000000, 2000000030] (fun N s' => ∃ (i A : Int), s' = St.mk [(0, T.plain (V.ptr 2000000030 0)), (3, T.plain (V.ptr 3 0)), (4, T.plain (i64 0)), (5, T.plain (V.sl 5 0 0)), (6, T.plain (i64 A)), (20, T.plain (V.sl 1000000000 0 n)), (21, T.plain (i64 (n : Int))), (22, T.plain (i64 i))] [(3, Blk.mk [u8 d, u32 t, u16 id, V.vs (u8s c) k, i32 b, vb on] true 6 none), (5, Blk.mk [] true 0 (some (61, 1))), (1000000000, Blk.mk (rowsI L) true 0 (some (96, 3))), (2000000030, Blk.mk [V.sl 1000000000 0 n, vb off] false 2 none)] ∧ A = atP id L i.toNat ∧ 0 ≤ i ∧ i ≤ n ∧ (N : Int) = n - i) n (s0 := St.mk [(0, T.plain (V.ptr 2000000030 0)), (3, T.plain (V.ptr 3 0)), (4, T.plain (i64 0)), (5, T.plain (V.sl 5 0 0)), (6, T.plain (i64 (-1))), (20, T.plain (V.sl 1000000000 0 n)), (21, T.plain (i64 (n : Int))), (22, T.plain (i64 0))] [(3, Blk.mk [u8 d, u32 t, u16 id, V.vs (u8s c) k, i32 b, vb on] true 6 none), (5, Blk.mk [] true 0 (some (61, 1))), (1000000000, Blk.mk (rowsI L) true 0 (some (96, 3))), (2000000030, Blk.mk [V.sl 1000000000 0 n, vb off] false 2 none)]) (by kernel_rfl) ?_ ?_
  · exact ⟨0, -1, rfl, rfl, by omega, by omega, by omega⟩
  rintro N s' ⟨i, A, rfl, hA, hi, hin, hN⟩
  by_cases hlt : i < n
  · obtain ⟨a, ha⟩ : ∃ a, L[i.toNat]? = some a := ⟨_, List.getElem?_eq_getElem (by omega)⟩
    have wr := rowsI_at ha
    have e := atP_at (id := id) ha
    rw [show i.toNat + 1 = (i + 1).toNat by omega] at e
    by_cases hid : a.id = id
    · rw [if_pos hid, Int.toNat_of_nonneg hi] at e
      refine xe0 [0, 3, 4, 5, 6, 20, 21, 22, 23] [3, 5, 1000000000, 2000000030] (by kernel_rfl) ?_
      refine AWP.seq ?_
      refine AWP.cond (b := decide (i < (↑n : Int))) (by kernel_rfl) (fun hq20 => ?_) (fun hq20 => ?_)
      · simp only [decide_eq_true_eq] at hq20
        refine AWP.skip ?_
        refine AWP.seq ?_
        refine AWP.block ?_
        refine xe1 (os := [(0 : Int) ≤ i ∧ i < (↑n : Int), V.ptr 1000000000 (0 + Int.toNat i * 3) = V.ptr 1000000000 (0 + Int.toNat i * 3), (0 : Nat) + Int.toNat i * (3 : Nat) + (3 : Nat) ≤ List.length (rowsI L), V.agg true (List.take 3 (List.drop (0 + Int.toNat i * 3) (rowsI L))) = V.agg true [u32 a.t, u16 a.id, V.vs (u8s a.c) a.k]]) [(1, ⟨some (V.ptr 1000000000 (0 + Int.toNat i * 3)), none⟩), (2, ⟨some (V.agg true (It.row a)), none⟩)] [0, 3, 4, 5, 6, 7, 8, 20, 21, 22] [1000000000, 2000000030, 3, 5, 8] (by kernel_rfl) ⟨(by omega), rfl, (by first | omega | (simp [len_u8s]; done) | (simp [len_u8s]; omega)), (congrArg (V.agg true) (wr )), trivial⟩ ?_
        refine xe0 [0, 3, 4, 5, 6, 7, 20, 21, 22, 31] [1000000000, 2000000030, 3, 5] (by kernel_rfl) ?_
        refine AWP.cond (b := a.id == id) (by kernel_rfl) (fun hq21 => ?_) (fun hq21 => ?_)
        · simp only [beq_iff_eq] at hq21
          refine AWP.region tcok hmix [] (os := []) (sf := St.mk [(0, tp (V.ptr 2000000030 0)), (3, tp (V.ptr 3 0)), (4, tp (i64 0)), (5, tp (V.sl 5 0 0)), (6, tp (i64 i)), (7, tp (i64 i)), (20, tp (V.sl 1000000000 0 n)), (21, tp (i64 (↑n : Int))), (22, tp (i64 i)), (31, tp (vb (a.id == id))), (32, tp (i64 i))] [(3, Blk.mk [u8 d, u32 t, u16 id, V.vs (u8s c) k, i32 b, vb on] true 6 none), (5, Blk.mk [] true 0 (some (61, 1))), (1000000000, Blk.mk (rowsI L) true 0 (some (96, 3))), (2000000030, Blk.mk [V.sl 1000000000 0 n, vb off] false 2 none)]) (by kernel_rfl) trivial ?_
          refine AWP.keep' [0, 3, 4, 5, 6, 20, 21, 22] [1000000000, 2000000030, 3, 5] (sf := St.mk [(0, tp (V.ptr 2000000030 0)), (3, tp (V.ptr 3 0)), (4, tp (i64 0)), (5, tp (V.sl 5 0 0)), (6, tp (i64 i)), (20, tp (V.sl 1000000000 0 n)), (21, tp (i64 (↑n : Int))), (22, tp (i64 i))] [(3, Blk.mk [u8 d, u32 t, u16 id, V.vs (u8s c) k, i32 b, vb on] true 6 none), (5, Blk.mk [] true 0 (some (61, 1))), (1000000000, Blk.mk (rowsI L) true 0 (some (96, 3))), (2000000030, Blk.mk [V.sl 1000000000 0 n, vb off] false 2 none)]) (by kernel_rfl) ?_
          refine AWP.region tcok hmix [(0, ⟨some (i64 (i + 1)), none⟩)] (os := [i64 (IntKind.wrap IntKind.i64 (i + 1)) = i64 (i + 1)]) (sf := St.mk [(0, tp (V.ptr 2000000030 0)), (3, tp (V.ptr 3 0)), (4, tp (i64 0)), (5, tp (V.sl 5 0 0)), (6, tp (i64 i)), (20, tp (V.sl 1000000000 0 n)), (21, tp (i64 (↑n : Int))), (22, tp (i64 (i + 1))), (33, tp (i64 (i + 1)))] [(3, Blk.mk [u8 d, u32 t, u16 id, V.vs (u8s c) k, i32 b, vb on] true 6 none), (5, Blk.mk [] true 0 (some (61, 1))), (1000000000, Blk.mk (rowsI L) true 0 (some (96, 3))), (2000000030, Blk.mk [V.sl 1000000000 0 n, vb off] false 2 none)]) (by kernel_rfl) ⟨(wr_i64 (by omega) (by omega)), trivial⟩ ?_
          refine ⟨St.mk [(0, tp (V.ptr 2000000030 0)), (3, tp (V.ptr 3 0)), (4, tp (i64 0)), (5, tp (V.sl 5 0 0)), (6, tp (i64 i)), (20, tp (V.sl 1000000000 0 n)), (21, tp (i64 (↑n : Int))), (22, tp (i64 (i + 1)))] [(3, Blk.mk [u8 d, u32 t, u16 id, V.vs (u8s c) k, i32 b, vb on] true 6 none), (5, Blk.mk [] true 0 (some (61, 1))), (1000000000, Blk.mk (rowsI L) true 0 (some (96, 3))), (2000000030, Blk.mk [V.sl 1000000000 0 n, vb off] false 2 none)], by kernel_rfl, ?_⟩
          first | (exact ⟨(n - (i + 1)).toNat, (by omega), i + 1, i, rfl, e.symm, (by omega), (by omega), (by omega)⟩) | (exfalso; omega)
        simp only [beq_eq_false_iff_ne] at hq21
        (exfalso; omega)
      simp only [decide_eq_false_iff_not] at hq20
      (exfalso; omega)
    · rw [if_neg hid, ← hA] at e
      refine xe0 [0, 3, 4, 5, 6, 20, 21, 22, 23] [3, 5, 1000000000, 2000000030] (by kernel_rfl) ?_
      refine AWP.seq ?_
      refine AWP.cond (b := decide (i < (↑n : Int))) (by kernel_rfl) (fun hq22 => ?_) (fun hq22 => ?_)
      · simp only [decide_eq_true_eq] at hq22
        refine AWP.skip ?_
        refine AWP.seq ?_
        refine AWP.block ?_
        refine xe1 (os := [(0 : Int) ≤ i ∧ i < (↑n : Int), V.ptr 1000000000 (0 + Int.toNat i * 3) = V.ptr 1000000000 (0 + Int.toNat i * 3), (0 : Nat) + Int.toNat i * (3 : Nat) + (3 : Nat) ≤ List.length (rowsI L), V.agg true (List.take 3 (List.drop (0 + Int.toNat i * 3) (rowsI L))) = V.agg true [u32 a.t, u16 a.id, V.vs (u8s a.c) a.k]]) [(1, ⟨some (V.ptr 1000000000 (0 + Int.toNat i * 3)), none⟩), (2, ⟨some (V.agg true (It.row a)), none⟩)] [0, 3, 4, 5, 6, 7, 8, 20, 21, 22] [1000000000, 2000000030, 3, 5, 8] (by kernel_rfl) ⟨(by omega), rfl, (by first | omega | (simp [len_u8s]; done) | (simp [len_u8s]; omega)), (congrArg (V.agg true) (wr )), trivial⟩ ?_
        refine xe0 [0, 3, 4, 5, 6, 7, 20, 21, 22, 31] [1000000000, 2000000030, 3, 5] (by kernel_rfl) ?_
        refine AWP.cond (b := a.id == id) (by kernel_rfl) (fun hq23 => ?_) (fun hq23 => ?_)
        · simp only [beq_iff_eq] at hq23
          (exfalso; omega)
        simp only [beq_eq_false_iff_ne] at hq23
        refine AWP.skip ?_
        refine AWP.region tcok hmix [(0, ⟨some (i64 (i + 1)), none⟩)] (os := [i64 (IntKind.wrap IntKind.i64 (i + 1)) = i64 (i + 1)]) (sf := St.mk [(0, tp (V.ptr 2000000030 0)), (3, tp (V.ptr 3 0)), (4, tp (i64 0)), (5, tp (V.sl 5 0 0)), (6, tp (i64 A)), (7, tp (i64 i)), (20, tp (V.sl 1000000000 0 n)), (21, tp (i64 (↑n : Int))), (22, tp (i64 (i + 1))), (31, tp (vb (a.id == id))), (33, tp (i64 (i + 1)))] [(3, Blk.mk [u8 d, u32 t, u16 id, V.vs (u8s c) k, i32 b, vb on] true 6 none), (5, Blk.mk [] true 0 (some (61, 1))), (1000000000, Blk.mk (rowsI L) true 0 (some (96, 3))), (2000000030, Blk.mk [V.sl 1000000000 0 n, vb off] false 2 none)]) (by kernel_rfl) ⟨(wr_i64 (by omega) (by omega)), trivial⟩ ?_
        refine ⟨St.mk [(0, tp (V.ptr 2000000030 0)), (3, tp (V.ptr 3 0)), (4, tp (i64 0)), (5, tp (V.sl 5 0 0)), (6, tp (i64 A)), (20, tp (V.sl 1000000000 0 n)), (21, tp (i64 (↑n : Int))), (22, tp (i64 (i + 1)))] [(3, Blk.mk [u8 d, u32 t, u16 id, V.vs (u8s c) k, i32 b, vb on] true 6 none), (5, Blk.mk [] true 0 (some (61, 1))), (1000000000, Blk.mk (rowsI L) true 0 (some (96, 3))), (2000000030, Blk.mk [V.sl 1000000000 0 n, vb off] false 2 none)], by kernel_rfl, ?_⟩
        first | (exact ⟨(n - (i + 1)).toNat, (by omega), i + 1, A, rfl, e.symm, (by omega), (by omega), (by omega)⟩) | (exfalso; omega)
      simp only [decide_eq_false_iff_not] at hq22
      (exfalso; omega)
  have hin2 : i = n := by omega
  subst hin2
  clear hN hlt hi hin
  rw [Int.toNat_natCast] at hA
  refine xe0 [0, 3, 4, 5, 6, 20, 21, 22, 23] [3, 5, 1000000000, 2000000030] (by kernel_rfl) ?_
  refine AWP.seq ?_
  refine AWP.cond (b := decide ((↑n : Int) < (↑n : Int))) (by kernel_rfl) (fun hq24 => ?_) (fun hq24 => ?_)
  · simp only [decide_eq_true_eq] at hq24
    (exfalso; omega)
  simp only [decide_eq_false_iff_not] at hq24
  refine AWP.exit ?_
  refine xe0 [0, 3, 4, 5, 6, 9] [1000000000, 2000000030, 3, 5, 9] (by kernel_rfl) ?_
  refine AWP.seq ?_
  refine xe1 (os := [(8 : Int) ≠ (0 : Int), u8 (Int.tmod d 8) = u8 (d % 8)]) [(2, ⟨some (u8 (d % 8)), none⟩)] [0, 3, 4, 5, 6, 9, 36] [1000000000, 2000000030, 3, 5, 9] (by kernel_rfl) ⟨(by omega), (tm_ (by omega)), trivial⟩ ?_
  refine AWP.block ?_
  refine xe0 [0, 3, 4, 5, 6, 9, 36, 71] [1000000000, 2000000030, 3, 5, 9] (by kernel_rfl) ?_
  refine AWP.cond (b := d % 8 == 3) (by kernel_rfl) (fun hq25 => ?_) (fun hq25 => ?_)
  · simp only [beq_iff_eq] at hq25
    (exfalso; omega)
  simp only [beq_eq_false_iff_ne] at hq25
  refine xe0 [0, 3, 4, 5, 6, 9, 36, 94] [1000000000, 2000000030, 3, 5, 9] (by kernel_rfl) ?_
  refine AWP.cond (b := d % 8 == 4) (by kernel_rfl) (fun hq26 => ?_) (fun hq26 => ?_)
  · simp only [beq_iff_eq] at hq26
    (exfalso; omega)
  simp only [beq_eq_false_iff_ne] at hq26
  refine xe0 [0, 3, 4, 5, 6, 9, 36, 128] [1000000000, 2000000030, 3, 5, 9] (by kernel_rfl) ?_
  refine AWP.cond (b := d % 8 == 5) (by kernel_rfl) (fun hq27 => ?_) (fun hq27 => ?_)
  · simp only [beq_iff_eq] at hq27
    (exfalso; omega)
  simp only [beq_eq_false_iff_ne] at hq27
  refine xe0 [0, 3, 4, 5, 6, 9, 36, 166] [1000000000, 2000000030, 3, 5, 9] (by kernel_rfl) ?_
  refine AWP.cond (b := d % 8 == 6) (by kernel_rfl) (fun hq28 => ?_) (fun hq28 => ?_)
  · simp only [beq_iff_eq] at hq28
    (exfalso; omega)
  simp only [beq_eq_false_iff_ne] at hq28
  refine xe0 [0, 3, 4, 5, 6, 9, 174] [1000000000, 2000000030, 3, 5, 9] (by kernel_rfl) ?_
  refine AWP.cond (b := d % 8 == 7) (by kernel_rfl) (fun hq29 => ?_) (fun hq29 => ?_)
  · simp only [beq_iff_eq] at hq29
    (exfalso; omega)
  simp only [beq_eq_false_iff_ne] at hq29
  refine AWP.seq ?_
  refine AWP.block ?_
  refine xe0 [0, 3, 4, 5, 6, 9, 37] [1000000000, 2000000030, 3, 5, 9] (by kernel_rfl) ?_
  refine AWP.cond (b := decide ((↑k : Int) > 208)) (by kernel_rfl) (fun hq30 => ?_) (fun hq30 => ?_)
  · simp only [decide_eq_true_eq] at hq30
    (exfalso; omega)
  simp only [decide_eq_false_iff_not] at hq30
  refine xe0 [0, 3, 4, 5, 9, 42] [1000000000, 2000000030, 3, 5, 9] (by kernel_rfl) ?_
  refine AWP.cond (b := decide (A ≥ 0)) (by kernel_rfl) (fun hq31 => ?_) (fun hq31 => ?_)
  · simp only [decide_eq_true_eq] at hq31
    refine AWP.seq ?_
    refine AWP.keep' [0, 3, 9] [1000000000, 2000000030, 3, 9] (sf := St.mk [(0, tp (V.ptr 2000000030 0)), (3, tp (V.ptr 3 0)), (9, tp (V.sl 9 0 0))] [(3, Blk.mk [u8 d, u32 t, u16 id, V.vs (u8s c) k, i32 b, vb on] true 6 none), (9, Blk.mk [] true 0 (some (61, 1))), (1000000000, Blk.mk (rowsI L) true 0 (some (96, 3))), (2000000030, Blk.mk [V.sl 1000000000 0 n, vb off] false 2 none)]) (by kernel_rfl) ?_
    refine xg0 [0, 3, 4, 5, 9] [3, 5, 9, 1000000000, 2000000030] (by kernel_rfl) ?_
    refine AWP.frz 5 (s' := St.mk [(0, tp (V.ptr 2000000030 0)), (3, tp (V.ptr 3 0)), (4, tp (i64 8)), (5, tp (V.vs [] 0)), (9, tp (V.sl 9 0 0))] [(3, Blk.mk [u8 d, u32 t, u16 id, V.vs (u8s c) k, i32 b, vb on] true 6 none), (9, Blk.mk [] true 0 (some (61, 1))), (1000000000, Blk.mk (rowsI L) true 0 (some (96, 3))), (2000000030, Blk.mk [V.sl 1000000000 0 n, vb off] false 2 none)]) (by kernel_rfl) ?_
    refine AWP.ret ?_
    refine ⟨Or.inr rfl, Eq.trans (b := some ([(1000000000, Blk.mk (rowsI L) true 0 (some (96, 3))), (2000000030, Blk.mk [V.sl 1000000000 0 n, vb off] false 2 none)], V.tup [i64 8, V.vs [] 0])) (by kernel_rfl) ?_⟩
    first | rfl | (exfalso; omega)
  simp only [decide_eq_false_iff_not] at hq31
  (exfalso; omega)
theorem con_do_full (L : List It) (n : Nat) (hn : L.length = n) (hm : n ≤ 1000) (off : Bool) (d t id b : Int) (hd : 0 ≤ d ∧ d < 256) (c : List Int) (k : Nat) (on : Bool) (hd8 : d % 8 < 3) (hk : k ≤ 208) (hat : atP id L n = -1) (h32 : n = 32) :
    Con Try.prog 33 [(1000000000, ⟨rowsI L, true, 0, some (96, 3)⟩), (2000000030, ⟨[.sl 1000000000 0 n, vb off], false, 2, none⟩)] [.ptr 2000000030 0, .agg true [u8 d, u32 t, u16 id, .vs (u8s c) k, i32 b, vb on]]
      [(1000000000, ⟨rowsI L, true, 0, some (96, 3)⟩), (2000000030, ⟨[.sl 1000000000 0 n, vb off], false, 2, none⟩)] (.tup [i64 6, .vs [] 0]) := by
  have hrl := rowsI_len L
  refine Con.of (C := ⟨Try.prog, tc, Try.f33.ntmps⟩) [1000000000, 2000000030] tcok Try.func33 rfl rfl (by kernel_rfl) (by kernel_rfl) ?_
  refine xe0 [0, 3, 4, 5] [1000000000, 2000000030, 3, 5] (by kernel_rfl) ?_
  refine xe0 [0, 3, 4, 5, 6] [3, 5, 1000000000, 2000000030] (by kernel_rfl) ?_
  refine AWP.seq ?_
  refine xe0 [0, 3, 4, 5, 6, 20, 21, 22] [1000000000, 2000000030, 3, 5] (by kernel_rfl) ?_
  refine AWP.block ?_
  refine AWP.loopI [22, 21, 20, 3, 6, 0, 4, 5] [3, 5, 1000000000, 2000000030] (fun N s' => ∃ (i A : Int), s' = St.mk [(0, T.plain (V.ptr 2000000030 0)), (3, T.plain (V.ptr 3 0)), (4, T.plain (i64 0)), (5, T.plain (V.sl 5 0 0)), (6, T.plain (i64 A)), (20, T.plain (V.sl 1000000000 0 n)), (21, T.plain (i64 (n : Int))), (22, T.plain (i64 i))] [(3, Blk.mk [u8 d, u32 t, u16 id, V.vs (u8s c) k, i32 b, vb on] true 6 none), (5, Blk.mk [] true 0 (some (61, 1))), (1000000000, Blk.mk (rowsI L) true 0 (some (96, 3))), (2000000030, Blk.mk [V.sl 1000000000 0 n, vb off] false 2 none)] ∧ A = atP id L i.toNat ∧ 0 ≤ i ∧ i ≤ n ∧ (N : Int) = n - i) n (s0 := St.mk [(0, T.plain (V.ptr 2000000030 0)), (3, T.plain (V.ptr 3 0)), (4, T.plain (i64 0)), (5, T.plain (V.sl 5 0 0)), (6, T.plain (i64 (-1))), (20, T.plain (V.sl 1000000000 0 n)), (21, T.plain (i64 (n : Int))), (22, T.plain (i64 0))] [(3, Blk.mk [u8 d, u32 t, u16 id, V.vs (u8s c) k, i32 b, vb on] true 6 none), (5, Blk.mk [] true 0 (some (61, 1))), (1000000000, Blk.mk (rowsI L) true 0 (some (96, 3))), (2000000030, Blk.mk [V.sl 1000000000 0 n, vb off] false 2 none)]) (by kernel_rfl) ?_ ?_
  · exact ⟨0, -1, rfl, rfl, by omega, by omega, by omega⟩
  rintro N s' ⟨i, A, rfl, hA, hi, hin, hN⟩
  by_cases hlt : i < n
  · obtain ⟨a, ha⟩ : ∃ a, L[i.toNat]? = some a := ⟨_, List.getElem?_eq_getElem (by omega)⟩
    have wr := rowsI_at ha
    have e := atP_at (id := id) ha
    rw [show i.toNat + 1 = (i + 1).toNat by omega] at e
    by_cases hid : a.id = id
    · rw [if_pos hid, Int.toNat_of_nonneg hi] at e
      refine xe0 [0, 3, 4, 5, 6, 20, 21, 22, 23] [3, 5, 1000000000, 2000000030] (by kernel_rfl) ?_
      refine AWP.seq ?_
      refine AWP.cond (b := decide (i < (↑n : Int))) (by kernel_rfl) (fun hq32 => ?_) (fun hq32 => ?_)
      · simp only [decide_eq_true_eq] at hq32
        refine AWP.skip ?_
        refine AWP.seq ?_
        refine AWP.block ?_
        refine xe1 (os := [(0 : Int) ≤ i ∧ i < (↑n : Int), V.ptr 1000000000 (0 + Int.toNat i * 3) = V.ptr 1000000000 (0 + Int.toNat i * 3), (0 : Nat) + Int.toNat i * (3 : Nat) + (3 : Nat) ≤ List.length (rowsI L), V.agg true (List.take 3 (List.drop (0 + Int.toNat i * 3) (rowsI L))) = V.agg true [u32 a.t, u16 a.id, V.vs (u8s a.c) a.k]]) [(1, ⟨some (V.ptr 1000000000 (0 + Int.toNat i * 3)), none⟩), (2, ⟨some (V.agg true (It.row a)), none⟩)] [0, 3, 4, 5, 6, 7, 8, 20, 21, 22] [1000000000, 2000000030, 3, 5, 8] (by kernel_rfl) ⟨(by omega), rfl, (by first | omega | (simp [len_u8s]; done) | (simp [len_u8s]; omega)), (congrArg (V.agg true) (wr )), trivial⟩ ?_
        refine xe0 [0, 3, 4, 5, 6, 7, 20, 21, 22, 31] [1000000000, 2000000030, 3, 5] (by kernel_rfl) ?_
        refine AWP.cond (b := a.id == id) (by kernel_rfl) (fun hq33 => ?_) (fun hq33 => ?_)
        · simp only [beq_iff_eq] at hq33
          refine AWP.region tcok hmix [] (os := []) (sf := St.mk [(0, tp (V.ptr 2000000030 0)), (3, tp (V.ptr 3 0)), (4, tp (i64 0)), (5, tp (V.sl 5 0 0)), (6, tp (i64 i)), (7, tp (i64 i)), (20, tp (V.sl 1000000000 0 n)), (21, tp (i64 (↑n : Int))), (22, tp (i64 i)), (31, tp (vb (a.id == id))), (32, tp (i64 i))] [(3, Blk.mk [u8 d, u32 t, u16 id, V.vs (u8s c) k, i32 b, vb on] true 6 none), (5, Blk.mk [] true 0 (some (61, 1))), (1000000000, Blk.mk (rowsI L) true 0 (some (96, 3))), (2000000030, Blk.mk [V.sl 1000000000 0 n, vb off] false 2 none)]) (by kernel_rfl) trivial ?_
          refine AWP.keep' [0, 3, 4, 5, 6, 20, 21, 22] [1000000000, 2000000030, 3, 5] (sf := St.mk [(0, tp (V.ptr 2000000030 0)), (3, tp (V.ptr 3 0)), (4, tp (i64 0)), (5, tp (V.sl 5 0 0)), (6, tp (i64 i)), (20, tp (V.sl 1000000000 0 n)), (21, tp (i64 (↑n : Int))), (22, tp (i64 i))] [(3, Blk.mk [u8 d, u32 t, u16 id, V.vs (u8s c) k, i32 b, vb on] true 6 none), (5, Blk.mk [] true 0 (some (61, 1))), (1000000000, Blk.mk (rowsI L) true 0 (some (96, 3))), (2000000030, Blk.mk [V.sl 1000000000 0 n, vb off] false 2 none)]) (by kernel_rfl) ?_
          refine AWP.region tcok hmix [(0, ⟨some (i64 (i + 1)), none⟩)] (os := [i64 (IntKind.wrap IntKind.i64 (i + 1)) = i64 (i + 1)]) (sf := St.mk [(0, tp (V.ptr 2000000030 0)), (3, tp (V.ptr 3 0)), (4, tp (i64 0)), (5, tp (V.sl 5 0 0)), (6, tp (i64 i)), (20, tp (V.sl 1000000000 0 n)), (21, tp (i64 (↑n : Int))), (22, tp (i64 (i + 1))), (33, tp (i64 (i + 1)))] [(3, Blk.mk [u8 d, u32 t, u16 id, V.vs (u8s c) k, i32 b, vb on] true 6 none), (5, Blk.mk [] true 0 (some (61, 1))), (1000000000, Blk.mk (rowsI L) true 0 (some (96, 3))), (2000000030, Blk.mk [V.sl 1000000000 0 n, vb off] false 2 none)]) (by kernel_rfl) ⟨(wr_i64 (by omega) (by omega)), trivial⟩ ?_
          refine ⟨St.mk [(0, tp (V.ptr 2000000030 0)), (3, tp (V.ptr 3 0)), (4, tp (i64 0)), (5, tp (V.sl 5 0 0)), (6, tp (i64 i)), (20, tp (V.sl 1000000000 0 n)), (21, tp (i64 (↑n : Int))), (22, tp (i64 (i + 1)))] [(3, Blk.mk [u8 d, u32 t, u16 id, V.vs (u8s c) k, i32 b, vb on] true 6 none), (5, Blk.mk [] true 0 (some (61, 1))), (1000000000, Blk.mk (rowsI L) true 0 (some (96, 3))), (2000000030, Blk.mk [V.sl 1000000000 0 n, vb off] false 2 none)], by kernel_rfl, ?_⟩
          first | (exact ⟨(n - (i + 1)).toNat, (by omega), i + 1, i, rfl, e.symm, (by omega), (by omega), (by omega)⟩) | (exfalso; omega)
        simp only [beq_eq_false_iff_ne] at hq33
        (exfalso; omega)
      simp only [decide_eq_false_iff_not] at hq32
      (exfalso; omega)
    · rw [if_neg hid, ← hA] at e
      refine xe0 [0, 3, 4, 5, 6, 20, 21, 22, 23] [3, 5, 1000000000, 2000000030] (by kernel_rfl) ?_
      refine AWP.seq ?_
      refine AWP.cond (b := decide (i < (↑n : Int))) (by kernel_rfl) (fun hq34 => ?_) (fun hq34 => ?_)
      · simp only [decide_eq_true_eq] at hq34
        refine AWP.skip ?_
        refine AWP.seq ?_
        refine AWP.block ?_
        refine xe1 (os := [(0 : Int) ≤ i ∧ i < (↑n : Int), V.ptr 1000000000 (0 + Int.toNat i * 3) = V.ptr 1000000000 (0 + Int.toNat i * 3), (0 : Nat) + Int.toNat i * (3 : Nat) + (3 : Nat) ≤ List.length (rowsI L), V.agg true (List.take 3 (List.drop (0 + Int.toNat i * 3) (rowsI L))) = V.agg true [u32 a.t, u16 a.id, V.vs (u8s a.c) a.k]]) [(1, ⟨some (V.ptr 1000000000 (0 + Int.toNat i * 3)), none⟩), (2, ⟨some (V.agg true (It.row a)), none⟩)] [0, 3, 4, 5, 6, 7, 8, 20, 21, 22] [1000000000, 2000000030, 3, 5, 8] (by kernel_rfl) ⟨(by omega), rfl, (by first | omega | (simp [len_u8s]; done) | (simp [len_u8s]; omega)), (congrArg (V.agg true) (wr )), trivial⟩ ?_
        refine xe0 [0, 3, 4, 5, 6, 7, 20, 21, 22, 31] [1000000000, 2000000030, 3, 5] (by kernel_rfl) ?_
        refine AWP.cond (b := a.id == id) (by kernel_rfl) (fun hq35 => ?_) (fun hq35 => ?_)
        · simp only [beq_iff_eq] at hq35
          (exfalso; omega)
        simp only [beq_eq_false_iff_ne] at hq35
        refine AWP.skip ?_
        refine AWP.region tcok hmix [(0, ⟨some (i64 (i + 1)), none⟩)] (os := [i64 (IntKind.wrap IntKind.i64 (i + 1)) = i64 (i + 1)]) (sf := St.mk [(0, tp (V.ptr 2000000030 0)), (3, tp (V.ptr 3 0)), (4, tp (i64 0)), (5, tp (V.sl 5 0 0)), (6, tp (i64 A)), (7, tp (i64 i)), (20, tp (V.sl 1000000000 0 n)), (21, tp (i64 (↑n : Int))), (22, tp (i64 (i + 1))), (31, tp (vb (a.id == id))), (33, tp (i64 (i + 1)))] [(3, Blk.mk [u8 d, u32 t, u16 id, V.vs (u8s c) k, i32 b, vb on] true 6 none), (5, Blk.mk [] true 0 (some (61, 1))), (1000000000, Blk.mk (rowsI L) true 0 (some (96, 3))), (2000000030, Blk.mk [V.sl 1000000000 0 n, vb off] false 2 none)]) (by kernel_rfl) ⟨(wr_i64 (by omega) (by omega)), trivial⟩ ?_
        refine ⟨St.mk [(0, tp (V.ptr 2000000030 0)), (3, tp (V.ptr 3 0)), (4, tp (i64 0)), (5, tp (V.sl 5 0 0)), (6, tp (i64 A)), (20, tp (V.sl 1000000000 0 n)), (21, tp (i64 (↑n : Int))), (22, tp (i64 (i + 1)))] [(3, Blk.mk [u8 d, u32 t, u16 id, V.vs (u8s c) k, i32 b, vb on] true 6 none), (5, Blk.mk [] true 0 (some (61, 1))), (1000000000, Blk.mk (rowsI L) true 0 (some (96, 3))), (2000000030, Blk.mk [V.sl 1000000000 0 n, vb off] false 2 none)], by kernel_rfl, ?_⟩
        first | (exact ⟨(n - (i + 1)).toNat, (by omega), i + 1, A, rfl, e.symm, (by omega), (by omega), (by omega)⟩) | (exfalso; omega)
      simp only [decide_eq_false_iff_not] at hq34
      (exfalso; omega)
  have hin2 : i = n := by omega
  subst hin2
  clear hN hlt hi hin
  rw [Int.toNat_natCast] at hA
  refine xe0 [0, 3, 4, 5, 6, 20, 21, 22, 23] [3, 5, 1000000000, 2000000030] (by kernel_rfl) ?_
  refine AWP.seq ?_
  refine AWP.cond (b := decide ((↑n : Int) < (↑n : Int))) (by kernel_rfl) (fun hq36 => ?_) (fun hq36 => ?_)
  · simp only [decide_eq_true_eq] at hq36
    (exfalso; omega)
  simp only [decide_eq_false_iff_not] at hq36
  refine AWP.exit ?_
  refine xe0 [0, 3, 4, 5, 6, 9] [1000000000, 2000000030, 3, 5, 9] (by kernel_rfl) ?_
  refine AWP.seq ?_
  refine xe1 (os := [(8 : Int) ≠ (0 : Int), u8 (Int.tmod d 8) = u8 (d % 8)]) [(2, ⟨some (u8 (d % 8)), none⟩)] [0, 3, 4, 5, 6, 9, 36] [1000000000, 2000000030, 3, 5, 9] (by kernel_rfl) ⟨(by omega), (tm_ (by omega)), trivial⟩ ?_
  refine AWP.block ?_
  refine xe0 [0, 3, 4, 5, 6, 9, 36, 71] [1000000000, 2000000030, 3, 5, 9] (by kernel_rfl) ?_
  refine AWP.cond (b := d % 8 == 3) (by kernel_rfl) (fun hq37 => ?_) (fun hq37 => ?_)
  · simp only [beq_iff_eq] at hq37
    (exfalso; omega)
  simp only [beq_eq_false_iff_ne] at hq37
  refine xe0 [0, 3, 4, 5, 6, 9, 36, 94] [1000000000, 2000000030, 3, 5, 9] (by kernel_rfl) ?_
  refine AWP.cond (b := d % 8 == 4) (by kernel_rfl) (fun hq38 => ?_) (fun hq38 => ?_)
  · simp only [beq_iff_eq] at hq38
    (exfalso; omega)
  simp only [beq_eq_false_iff_ne] at hq38
  refine xe0 [0, 3, 4, 5, 6, 9, 36, 128] [1000000000, 2000000030, 3, 5, 9] (by kernel_rfl) ?_
  refine AWP.cond (b := d % 8 == 5) (by kernel_rfl) (fun hq39 => ?_) (fun hq39 => ?_)
  · simp only [beq_iff_eq] at hq39
    (exfalso; omega)
  simp only [beq_eq_false_iff_ne] at hq39
  refine xe0 [0, 3, 4, 5, 6, 9, 36, 166] [1000000000, 2000000030, 3, 5, 9] (by kernel_rfl) ?_
  refine AWP.cond (b := d % 8 == 6) (by kernel_rfl) (fun hq40 => ?_) (fun hq40 => ?_)
  · simp only [beq_iff_eq] at hq40
    (exfalso; omega)
  simp only [beq_eq_false_iff_ne] at hq40
  refine xe0 [0, 3, 4, 5, 6, 9, 174] [1000000000, 2000000030, 3, 5, 9] (by kernel_rfl) ?_
  refine AWP.cond (b := d % 8 == 7) (by kernel_rfl) (fun hq41 => ?_) (fun hq41 => ?_)
  · simp only [beq_iff_eq] at hq41
    (exfalso; omega)
  simp only [beq_eq_false_iff_ne] at hq41
  refine AWP.seq ?_
  refine AWP.block ?_
  refine xe0 [0, 3, 4, 5, 6, 9, 37] [1000000000, 2000000030, 3, 5, 9] (by kernel_rfl) ?_
  refine AWP.cond (b := decide ((↑k : Int) > 208)) (by kernel_rfl) (fun hq42 => ?_) (fun hq42 => ?_)
  · simp only [decide_eq_true_eq] at hq42
    (exfalso; omega)
  simp only [decide_eq_false_iff_not] at hq42
  refine xe0 [0, 3, 4, 5, 9, 42] [1000000000, 2000000030, 3, 5, 9] (by kernel_rfl) ?_
  refine AWP.cond (b := decide (A ≥ 0)) (by kernel_rfl) (fun hq43 => ?_) (fun hq43 => ?_)
  · simp only [decide_eq_true_eq] at hq43
    (exfalso; omega)
  simp only [decide_eq_false_iff_not] at hq43
  refine xe0 [0, 3, 4, 5, 9, 45] [1000000000, 2000000030, 3, 5, 9] (by kernel_rfl) ?_
  refine AWP.cond (b := (↑n : Int) == 32) (by kernel_rfl) (fun hq44 => ?_) (fun hq44 => ?_)
  · simp only [beq_iff_eq] at hq44
    refine AWP.seq ?_
    refine AWP.keep' [0, 3, 9] [1000000000, 2000000030, 3, 9] (sf := St.mk [(0, tp (V.ptr 2000000030 0)), (3, tp (V.ptr 3 0)), (9, tp (V.sl 9 0 0))] [(3, Blk.mk [u8 d, u32 t, u16 id, V.vs (u8s c) k, i32 b, vb on] true 6 none), (9, Blk.mk [] true 0 (some (61, 1))), (1000000000, Blk.mk (rowsI L) true 0 (some (96, 3))), (2000000030, Blk.mk [V.sl 1000000000 0 n, vb off] false 2 none)]) (by kernel_rfl) ?_
    refine xg0 [0, 3, 4, 5, 9] [3, 5, 9, 1000000000, 2000000030] (by kernel_rfl) ?_
    refine AWP.frz 5 (s' := St.mk [(0, tp (V.ptr 2000000030 0)), (3, tp (V.ptr 3 0)), (4, tp (i64 6)), (5, tp (V.vs [] 0)), (9, tp (V.sl 9 0 0))] [(3, Blk.mk [u8 d, u32 t, u16 id, V.vs (u8s c) k, i32 b, vb on] true 6 none), (9, Blk.mk [] true 0 (some (61, 1))), (1000000000, Blk.mk (rowsI L) true 0 (some (96, 3))), (2000000030, Blk.mk [V.sl 1000000000 0 n, vb off] false 2 none)]) (by kernel_rfl) ?_
    refine AWP.ret ?_
    refine ⟨Or.inr rfl, Eq.trans (b := some ([(1000000000, Blk.mk (rowsI L) true 0 (some (96, 3))), (2000000030, Blk.mk [V.sl 1000000000 0 n, vb off] false 2 none)], V.tup [i64 6, V.vs [] 0])) (by kernel_rfl) ?_⟩
    first | rfl | (exfalso; omega)
  simp only [beq_eq_false_iff_ne] at hq44
  (exfalso; omega)
theorem con_do_delno (L : List It) (n : Nat) (hn : L.length = n) (hm : n ≤ 1000) (off : Bool) (d t id b : Int) (hd : 0 ≤ d ∧ d < 256) (c : List Int) (k : Nat) (on : Bool) (hd8 : d % 8 = 3) (hat : atP id L n = -1) :
    Con Try.prog 33 [(1000000000, ⟨rowsI L, true, 0, some (96, 3)⟩), (2000000030, ⟨[.sl 1000000000 0 n, vb off], false, 2, none⟩)] [.ptr 2000000030 0, .agg true [u8 d, u32 t, u16 id, .vs (u8s c) k, i32 b, vb on]]
      [(1000000000, ⟨rowsI L, true, 0, some (96, 3)⟩), (2000000030, ⟨[.sl 1000000000 0 n, vb off], false, 2, none⟩)] (.tup [i64 3, .vs [] 0]) := by
  have hrl := rowsI_len L
  refine Con.of (C := ⟨Try.prog, tc, Try.f33.ntmps⟩) [1000000000, 2000000030] tcok Try.func33 rfl rfl (by kernel_rfl) (by kernel_rfl) ?_
  refine xe0 [0, 3, 4, 5] [1000000000, 2000000030, 3, 5] (by kernel_rfl) ?_
  refine xe0 [0, 3, 4, 5, 6] [3, 5, 1000000000, 2000000030] (by kernel_rfl) ?_
  refine AWP.seq ?_
  refine xe0 [0, 3, 4, 5, 6, 20, 21, 22] [1000000000, 2000000030, 3, 5] (by kernel_rfl) ?_
  refine AWP.block ?_
  refine AWP.loopI [22, 21, 20, 3, 6, 0, 4, 5] [3, 5, 1000000000, 2000000030] (fun N s' => ∃ (i A : Int), s' = St.mk [(0, T.plain (V.ptr 2000000030 0)), (3, T.plain (V.ptr 3 0)), (4, T.plain (i64 0)), (5, T.plain (V.sl 5 0 0)), (6, T.plain (i64 A)), (20, T.plain (V.sl 1000000000 0 n)), (21, T.plain (i64 (n : Int))), (22, T.plain (i64 i))] [(3, Blk.mk [u8 d, u32 t, u16 id, V.vs (u8s c) k, i32 b, vb on] true 6 none), (5, Blk.mk [] true 0 (some (61, 1))), (1000000000, Blk.mk (rowsI L) true 0 (some (96, 3))), (2000000030, Blk.mk [V.sl 1000000000 0 n, vb off] false 2 none)] ∧ A = atP id L i.toNat ∧ 0 ≤ i ∧ i ≤ n ∧ (N : Int) = n - i) n (s0 := St.mk [(0, T.plain (V.ptr 2000000030 0)), (3, T.plain (V.ptr 3 0)), (4, T.plain (i64 0)), (5, T.plain (V.sl 5 0 0)), (6, T.plain (i64 (-1))), (20, T.plain (V.sl 1000000000 0 n)), (21, T.plain (i64 (n : Int))), (22, T.plain (i64 0))] [(3, Blk.mk [u8 d, u32 t, u16 id, V.vs (u8s c) k, i32 b, vb on] true 6 none), (5, Blk.mk [] true 0 (some (61, 1))), (1000000000, Blk.mk (rowsI L) true 0 (some (96, 3))), (2000000030, Blk.mk [V.sl 1000000000 0 n, vb off] false 2 none)]) (by kernel_rfl) ?_ ?_
  · exact ⟨0, -1, rfl, rfl, by omega, by omega, by omega⟩
  rintro N s' ⟨i, A, rfl, hA, hi, hin, hN⟩
  by_cases hlt : i < n
  · obtain ⟨a, ha⟩ : ∃ a, L[i.toNat]? = some a := ⟨_, List.getElem?_eq_getElem (by omega)⟩
    have wr := rowsI_at ha
    have e := atP_at (id := id) ha
    rw [show i.toNat + 1 = (i + 1).toNat by omega] at e
    by_cases hid : a.id = id
    · rw [if_pos hid, Int.toNat_of_nonneg hi] at e
      refine xe0 [0, 3, 4, 5, 6, 20, 21, 22, 23] [3, 5, 1000000000, 2000000030] (by kernel_rfl) ?_
      refine AWP.seq ?_
      refine AWP.cond (b := decide (i < (↑n : Int))) (by kernel_rfl) (fun hq45 => ?_) (fun hq45 => ?_)
      · simp only [decide_eq_true_eq] at hq45
        refine AWP.skip ?_
        refine AWP.seq ?_
        refine AWP.block ?_
        refine xe1 (os := [(0 : Int) ≤ i ∧ i < (↑n : Int), V.ptr 1000000000 (0 + Int.toNat i * 3) = V.ptr 1000000000 (0 + Int.toNat i * 3), (0 : Nat) + Int.toNat i * (3 : Nat) + (3 : Nat) ≤ List.length (rowsI L), V.agg true (List.take 3 (List.drop (0 + Int.toNat i * 3) (rowsI L))) = V.agg true [u32 a.t, u16 a.id, V.vs (u8s a.c) a.k]]) [(1, ⟨some (V.ptr 1000000000 (0 + Int.toNat i * 3)), none⟩), (2, ⟨some (V.agg true (It.row a)), none⟩)] [0, 3, 4, 5, 6, 7, 8, 20, 21, 22] [1000000000, 2000000030, 3, 5, 8] (by kernel_rfl) ⟨(by omega), rfl, (by first | omega | (simp [len_u8s]; done) | (simp [len_u8s]; omega)), (congrArg (V.agg true) (wr )), trivial⟩ ?_
        refine xe0 [0, 3, 4, 5, 6, 7, 20, 21, 22, 31] [1000000000, 2000000030, 3, 5] (by kernel_rfl) ?_
        refine AWP.cond (b := a.id == id) (by kernel_rfl) (fun hq46 => ?_) (fun hq46 => ?_)
        · simp only [beq_iff_eq] at hq46
          refine AWP.region tcok hmix [] (os := []) (sf := St.mk [(0, tp (V.ptr 2000000030 0)), (3, tp (V.ptr 3 0)), (4, tp (i64 0)), (5, tp (V.sl 5 0 0)), (6, tp (i64 i)), (7, tp (i64 i)), (20, tp (V.sl 1000000000 0 n)), (21, tp (i64 (↑n : Int))), (22, tp (i64 i)), (31, tp (vb (a.id == id))), (32, tp (i64 i))] [(3, Blk.mk [u8 d, u32 t, u16 id, V.vs (u8s c) k, i32 b, vb on] true 6 none), (5, Blk.mk [] true 0 (some (61, 1))), (1000000000, Blk.mk (rowsI L) true 0 (some (96, 3))), (2000000030, Blk.mk [V.sl 1000000000 0 n, vb off] false 2 none)]) (by kernel_rfl) trivial ?_
          refine AWP.keep' [0, 3, 4, 5, 6, 20, 21, 22] [1000000000, 2000000030, 3, 5] (sf := St.mk [(0, tp (V.ptr 2000000030 0)), (3, tp (V.ptr 3 0)), (4, tp (i64 0)), (5, tp (V.sl 5 0 0)), (6, tp (i64 i)), (20, tp (V.sl 1000000000 0 n)), (21, tp (i64 (↑n : Int))), (22, tp (i64 i))] [(3, Blk.mk [u8 d, u32 t, u16 id, V.vs (u8s c) k, i32 b, vb on] true 6 none), (5, Blk.mk [] true 0 (some (61, 1))), (1000000000, Blk.mk (rowsI L) true 0 (some (96, 3))), (2000000030, Blk.mk [V.sl 1000000000 0 n, vb off] false 2 none)]) (by kernel_rfl) ?_
          refine AWP.region tcok hmix [(0, ⟨some (i64 (i + 1)), none⟩)] (os := [i64 (IntKind.wrap IntKind.i64 (i + 1)) = i64 (i + 1)]) (sf := St.mk [(0, tp (V.ptr 2000000030 0)), (3, tp (V.ptr 3 0)), (4, tp (i64 0)), (5, tp (V.sl 5 0 0)), (6, tp (i64 i)), (20, tp (V.sl 1000000000 0 n)), (21, tp (i64 (↑n : Int))), (22, tp (i64 (i + 1))), (33, tp (i64 (i + 1)))] [(3, Blk.mk [u8 d, u32 t, u16 id, V.vs (u8s c) k, i32 b, vb on] true 6 none), (5, Blk.mk [] true 0 (some (61, 1))), (1000000000, Blk.mk (rowsI L) true 0 (some (96, 3))), (2000000030, Blk.mk [V.sl 1000000000 0 n, vb off] false 2 none)]) (by kernel_rfl) ⟨(wr_i64 (by omega) (by omega)), trivial⟩ ?_
          refine ⟨St.mk [(0, tp (V.ptr 2000000030 0)), (3, tp (V.ptr 3 0)), (4, tp (i64 0)), (5, tp (V.sl 5 0 0)), (6, tp (i64 i)), (20, tp (V.sl 1000000000 0 n)), (21, tp (i64 (↑n : Int))), (22, tp (i64 (i + 1)))] [(3, Blk.mk [u8 d, u32 t, u16 id, V.vs (u8s c) k, i32 b, vb on] true 6 none), (5, Blk.mk [] true 0 (some (61, 1))), (1000000000, Blk.mk (rowsI L) true 0 (some (96, 3))), (2000000030, Blk.mk [V.sl 1000000000 0 n, vb off] false 2 none)], by kernel_rfl, ?_⟩
          first | (exact ⟨(n - (i + 1)).toNat, (by omega), i + 1, i, rfl, e.symm, (by omega), (by omega), (by omega)⟩) | (exfalso; omega)
        simp only [beq_eq_false_iff_ne] at hq46
        (exfalso; omega)
      simp only [decide_eq_false_iff_not] at hq45
      (exfalso; omega)
    · rw [if_neg hid, ← hA] at e
      refine xe0 [0, 3, 4, 5, 6, 20, 21, 22, 23] [3, 5, 1000000000, 2000000030] (by kernel_rfl) ?_
      refine AWP.seq ?_
      refine AWP.cond (b := decide (i < (↑n : Int))) (by kernel_rfl) (fun hq47 => ?_) (fun hq47 => ?_)
      · simp only [decide_eq_true_eq] at hq47
        refine AWP.skip ?_
        refine AWP.seq ?_
        refine AWP.block ?_
        refine xe1 (os := [(0 : Int) ≤ i ∧ i < (↑n : Int), V.ptr 1000000000 (0 + Int.toNat i * 3) = V.ptr 1000000000 (0 + Int.toNat i * 3), (0 : Nat) + Int.toNat i * (3 : Nat) + (3 : Nat) ≤ List.length (rowsI L), V.agg true (List.take 3 (List.drop (0 + Int.toNat i * 3) (rowsI L))) = V.agg true [u32 a.t, u16 a.id, V.vs (u8s a.c) a.k]]) [(1, ⟨some (V.ptr 1000000000 (0 + Int.toNat i * 3)), none⟩), (2, ⟨some (V.agg true (It.row a)), none⟩)] [0, 3, 4, 5, 6, 7, 8, 20, 21, 22] [1000000000, 2000000030, 3, 5, 8] (by kernel_rfl) ⟨(by omega), rfl, (by first | omega | (simp [len_u8s]; done) | (simp [len_u8s]; omega)), (congrArg (V.agg true) (wr )), trivial⟩ ?_
        refine xe0 [0, 3, 4, 5, 6, 7, 20, 21, 22, 31] [1000000000, 2000000030, 3, 5] (by kernel_rfl) ?_
        refine AWP.cond (b := a.id == id) (by kernel_rfl) (fun hq48 => ?_) (fun hq48 => ?_)
        · simp only [beq_iff_eq] at hq48
          (exfalso; omega)
        simp only [beq_eq_false_iff_ne] at hq48
        refine AWP.skip ?_
        refine AWP.region tcok hmix [(0, ⟨some (i64 (i + 1)), none⟩)] (os := [i64 (IntKind.wrap IntKind.i64 (i + 1)) = i64 (i + 1)]) (sf := St.mk [(0, tp (V.ptr 2000000030 0)), (3, tp (V.ptr 3 0)), (4, tp (i64 0)), (5, tp (V.sl 5 0 0)), (6, tp (i64 A)), (7, tp (i64 i)), (20, tp (V.sl 1000000000 0 n)), (21, tp (i64 (↑n : Int))), (22, tp (i64 (i + 1))), (31, tp (vb (a.id == id))), (33, tp (i64 (i + 1)))] [(3, Blk.mk [u8 d, u32 t, u16 id, V.vs (u8s c) k, i32 b, vb on] true 6 none), (5, Blk.mk [] true 0 (some (61, 1))), (1000000000, Blk.mk (rowsI L) true 0 (some (96, 3))), (2000000030, Blk.mk [V.sl 1000000000 0 n, vb off] false 2 none)]) (by kernel_rfl) ⟨(wr_i64 (by omega) (by omega)), trivial⟩ ?_
        refine ⟨St.mk [(0, tp (V.ptr 2000000030 0)), (3, tp (V.ptr 3 0)), (4, tp (i64 0)), (5, tp (V.sl 5 0 0)), (6, tp (i64 A)), (20, tp (V.sl 1000000000 0 n)), (21, tp (i64 (↑n : Int))), (22, tp (i64 (i + 1)))] [(3, Blk.mk [u8 d, u32 t, u16 id, V.vs (u8s c) k, i32 b, vb on] true 6 none), (5, Blk.mk [] true 0 (some (61, 1))), (1000000000, Blk.mk (rowsI L) true 0 (some (96, 3))), (2000000030, Blk.mk [V.sl 1000000000 0 n, vb off] false 2 none)], by kernel_rfl, ?_⟩
        first | (exact ⟨(n - (i + 1)).toNat, (by omega), i + 1, A, rfl, e.symm, (by omega), (by omega), (by omega)⟩) | (exfalso; omega)
      simp only [decide_eq_false_iff_not] at hq47
      (exfalso; omega)
  have hin2 : i = n := by omega
  subst hin2
  clear hN hlt hi hin
  rw [Int.toNat_natCast] at hA
  refine xe0 [0, 3, 4, 5, 6, 20, 21, 22, 23] [3, 5, 1000000000, 2000000030] (by kernel_rfl) ?_
  refine AWP.seq ?_
  refine AWP.cond (b := decide ((↑n : Int) < (↑n : Int))) (by kernel_rfl) (fun hq49 => ?_) (fun hq49 => ?_)
  · simp only [decide_eq_true_eq] at hq49
    (exfalso; omega)
  simp only [decide_eq_false_iff_not] at hq49
  refine AWP.exit ?_
  refine xe0 [0, 3, 4, 5, 6, 9] [1000000000, 2000000030, 3, 5, 9] (by kernel_rfl) ?_
  refine AWP.seq ?_
  refine xe1 (os := [(8 : Int) ≠ (0 : Int), u8 (Int.tmod d 8) = u8 (d % 8)]) [(2, ⟨some (u8 (d % 8)), none⟩)] [0, 3, 4, 5, 6, 9, 36] [1000000000, 2000000030, 3, 5, 9] (by kernel_rfl) ⟨(by omega), (tm_ (by omega)), trivial⟩ ?_
  refine AWP.block ?_
  refine xe0 [0, 3, 4, 5, 6, 9, 36, 71] [1000000000, 2000000030, 3, 5, 9] (by kernel_rfl) ?_
  refine AWP.cond (b := d % 8 == 3) (by kernel_rfl) (fun hq50 => ?_) (fun hq50 => ?_)
  · simp only [beq_iff_eq] at hq50
    refine AWP.seq ?_
    refine xe0 [0, 4, 5, 6, 9, 74] [1000000000, 2000000030, 5, 9] (by kernel_rfl) ?_
    refine AWP.cond (b := decide (A < 0)) (by kernel_rfl) (fun hq51 => ?_) (fun hq51 => ?_)
    · simp only [decide_eq_true_eq] at hq51
      refine AWP.seq ?_
      refine AWP.keep' [0, 6, 9] [1000000000, 2000000030, 9] (sf := St.mk [(0, tp (V.ptr 2000000030 0)), (6, tp (i64 A)), (9, tp (V.sl 9 0 0))] [(9, Blk.mk [] true 0 (some (61, 1))), (1000000000, Blk.mk (rowsI L) true 0 (some (96, 3))), (2000000030, Blk.mk [V.sl 1000000000 0 n, vb off] false 2 none)]) (by kernel_rfl) ?_
      refine xg0 [0, 4, 5, 6, 9] [5, 9, 1000000000, 2000000030] (by kernel_rfl) ?_
      refine AWP.frz 5 (s' := St.mk [(0, tp (V.ptr 2000000030 0)), (4, tp (i64 3)), (5, tp (V.vs [] 0)), (6, tp (i64 A)), (9, tp (V.sl 9 0 0))] [(9, Blk.mk [] true 0 (some (61, 1))), (1000000000, Blk.mk (rowsI L) true 0 (some (96, 3))), (2000000030, Blk.mk [V.sl 1000000000 0 n, vb off] false 2 none)]) (by kernel_rfl) ?_
      refine AWP.ret ?_
      refine ⟨Or.inr rfl, Eq.trans (b := some ([(1000000000, Blk.mk (rowsI L) true 0 (some (96, 3))), (2000000030, Blk.mk [V.sl 1000000000 0 n, vb off] false 2 none)], V.tup [i64 3, V.vs [] 0])) (by kernel_rfl) ?_⟩
      first | rfl | (exfalso; omega)
    simp only [decide_eq_false_iff_not] at hq51
    (exfalso; omega)
  simp only [beq_eq_false_iff_ne] at hq50
  (exfalso; omega)
theorem con_do_dueoff (L : List It) (n : Nat) (hn : L.length = n) (hm : n ≤ 1000) (off : Bool) (d t id b : Int) (hd : 0 ≤ d ∧ d < 256) (c : List Int) (k : Nat) (on : Bool) (hd8 : d % 8 = 4) (ho : off = true) :
    Con Try.prog 33 [(1000000000, ⟨rowsI L, true, 0, some (96, 3)⟩), (2000000030, ⟨[.sl 1000000000 0 n, vb off], false, 2, none⟩)] [.ptr 2000000030 0, .agg true [u8 d, u32 t, u16 id, .vs (u8s c) k, i32 b, vb on]]
      [(1000000000, ⟨rowsI L, true, 0, some (96, 3)⟩), (2000000030, ⟨[.sl 1000000000 0 n, vb off], false, 2, none⟩)] (.tup [i64 0, .vs [] 0]) := by
  have hrl := rowsI_len L
  refine Con.of (C := ⟨Try.prog, tc, Try.f33.ntmps⟩) [1000000000, 2000000030] tcok Try.func33 rfl rfl (by kernel_rfl) (by kernel_rfl) ?_
  refine xe0 [0, 3, 4, 5] [1000000000, 2000000030, 3, 5] (by kernel_rfl) ?_
  refine xe0 [0, 3, 4, 5, 6] [3, 5, 1000000000, 2000000030] (by kernel_rfl) ?_
  refine AWP.seq ?_
  refine xe0 [0, 3, 4, 5, 6, 20, 21, 22] [1000000000, 2000000030, 3, 5] (by kernel_rfl) ?_
  refine AWP.block ?_
  refine AWP.loopI [22, 21, 20, 3, 6, 0, 4, 5] [3, 5, 1000000000, 2000000030] (fun N s' => ∃ (i A : Int), s' = St.mk [(0, T.plain (V.ptr 2000000030 0)), (3, T.plain (V.ptr 3 0)), (4, T.plain (i64 0)), (5, T.plain (V.sl 5 0 0)), (6, T.plain (i64 A)), (20, T.plain (V.sl 1000000000 0 n)), (21, T.plain (i64 (n : Int))), (22, T.plain (i64 i))] [(3, Blk.mk [u8 d, u32 t, u16 id, V.vs (u8s c) k, i32 b, vb on] true 6 none), (5, Blk.mk [] true 0 (some (61, 1))), (1000000000, Blk.mk (rowsI L) true 0 (some (96, 3))), (2000000030, Blk.mk [V.sl 1000000000 0 n, vb off] false 2 none)] ∧ A = atP id L i.toNat ∧ 0 ≤ i ∧ i ≤ n ∧ (N : Int) = n - i) n (s0 := St.mk [(0, T.plain (V.ptr 2000000030 0)), (3, T.plain (V.ptr 3 0)), (4, T.plain (i64 0)), (5, T.plain (V.sl 5 0 0)), (6, T.plain (i64 (-1))), (20, T.plain (V.sl 1000000000 0 n)), (21, T.plain (i64 (n : Int))), (22, T.plain (i64 0))] [(3, Blk.mk [u8 d, u32 t, u16 id, V.vs (u8s c) k, i32 b, vb on] true 6 none), (5, Blk.mk [] true 0 (some (61, 1))), (1000000000, Blk.mk (rowsI L) true 0 (some (96, 3))), (2000000030, Blk.mk [V.sl 1000000000 0 n, vb off] false 2 none)]) (by kernel_rfl) ?_ ?_
  · exact ⟨0, -1, rfl, rfl, by omega, by omega, by omega⟩
  rintro N s' ⟨i, A, rfl, hA, hi, hin, hN⟩
  by_cases hlt : i < n
  · obtain ⟨a, ha⟩ : ∃ a, L[i.toNat]? = some a := ⟨_, List.getElem?_eq_getElem (by omega)⟩
    have wr := rowsI_at ha
    have e := atP_at (id := id) ha
    rw [show i.toNat + 1 = (i + 1).toNat by omega] at e
    by_cases hid : a.id = id
    · rw [if_pos hid, Int.toNat_of_nonneg hi] at e
      refine xe0 [0, 3, 4, 5, 6, 20, 21, 22, 23] [3, 5, 1000000000, 2000000030] (by kernel_rfl) ?_
      refine AWP.seq ?_
      refine AWP.cond (b := decide (i < (↑n : Int))) (by kernel_rfl) (fun hq52 => ?_) (fun hq52 => ?_)
      · simp only [decide_eq_true_eq] at hq52
        refine AWP.skip ?_
        refine AWP.seq ?_
        refine AWP.block ?_
        refine xe1 (os := [(0 : Int) ≤ i ∧ i < (↑n : Int), V.ptr 1000000000 (0 + Int.toNat i * 3) = V.ptr 1000000000 (0 + Int.toNat i * 3), (0 : Nat) + Int.toNat i * (3 : Nat) + (3 : Nat) ≤ List.length (rowsI L), V.agg true (List.take 3 (List.drop (0 + Int.toNat i * 3) (rowsI L))) = V.agg true [u32 a.t, u16 a.id, V.vs (u8s a.c) a.k]]) [(1, ⟨some (V.ptr 1000000000 (0 + Int.toNat i * 3)), none⟩), (2, ⟨some (V.agg true (It.row a)), none⟩)] [0, 3, 4, 5, 6, 7, 8, 20, 21, 22] [1000000000, 2000000030, 3, 5, 8] (by kernel_rfl) ⟨(by omega), rfl, (by first | omega | (simp [len_u8s]; done) | (simp [len_u8s]; omega)), (congrArg (V.agg true) (wr )), trivial⟩ ?_
        refine xe0 [0, 3, 4, 5, 6, 7, 20, 21, 22, 31] [1000000000, 2000000030, 3, 5] (by kernel_rfl) ?_
        refine AWP.cond (b := a.id == id) (by kernel_rfl) (fun hq53 => ?_) (fun hq53 => ?_)
        · simp only [beq_iff_eq] at hq53
          refine AWP.region tcok hmix [] (os := []) (sf := St.mk [(0, tp (V.ptr 2000000030 0)), (3, tp (V.ptr 3 0)), (4, tp (i64 0)), (5, tp (V.sl 5 0 0)), (6, tp (i64 i)), (7, tp (i64 i)), (20, tp (V.sl 1000000000 0 n)), (21, tp (i64 (↑n : Int))), (22, tp (i64 i)), (31, tp (vb (a.id == id))), (32, tp (i64 i))] [(3, Blk.mk [u8 d, u32 t, u16 id, V.vs (u8s c) k, i32 b, vb on] true 6 none), (5, Blk.mk [] true 0 (some (61, 1))), (1000000000, Blk.mk (rowsI L) true 0 (some (96, 3))), (2000000030, Blk.mk [V.sl 1000000000 0 n, vb off] false 2 none)]) (by kernel_rfl) trivial ?_
          refine AWP.keep' [0, 3, 4, 5, 6, 20, 21, 22] [1000000000, 2000000030, 3, 5] (sf := St.mk [(0, tp (V.ptr 2000000030 0)), (3, tp (V.ptr 3 0)), (4, tp (i64 0)), (5, tp (V.sl 5 0 0)), (6, tp (i64 i)), (20, tp (V.sl 1000000000 0 n)), (21, tp (i64 (↑n : Int))), (22, tp (i64 i))] [(3, Blk.mk [u8 d, u32 t, u16 id, V.vs (u8s c) k, i32 b, vb on] true 6 none), (5, Blk.mk [] true 0 (some (61, 1))), (1000000000, Blk.mk (rowsI L) true 0 (some (96, 3))), (2000000030, Blk.mk [V.sl 1000000000 0 n, vb off] false 2 none)]) (by kernel_rfl) ?_
          refine AWP.region tcok hmix [(0, ⟨some (i64 (i + 1)), none⟩)] (os := [i64 (IntKind.wrap IntKind.i64 (i + 1)) = i64 (i + 1)]) (sf := St.mk [(0, tp (V.ptr 2000000030 0)), (3, tp (V.ptr 3 0)), (4, tp (i64 0)), (5, tp (V.sl 5 0 0)), (6, tp (i64 i)), (20, tp (V.sl 1000000000 0 n)), (21, tp (i64 (↑n : Int))), (22, tp (i64 (i + 1))), (33, tp (i64 (i + 1)))] [(3, Blk.mk [u8 d, u32 t, u16 id, V.vs (u8s c) k, i32 b, vb on] true 6 none), (5, Blk.mk [] true 0 (some (61, 1))), (1000000000, Blk.mk (rowsI L) true 0 (some (96, 3))), (2000000030, Blk.mk [V.sl 1000000000 0 n, vb off] false 2 none)]) (by kernel_rfl) ⟨(wr_i64 (by omega) (by omega)), trivial⟩ ?_
          refine ⟨St.mk [(0, tp (V.ptr 2000000030 0)), (3, tp (V.ptr 3 0)), (4, tp (i64 0)), (5, tp (V.sl 5 0 0)), (6, tp (i64 i)), (20, tp (V.sl 1000000000 0 n)), (21, tp (i64 (↑n : Int))), (22, tp (i64 (i + 1)))] [(3, Blk.mk [u8 d, u32 t, u16 id, V.vs (u8s c) k, i32 b, vb on] true 6 none), (5, Blk.mk [] true 0 (some (61, 1))), (1000000000, Blk.mk (rowsI L) true 0 (some (96, 3))), (2000000030, Blk.mk [V.sl 1000000000 0 n, vb off] false 2 none)], by kernel_rfl, ?_⟩
          first | (exact ⟨(n - (i + 1)).toNat, (by omega), i + 1, i, rfl, e.symm, (by omega), (by omega), (by omega)⟩) | (exfalso; omega)
        simp only [beq_eq_false_iff_ne] at hq53
        (exfalso; omega)
      simp only [decide_eq_false_iff_not] at hq52
      (exfalso; omega)
    · rw [if_neg hid, ← hA] at e
      refine xe0 [0, 3, 4, 5, 6, 20, 21, 22, 23] [3, 5, 1000000000, 2000000030] (by kernel_rfl) ?_
      refine AWP.seq ?_
      refine AWP.cond (b := decide (i < (↑n : Int))) (by kernel_rfl) (fun hq54 => ?_) (fun hq54 => ?_)
      · simp only [decide_eq_true_eq] at hq54
        refine AWP.skip ?_
        refine AWP.seq ?_
        refine AWP.block ?_
        refine xe1 (os := [(0 : Int) ≤ i ∧ i < (↑n : Int), V.ptr 1000000000 (0 + Int.toNat i * 3) = V.ptr 1000000000 (0 + Int.toNat i * 3), (0 : Nat) + Int.toNat i * (3 : Nat) + (3 : Nat) ≤ List.length (rowsI L), V.agg true (List.take 3 (List.drop (0 + Int.toNat i * 3) (rowsI L))) = V.agg true [u32 a.t, u16 a.id, V.vs (u8s a.c) a.k]]) [(1, ⟨some (V.ptr 1000000000 (0 + Int.toNat i * 3)), none⟩), (2, ⟨some (V.agg true (It.row a)), none⟩)] [0, 3, 4, 5, 6, 7, 8, 20, 21, 22] [1000000000, 2000000030, 3, 5, 8] (by kernel_rfl) ⟨(by omega), rfl, (by first | omega | (simp [len_u8s]; done) | (simp [len_u8s]; omega)), (congrArg (V.agg true) (wr )), trivial⟩ ?_
        refine xe0 [0, 3, 4, 5, 6, 7, 20, 21, 22, 31] [1000000000, 2000000030, 3, 5] (by kernel_rfl) ?_
        refine AWP.cond (b := a.id == id) (by kernel_rfl) (fun hq55 => ?_) (fun hq55 => ?_)
        · simp only [beq_iff_eq] at hq55
          (exfalso; omega)
        simp only [beq_eq_false_iff_ne] at hq55
        refine AWP.skip ?_
        refine AWP.region tcok hmix [(0, ⟨some (i64 (i + 1)), none⟩)] (os := [i64 (IntKind.wrap IntKind.i64 (i + 1)) = i64 (i + 1)]) (sf := St.mk [(0, tp (V.ptr 2000000030 0)), (3, tp (V.ptr 3 0)), (4, tp (i64 0)), (5, tp (V.sl 5 0 0)), (6, tp (i64 A)), (7, tp (i64 i)), (20, tp (V.sl 1000000000 0 n)), (21, tp (i64 (↑n : Int))), (22, tp (i64 (i + 1))), (31, tp (vb (a.id == id))), (33, tp (i64 (i + 1)))] [(3, Blk.mk [u8 d, u32 t, u16 id, V.vs (u8s c) k, i32 b, vb on] true 6 none), (5, Blk.mk [] true 0 (some (61, 1))), (1000000000, Blk.mk (rowsI L) true 0 (some (96, 3))), (2000000030, Blk.mk [V.sl 1000000000 0 n, vb off] false 2 none)]) (by kernel_rfl) ⟨(wr_i64 (by omega) (by omega)), trivial⟩ ?_
        refine ⟨St.mk [(0, tp (V.ptr 2000000030 0)), (3, tp (V.ptr 3 0)), (4, tp (i64 0)), (5, tp (V.sl 5 0 0)), (6, tp (i64 A)), (20, tp (V.sl 1000000000 0 n)), (21, tp (i64 (↑n : Int))), (22, tp (i64 (i + 1)))] [(3, Blk.mk [u8 d, u32 t, u16 id, V.vs (u8s c) k, i32 b, vb on] true 6 none), (5, Blk.mk [] true 0 (some (61, 1))), (1000000000, Blk.mk (rowsI L) true 0 (some (96, 3))), (2000000030, Blk.mk [V.sl 1000000000 0 n, vb off] false 2 none)], by kernel_rfl, ?_⟩
        first | (exact ⟨(n - (i + 1)).toNat, (by omega), i + 1, A, rfl, e.symm, (by omega), (by omega), (by omega)⟩) | (exfalso; omega)
      simp only [decide_eq_false_iff_not] at hq54
      (exfalso; omega)
  have hin2 : i = n := by omega
  subst hin2
  clear hN hlt hi hin
  rw [Int.toNat_natCast] at hA
  subst ho
  refine xe0 [0, 3, 4, 5, 6, 20, 21, 22, 23] [3, 5, 1000000000, 2000000030] (by kernel_rfl) ?_
  refine AWP.seq ?_
  refine AWP.cond (b := decide ((↑n : Int) < (↑n : Int))) (by kernel_rfl) (fun hq56 => ?_) (fun hq56 => ?_)
  · simp only [decide_eq_true_eq] at hq56
    (exfalso; omega)
  simp only [decide_eq_false_iff_not] at hq56
  refine AWP.exit ?_
  refine xe0 [0, 3, 4, 5, 6, 9] [1000000000, 2000000030, 3, 5, 9] (by kernel_rfl) ?_
  refine AWP.seq ?_
  refine xe1 (os := [(8 : Int) ≠ (0 : Int), u8 (Int.tmod d 8) = u8 (d % 8)]) [(2, ⟨some (u8 (d % 8)), none⟩)] [0, 3, 4, 5, 6, 9, 36] [1000000000, 2000000030, 3, 5, 9] (by kernel_rfl) ⟨(by omega), (tm_ (by omega)), trivial⟩ ?_
  refine AWP.block ?_
  refine xe0 [0, 3, 4, 5, 6, 9, 36, 71] [1000000000, 2000000030, 3, 5, 9] (by kernel_rfl) ?_
  refine AWP.cond (b := d % 8 == 3) (by kernel_rfl) (fun hq57 => ?_) (fun hq57 => ?_)
  · simp only [beq_iff_eq] at hq57
    (exfalso; omega)
  simp only [beq_eq_false_iff_ne] at hq57
  refine xe0 [0, 3, 4, 5, 6, 9, 36, 94] [1000000000, 2000000030, 3, 5, 9] (by kernel_rfl) ?_
  refine AWP.cond (b := d % 8 == 4) (by kernel_rfl) (fun hq58 => ?_) (fun hq58 => ?_)
  · simp only [beq_iff_eq] at hq58
    refine AWP.seq ?_
    refine xe0 [0, 3, 4, 5, 9, 99] [1000000000, 2000000030, 3, 5, 9] (by kernel_rfl) ?_
    refine AWP.condT (by kernel_rfl) ?_
    refine AWP.seq ?_
    refine AWP.keep' [0, 3, 9] [1000000000, 2000000030, 3, 9] (sf := St.mk [(0, tp (V.ptr 2000000030 0)), (3, tp (V.ptr 3 0)), (9, tp (V.sl 9 0 0))] [(3, Blk.mk [u8 d, u32 t, u16 id, V.vs (u8s c) k, i32 b, vb on] true 6 none), (9, Blk.mk [] true 0 (some (61, 1))), (1000000000, Blk.mk (rowsI L) true 0 (some (96, 3))), (2000000030, Blk.mk [V.sl 1000000000 0 n, vb true] false 2 none)]) (by kernel_rfl) ?_
    refine xg0 [0, 3, 4, 5, 9] [3, 5, 9, 1000000000, 2000000030] (by kernel_rfl) ?_
    refine AWP.frz 5 (s' := St.mk [(0, tp (V.ptr 2000000030 0)), (3, tp (V.ptr 3 0)), (4, tp (i64 0)), (5, tp (V.vs [] 0)), (9, tp (V.sl 9 0 0))] [(3, Blk.mk [u8 d, u32 t, u16 id, V.vs (u8s c) k, i32 b, vb on] true 6 none), (9, Blk.mk [] true 0 (some (61, 1))), (1000000000, Blk.mk (rowsI L) true 0 (some (96, 3))), (2000000030, Blk.mk [V.sl 1000000000 0 n, vb true] false 2 none)]) (by kernel_rfl) ?_
    refine AWP.ret ?_
    refine ⟨Or.inr rfl, Eq.trans (b := some ([(1000000000, Blk.mk (rowsI L) true 0 (some (96, 3))), (2000000030, Blk.mk [V.sl 1000000000 0 n, vb true] false 2 none)], V.tup [i64 0, V.vs [] 0])) (by kernel_rfl) ?_⟩
    first | rfl | (exfalso; omega)
  simp only [beq_eq_false_iff_ne] at hq58
  (exfalso; omega)
end Go.Proofs.Ytlfjnkobnkfioaa
