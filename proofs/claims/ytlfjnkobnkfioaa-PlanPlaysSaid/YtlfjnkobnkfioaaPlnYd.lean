/- The plan's calls. Printed by pln_dop.py. -/
import Derived.Test.YtlfjnkobnkfioaaRg
import Derived.Test.YtlfjnkobnkfioaaPlnYc
namespace Go.Proofs.Ytlfjnkobnkfioaa
open Go.Ab
set_option maxRecDepth 100000
set_option maxHeartbeats 8000000
set_option linter.unusedSimpArgs false
set_option linter.unusedVariables false
theorem con_dop_ins (L : List It) (n : Nat) (hn : L.length = n) (hm : n ≤ 1000) (K : List Int) (off : Bool) (d t id b : Int) (hd : 0 ≤ d ∧ d < 256) (c : List Int) (k : Nat) (on : Bool) (hd8 : d % 8 < 3) (h32 : n < 32) (hs : SortI L) (hk : c.length = k) (hk2 : k ≤ 208) (hid : id ∉ K) (L' : List It) (hL : insI ⟨t, id, c, k⟩ L = L') (K' : List Int) (hK : K ++ [id] = K') :
    Con Try.prog 34 [(1000000000, ⟨rowsI L, true, 0, some (79, 3)⟩), (2000000010, ⟨[.sl 1000000000 0 n, .mp 2000000011, vb off], false, 3, none⟩), (2000000011, ⟨idsC K, true, 0, some (0, 0)⟩)] [.ptr 2000000010 0, .agg true [u8 d, u32 t, u16 id, .vs (u8s c) k, i32 b, vb on]] [(1000000000, ⟨rowsI L', true, 0, some (79, 3)⟩), (2000000010, ⟨[.sl 1000000000 0 (n + 1), .mp 2000000011, vb off], false, 3, none⟩), (2000000011, ⟨idsC K', true, 0, some (0, 0)⟩)] (.tup [i64 0, .vs [] 0]) := by
  have c1 := con_pins L n hn h32 hs K off t id c k hk hk2 hid L' hL K' hK
  refine Con.of (C := ⟨Try.prog, tc, Try.f34.ntmps⟩) [1000000000, 2000000010, 2000000011] tcok Try.func34 rfl rfl (by kernel_rfl) (by kernel_rfl) ?_
  refine xe0 [0, 3, 4, 5] [1000000000, 2000000010, 2000000011, 3, 5] (by kernel_rfl) ?_
  refine AWP.seq ?_
  refine xe1 (os := [(8 : Int) ≠ (0 : Int), u8 (Int.tmod d 8) = u8 (d % 8)]) [(2, ⟨some (u8 (d % 8)), none⟩)] [0, 3, 4, 5, 8] [1000000000, 2000000010, 2000000011, 3, 5] (by kernel_rfl) ⟨(by omega), (tm_ (by omega)), trivial⟩ ?_
  refine AWP.block ?_
  refine xe0 [0, 3, 4, 5, 8, 9] [1000000000, 2000000010, 2000000011, 3, 5] (by kernel_rfl) ?_
  refine AWP.cond (b := d % 8 == 3) (by kernel_rfl) (fun hq0 => ?_) (fun hq0 => ?_)
  · simp only [beq_iff_eq] at hq0
    (exfalso; omega)
  simp only [beq_eq_false_iff_ne] at hq0
  refine xe0 [0, 3, 4, 5, 8, 15] [1000000000, 2000000010, 2000000011, 3, 5] (by kernel_rfl) ?_
  refine AWP.cond (b := d % 8 == 4) (by kernel_rfl) (fun hq1 => ?_) (fun hq1 => ?_)
  · simp only [beq_iff_eq] at hq1
    (exfalso; omega)
  simp only [beq_eq_false_iff_ne] at hq1
  refine xe0 [0, 3, 4, 5, 8, 21] [1000000000, 2000000010, 2000000011, 3, 5] (by kernel_rfl) ?_
  refine AWP.cond (b := d % 8 == 5) (by kernel_rfl) (fun hq2 => ?_) (fun hq2 => ?_)
  · simp only [beq_iff_eq] at hq2
    (exfalso; omega)
  simp only [beq_eq_false_iff_ne] at hq2
  refine xe0 [0, 3, 4, 5, 8, 27] [1000000000, 2000000010, 2000000011, 3, 5] (by kernel_rfl) ?_
  refine AWP.cond (b := d % 8 == 6) (by kernel_rfl) (fun hq3 => ?_) (fun hq3 => ?_)
  · simp only [beq_iff_eq] at hq3
    (exfalso; omega)
  simp only [beq_eq_false_iff_ne] at hq3
  refine xe0 [0, 3, 4, 5, 33] [1000000000, 2000000010, 2000000011, 3, 5] (by kernel_rfl) ?_
  refine AWP.cond (b := d % 8 == 7) (by kernel_rfl) (fun hq4 => ?_) (fun hq4 => ?_)
  · simp only [beq_iff_eq] at hq4
    (exfalso; omega)
  simp only [beq_eq_false_iff_ne] at hq4
  refine AWP.skip ?_
  refine AWP.seq ?_
  refine AWP.keep' [0, 3] [1000000000, 2000000010, 2000000011, 3] (sf := St.mk [(0, tp (V.ptr 2000000010 0)), (3, tp (V.ptr 3 0))] [(3, Blk.mk [u8 d, u32 t, u16 id, V.vs (u8s c) k, i32 b, vb on] true 6 none), (1000000000, Blk.mk (rowsI L) true 0 (some (79, 3))), (2000000010, Blk.mk [V.sl 1000000000 0 n, V.mp 2000000011, vb off] false 3 none), (2000000011, Blk.mk (idsC K) true 0 (some (0, 0)))]) (by kernel_rfl) ?_
  refine xg1 (os := [Con Try.prog 24 [(1000000000, Blk.mk (rowsI L) true 0 (some (79, 3))), (2000000010, Blk.mk [V.sl 1000000000 0 n, V.mp 2000000011, vb off] false 3 none), (2000000011, Blk.mk (idsC K) true 0 (some (0, 0)))] [V.ptr 2000000010 0, u32 t, u16 id, V.vs (u8s c) k] [(1000000000, Blk.mk (rowsI L') true 0 (some (79, 3))), (2000000010, Blk.mk [V.sl 1000000000 0 (n + 1), V.mp 2000000011, vb off] false 3 none), (2000000011, Blk.mk (idsC K') true 0 (some (0, 0)))] (i64 0)]) [(7, ⟨some (V.tup [V.sl 1000000000 1000000000 0, V.sl 2000000010 2000000010 0, V.sl 2000000011 2000000011 0]), some ⟨i64 0, [(1000000000, Blk.mk (rowsI L') true 0 (some (79, 3))), (2000000010, Blk.mk [V.sl 1000000000 0 (n + 1), V.mp 2000000011, vb off] false 3 none), (2000000011, Blk.mk (idsC K') true 0 (some (0, 0)))], []⟩⟩)] [4, 5] [1000000000, 2000000010, 2000000011, 5] (by kernel_rfl) ⟨(c1 ), trivial⟩ ?_
  refine AWP.frz 5 (s' := St.mk [(4, tp (i64 0)), (5, tp (V.vs [] 0))] [(1000000000, Blk.mk (rowsI L') true 0 (some (79, 3))), (2000000010, Blk.mk [V.sl 1000000000 0 (n + 1), V.mp 2000000011, vb off] false 3 none), (2000000011, Blk.mk (idsC K') true 0 (some (0, 0)))]) (by kernel_rfl) ?_
  refine AWP.ret ?_
  refine ⟨Or.inr rfl, Eq.trans (b := some ([(1000000000, Blk.mk (rowsI L') true 0 (some (79, 3))), (2000000010, Blk.mk [V.sl 1000000000 0 (n + 1), V.mp 2000000011, vb off] false 3 none), (2000000011, Blk.mk (idsC K') true 0 (some (0, 0)))], V.tup [i64 0, V.vs [] 0])) (by kernel_rfl) ?_⟩
  first | rfl | (exfalso; omega)
theorem con_dop_long (L : List It) (n : Nat) (hn : L.length = n) (hm : n ≤ 1000) (K : List Int) (off : Bool) (d t id b : Int) (hd : 0 ≤ d ∧ d < 256) (c : List Int) (k : Nat) (on : Bool) (hd8 : d % 8 < 3) (hk2 : 208 < k) :
    Con Try.prog 34 [(1000000000, ⟨rowsI L, true, 0, some (79, 3)⟩), (2000000010, ⟨[.sl 1000000000 0 n, .mp 2000000011, vb off], false, 3, none⟩), (2000000011, ⟨idsC K, true, 0, some (0, 0)⟩)] [.ptr 2000000010 0, .agg true [u8 d, u32 t, u16 id, .vs (u8s c) k, i32 b, vb on]] [(1000000000, ⟨rowsI L, true, 0, some (79, 3)⟩), (2000000010, ⟨[.sl 1000000000 0 n, .mp 2000000011, vb off], false, 3, none⟩), (2000000011, ⟨idsC K, true, 0, some (0, 0)⟩)] (.tup [i64 4, .vs [] 0]) := by
  have c1 := con_pins_long L n K off t id c k hk2
  refine Con.of (C := ⟨Try.prog, tc, Try.f34.ntmps⟩) [1000000000, 2000000010, 2000000011] tcok Try.func34 rfl rfl (by kernel_rfl) (by kernel_rfl) ?_
  refine xe0 [0, 3, 4, 5] [1000000000, 2000000010, 2000000011, 3, 5] (by kernel_rfl) ?_
  refine AWP.seq ?_
  refine xe1 (os := [(8 : Int) ≠ (0 : Int), u8 (Int.tmod d 8) = u8 (d % 8)]) [(2, ⟨some (u8 (d % 8)), none⟩)] [0, 3, 4, 5, 8] [1000000000, 2000000010, 2000000011, 3, 5] (by kernel_rfl) ⟨(by omega), (tm_ (by omega)), trivial⟩ ?_
  refine AWP.block ?_
  refine xe0 [0, 3, 4, 5, 8, 9] [1000000000, 2000000010, 2000000011, 3, 5] (by kernel_rfl) ?_
  refine AWP.cond (b := d % 8 == 3) (by kernel_rfl) (fun hq5 => ?_) (fun hq5 => ?_)
  · simp only [beq_iff_eq] at hq5
    (exfalso; omega)
  simp only [beq_eq_false_iff_ne] at hq5
  refine xe0 [0, 3, 4, 5, 8, 15] [1000000000, 2000000010, 2000000011, 3, 5] (by kernel_rfl) ?_
  refine AWP.cond (b := d % 8 == 4) (by kernel_rfl) (fun hq6 => ?_) (fun hq6 => ?_)
  · simp only [beq_iff_eq] at hq6
    (exfalso; omega)
  simp only [beq_eq_false_iff_ne] at hq6
  refine xe0 [0, 3, 4, 5, 8, 21] [1000000000, 2000000010, 2000000011, 3, 5] (by kernel_rfl) ?_
  refine AWP.cond (b := d % 8 == 5) (by kernel_rfl) (fun hq7 => ?_) (fun hq7 => ?_)
  · simp only [beq_iff_eq] at hq7
    (exfalso; omega)
  simp only [beq_eq_false_iff_ne] at hq7
  refine xe0 [0, 3, 4, 5, 8, 27] [1000000000, 2000000010, 2000000011, 3, 5] (by kernel_rfl) ?_
  refine AWP.cond (b := d % 8 == 6) (by kernel_rfl) (fun hq8 => ?_) (fun hq8 => ?_)
  · simp only [beq_iff_eq] at hq8
    (exfalso; omega)
  simp only [beq_eq_false_iff_ne] at hq8
  refine xe0 [0, 3, 4, 5, 33] [1000000000, 2000000010, 2000000011, 3, 5] (by kernel_rfl) ?_
  refine AWP.cond (b := d % 8 == 7) (by kernel_rfl) (fun hq9 => ?_) (fun hq9 => ?_)
  · simp only [beq_iff_eq] at hq9
    (exfalso; omega)
  simp only [beq_eq_false_iff_ne] at hq9
  refine AWP.skip ?_
  refine AWP.seq ?_
  refine AWP.keep' [0, 3] [1000000000, 2000000010, 2000000011, 3] (sf := St.mk [(0, tp (V.ptr 2000000010 0)), (3, tp (V.ptr 3 0))] [(3, Blk.mk [u8 d, u32 t, u16 id, V.vs (u8s c) k, i32 b, vb on] true 6 none), (1000000000, Blk.mk (rowsI L) true 0 (some (79, 3))), (2000000010, Blk.mk [V.sl 1000000000 0 n, V.mp 2000000011, vb off] false 3 none), (2000000011, Blk.mk (idsC K) true 0 (some (0, 0)))]) (by kernel_rfl) ?_
  refine xg1 (os := [Con Try.prog 24 [(1000000000, Blk.mk (rowsI L) true 0 (some (79, 3))), (2000000010, Blk.mk [V.sl 1000000000 0 n, V.mp 2000000011, vb off] false 3 none), (2000000011, Blk.mk (idsC K) true 0 (some (0, 0)))] [V.ptr 2000000010 0, u32 t, u16 id, V.vs (u8s c) k] [(1000000000, Blk.mk (rowsI L) true 0 (some (79, 3))), (2000000010, Blk.mk [V.sl 1000000000 0 n, V.mp 2000000011, vb off] false 3 none), (2000000011, Blk.mk (idsC K) true 0 (some (0, 0)))] (i64 4)]) [(7, ⟨some (V.tup [V.sl 1000000000 1000000000 0, V.sl 2000000010 2000000010 0, V.sl 2000000011 2000000011 0]), some ⟨i64 4, [(1000000000, Blk.mk (rowsI L) true 0 (some (79, 3))), (2000000010, Blk.mk [V.sl 1000000000 0 n, V.mp 2000000011, vb off] false 3 none), (2000000011, Blk.mk (idsC K) true 0 (some (0, 0)))], []⟩⟩)] [4, 5] [1000000000, 2000000010, 2000000011, 5] (by kernel_rfl) ⟨(c1 ), trivial⟩ ?_
  refine AWP.frz 5 (s' := St.mk [(4, tp (i64 4)), (5, tp (V.vs [] 0))] [(1000000000, Blk.mk (rowsI L) true 0 (some (79, 3))), (2000000010, Blk.mk [V.sl 1000000000 0 n, V.mp 2000000011, vb off] false 3 none), (2000000011, Blk.mk (idsC K) true 0 (some (0, 0)))]) (by kernel_rfl) ?_
  refine AWP.ret ?_
  refine ⟨Or.inr rfl, Eq.trans (b := some ([(1000000000, Blk.mk (rowsI L) true 0 (some (79, 3))), (2000000010, Blk.mk [V.sl 1000000000 0 n, V.mp 2000000011, vb off] false 3 none), (2000000011, Blk.mk (idsC K) true 0 (some (0, 0)))], V.tup [i64 4, V.vs [] 0])) (by kernel_rfl) ?_⟩
  first | rfl | (exfalso; omega)
theorem con_dop_has (L : List It) (n : Nat) (hn : L.length = n) (hm : n ≤ 1000) (K : List Int) (off : Bool) (d t id b : Int) (hd : 0 ≤ d ∧ d < 256) (c : List Int) (k : Nat) (on : Bool) (hd8 : d % 8 < 3) (hk2 : k ≤ 208) (hid : id ∈ K) :
    Con Try.prog 34 [(1000000000, ⟨rowsI L, true, 0, some (79, 3)⟩), (2000000010, ⟨[.sl 1000000000 0 n, .mp 2000000011, vb off], false, 3, none⟩), (2000000011, ⟨idsC K, true, 0, some (0, 0)⟩)] [.ptr 2000000010 0, .agg true [u8 d, u32 t, u16 id, .vs (u8s c) k, i32 b, vb on]] [(1000000000, ⟨rowsI L, true, 0, some (79, 3)⟩), (2000000010, ⟨[.sl 1000000000 0 n, .mp 2000000011, vb off], false, 3, none⟩), (2000000011, ⟨idsC K, true, 0, some (0, 0)⟩)] (.tup [i64 8, .vs [] 0]) := by
  have c1 := con_pins_has L n K off t id c k hk2 hid
  refine Con.of (C := ⟨Try.prog, tc, Try.f34.ntmps⟩) [1000000000, 2000000010, 2000000011] tcok Try.func34 rfl rfl (by kernel_rfl) (by kernel_rfl) ?_
  refine xe0 [0, 3, 4, 5] [1000000000, 2000000010, 2000000011, 3, 5] (by kernel_rfl) ?_
  refine AWP.seq ?_
  refine xe1 (os := [(8 : Int) ≠ (0 : Int), u8 (Int.tmod d 8) = u8 (d % 8)]) [(2, ⟨some (u8 (d % 8)), none⟩)] [0, 3, 4, 5, 8] [1000000000, 2000000010, 2000000011, 3, 5] (by kernel_rfl) ⟨(by omega), (tm_ (by omega)), trivial⟩ ?_
  refine AWP.block ?_
  refine xe0 [0, 3, 4, 5, 8, 9] [1000000000, 2000000010, 2000000011, 3, 5] (by kernel_rfl) ?_
  refine AWP.cond (b := d % 8 == 3) (by kernel_rfl) (fun hq10 => ?_) (fun hq10 => ?_)
  · simp only [beq_iff_eq] at hq10
    (exfalso; omega)
  simp only [beq_eq_false_iff_ne] at hq10
  refine xe0 [0, 3, 4, 5, 8, 15] [1000000000, 2000000010, 2000000011, 3, 5] (by kernel_rfl) ?_
  refine AWP.cond (b := d % 8 == 4) (by kernel_rfl) (fun hq11 => ?_) (fun hq11 => ?_)
  · simp only [beq_iff_eq] at hq11
    (exfalso; omega)
  simp only [beq_eq_false_iff_ne] at hq11
  refine xe0 [0, 3, 4, 5, 8, 21] [1000000000, 2000000010, 2000000011, 3, 5] (by kernel_rfl) ?_
  refine AWP.cond (b := d % 8 == 5) (by kernel_rfl) (fun hq12 => ?_) (fun hq12 => ?_)
  · simp only [beq_iff_eq] at hq12
    (exfalso; omega)
  simp only [beq_eq_false_iff_ne] at hq12
  refine xe0 [0, 3, 4, 5, 8, 27] [1000000000, 2000000010, 2000000011, 3, 5] (by kernel_rfl) ?_
  refine AWP.cond (b := d % 8 == 6) (by kernel_rfl) (fun hq13 => ?_) (fun hq13 => ?_)
  · simp only [beq_iff_eq] at hq13
    (exfalso; omega)
  simp only [beq_eq_false_iff_ne] at hq13
  refine xe0 [0, 3, 4, 5, 33] [1000000000, 2000000010, 2000000011, 3, 5] (by kernel_rfl) ?_
  refine AWP.cond (b := d % 8 == 7) (by kernel_rfl) (fun hq14 => ?_) (fun hq14 => ?_)
  · simp only [beq_iff_eq] at hq14
    (exfalso; omega)
  simp only [beq_eq_false_iff_ne] at hq14
  refine AWP.skip ?_
  refine AWP.seq ?_
  refine AWP.keep' [0, 3] [1000000000, 2000000010, 2000000011, 3] (sf := St.mk [(0, tp (V.ptr 2000000010 0)), (3, tp (V.ptr 3 0))] [(3, Blk.mk [u8 d, u32 t, u16 id, V.vs (u8s c) k, i32 b, vb on] true 6 none), (1000000000, Blk.mk (rowsI L) true 0 (some (79, 3))), (2000000010, Blk.mk [V.sl 1000000000 0 n, V.mp 2000000011, vb off] false 3 none), (2000000011, Blk.mk (idsC K) true 0 (some (0, 0)))]) (by kernel_rfl) ?_
  refine xg1 (os := [Con Try.prog 24 [(1000000000, Blk.mk (rowsI L) true 0 (some (79, 3))), (2000000010, Blk.mk [V.sl 1000000000 0 n, V.mp 2000000011, vb off] false 3 none), (2000000011, Blk.mk (idsC K) true 0 (some (0, 0)))] [V.ptr 2000000010 0, u32 t, u16 id, V.vs (u8s c) k] [(1000000000, Blk.mk (rowsI L) true 0 (some (79, 3))), (2000000010, Blk.mk [V.sl 1000000000 0 n, V.mp 2000000011, vb off] false 3 none), (2000000011, Blk.mk (idsC K) true 0 (some (0, 0)))] (i64 8)]) [(7, ⟨some (V.tup [V.sl 1000000000 1000000000 0, V.sl 2000000010 2000000010 0, V.sl 2000000011 2000000011 0]), some ⟨i64 8, [(1000000000, Blk.mk (rowsI L) true 0 (some (79, 3))), (2000000010, Blk.mk [V.sl 1000000000 0 n, V.mp 2000000011, vb off] false 3 none), (2000000011, Blk.mk (idsC K) true 0 (some (0, 0)))], []⟩⟩)] [4, 5] [1000000000, 2000000010, 2000000011, 5] (by kernel_rfl) ⟨(c1 ), trivial⟩ ?_
  refine AWP.frz 5 (s' := St.mk [(4, tp (i64 8)), (5, tp (V.vs [] 0))] [(1000000000, Blk.mk (rowsI L) true 0 (some (79, 3))), (2000000010, Blk.mk [V.sl 1000000000 0 n, V.mp 2000000011, vb off] false 3 none), (2000000011, Blk.mk (idsC K) true 0 (some (0, 0)))]) (by kernel_rfl) ?_
  refine AWP.ret ?_
  refine ⟨Or.inr rfl, Eq.trans (b := some ([(1000000000, Blk.mk (rowsI L) true 0 (some (79, 3))), (2000000010, Blk.mk [V.sl 1000000000 0 n, V.mp 2000000011, vb off] false 3 none), (2000000011, Blk.mk (idsC K) true 0 (some (0, 0)))], V.tup [i64 8, V.vs [] 0])) (by kernel_rfl) ?_⟩
  first | rfl | (exfalso; omega)
theorem con_dop_full (L : List It) (n : Nat) (hn : L.length = n) (hm : n ≤ 1000) (K : List Int) (off : Bool) (d t id b : Int) (hd : 0 ≤ d ∧ d < 256) (c : List Int) (k : Nat) (on : Bool) (hd8 : d % 8 < 3) (hk2 : k ≤ 208) (hid : id ∉ K) (h32 : n = 32) :
    Con Try.prog 34 [(1000000000, ⟨rowsI L, true, 0, some (79, 3)⟩), (2000000010, ⟨[.sl 1000000000 0 n, .mp 2000000011, vb off], false, 3, none⟩), (2000000011, ⟨idsC K, true, 0, some (0, 0)⟩)] [.ptr 2000000010 0, .agg true [u8 d, u32 t, u16 id, .vs (u8s c) k, i32 b, vb on]] [(1000000000, ⟨rowsI L, true, 0, some (79, 3)⟩), (2000000010, ⟨[.sl 1000000000 0 n, .mp 2000000011, vb off], false, 3, none⟩), (2000000011, ⟨idsC K, true, 0, some (0, 0)⟩)] (.tup [i64 6, .vs [] 0]) := by
  subst h32
  have c1 := con_pins_full L K off t id c k hk2 hid
  refine Con.of (C := ⟨Try.prog, tc, Try.f34.ntmps⟩) [1000000000, 2000000010, 2000000011] tcok Try.func34 rfl rfl (by kernel_rfl) (by kernel_rfl) ?_
  refine xe0 [0, 3, 4, 5] [1000000000, 2000000010, 2000000011, 3, 5] (by kernel_rfl) ?_
  refine AWP.seq ?_
  refine xe1 (os := [(8 : Int) ≠ (0 : Int), u8 (Int.tmod d 8) = u8 (d % 8)]) [(2, ⟨some (u8 (d % 8)), none⟩)] [0, 3, 4, 5, 8] [1000000000, 2000000010, 2000000011, 3, 5] (by kernel_rfl) ⟨(by omega), (tm_ (by omega)), trivial⟩ ?_
  refine AWP.block ?_
  refine xe0 [0, 3, 4, 5, 8, 9] [1000000000, 2000000010, 2000000011, 3, 5] (by kernel_rfl) ?_
  refine AWP.cond (b := d % 8 == 3) (by kernel_rfl) (fun hq15 => ?_) (fun hq15 => ?_)
  · simp only [beq_iff_eq] at hq15
    (exfalso; omega)
  simp only [beq_eq_false_iff_ne] at hq15
  refine xe0 [0, 3, 4, 5, 8, 15] [1000000000, 2000000010, 2000000011, 3, 5] (by kernel_rfl) ?_
  refine AWP.cond (b := d % 8 == 4) (by kernel_rfl) (fun hq16 => ?_) (fun hq16 => ?_)
  · simp only [beq_iff_eq] at hq16
    (exfalso; omega)
  simp only [beq_eq_false_iff_ne] at hq16
  refine xe0 [0, 3, 4, 5, 8, 21] [1000000000, 2000000010, 2000000011, 3, 5] (by kernel_rfl) ?_
  refine AWP.cond (b := d % 8 == 5) (by kernel_rfl) (fun hq17 => ?_) (fun hq17 => ?_)
  · simp only [beq_iff_eq] at hq17
    (exfalso; omega)
  simp only [beq_eq_false_iff_ne] at hq17
  refine xe0 [0, 3, 4, 5, 8, 27] [1000000000, 2000000010, 2000000011, 3, 5] (by kernel_rfl) ?_
  refine AWP.cond (b := d % 8 == 6) (by kernel_rfl) (fun hq18 => ?_) (fun hq18 => ?_)
  · simp only [beq_iff_eq] at hq18
    (exfalso; omega)
  simp only [beq_eq_false_iff_ne] at hq18
  refine xe0 [0, 3, 4, 5, 33] [1000000000, 2000000010, 2000000011, 3, 5] (by kernel_rfl) ?_
  refine AWP.cond (b := d % 8 == 7) (by kernel_rfl) (fun hq19 => ?_) (fun hq19 => ?_)
  · simp only [beq_iff_eq] at hq19
    (exfalso; omega)
  simp only [beq_eq_false_iff_ne] at hq19
  refine AWP.skip ?_
  refine AWP.seq ?_
  refine AWP.keep' [0, 3] [1000000000, 2000000010, 2000000011, 3] (sf := St.mk [(0, tp (V.ptr 2000000010 0)), (3, tp (V.ptr 3 0))] [(3, Blk.mk [u8 d, u32 t, u16 id, V.vs (u8s c) k, i32 b, vb on] true 6 none), (1000000000, Blk.mk (rowsI L) true 0 (some (79, 3))), (2000000010, Blk.mk [V.sl 1000000000 0 32, V.mp 2000000011, vb off] false 3 none), (2000000011, Blk.mk (idsC K) true 0 (some (0, 0)))]) (by kernel_rfl) ?_
  refine xg1 (os := [Con Try.prog 24 [(1000000000, Blk.mk (rowsI L) true 0 (some (79, 3))), (2000000010, Blk.mk [V.sl 1000000000 0 32, V.mp 2000000011, vb off] false 3 none), (2000000011, Blk.mk (idsC K) true 0 (some (0, 0)))] [V.ptr 2000000010 0, u32 t, u16 id, V.vs (u8s c) k] [(1000000000, Blk.mk (rowsI L) true 0 (some (79, 3))), (2000000010, Blk.mk [V.sl 1000000000 0 32, V.mp 2000000011, vb off] false 3 none), (2000000011, Blk.mk (idsC K) true 0 (some (0, 0)))] (i64 6)]) [(7, ⟨some (V.tup [V.sl 1000000000 1000000000 0, V.sl 2000000010 2000000010 0, V.sl 2000000011 2000000011 0]), some ⟨i64 6, [(1000000000, Blk.mk (rowsI L) true 0 (some (79, 3))), (2000000010, Blk.mk [V.sl 1000000000 0 32, V.mp 2000000011, vb off] false 3 none), (2000000011, Blk.mk (idsC K) true 0 (some (0, 0)))], []⟩⟩)] [4, 5] [1000000000, 2000000010, 2000000011, 5] (by kernel_rfl) ⟨(c1 ), trivial⟩ ?_
  refine AWP.frz 5 (s' := St.mk [(4, tp (i64 6)), (5, tp (V.vs [] 0))] [(1000000000, Blk.mk (rowsI L) true 0 (some (79, 3))), (2000000010, Blk.mk [V.sl 1000000000 0 32, V.mp 2000000011, vb off] false 3 none), (2000000011, Blk.mk (idsC K) true 0 (some (0, 0)))]) (by kernel_rfl) ?_
  refine AWP.ret ?_
  refine ⟨Or.inr rfl, Eq.trans (b := some ([(1000000000, Blk.mk (rowsI L) true 0 (some (79, 3))), (2000000010, Blk.mk [V.sl 1000000000 0 32, V.mp 2000000011, vb off] false 3 none), (2000000011, Blk.mk (idsC K) true 0 (some (0, 0)))], V.tup [i64 6, V.vs [] 0])) (by kernel_rfl) ?_⟩
  first | rfl | (exfalso; omega)
theorem con_dop_del (L : List It) (n : Nat) (hn : L.length = n) (hm : n ≤ 1000) (K : List Int) (off : Bool) (d t id b : Int) (hd : 0 ≤ d ∧ d < 256) (c : List Int) (k : Nat) (on : Bool) (hd8 : d % 8 = 3) (hid : id ∈ K) (L' : List It) (hL : keepP (pId id) L = L') (n' : Nat) (hn' : L'.length = n') (K' : List Int) (hK : K.erase id = K') :
    Con Try.prog 34 [(1000000000, ⟨rowsI L, true, 0, some (79, 3)⟩), (2000000010, ⟨[.sl 1000000000 0 n, .mp 2000000011, vb off], false, 3, none⟩), (2000000011, ⟨idsC K, true, 0, some (0, 0)⟩)] [.ptr 2000000010 0, .agg true [u8 d, u32 t, u16 id, .vs (u8s c) k, i32 b, vb on]] [(1000000000, ⟨rowsI L', true, 0, some (79, 3)⟩), (2000000010, ⟨[.sl 1000000000 0 n', .mp 2000000011, vb off], false, 3, none⟩), (2000000011, ⟨idsC K', true, 0, some (0, 0)⟩)] (.tup [i64 0, .vs [] 0]) := by
  have c1 := con_pdel L n hn hm K off id hid L' hL n' hn' K' hK
  refine Con.of (C := ⟨Try.prog, tc, Try.f34.ntmps⟩) [1000000000, 2000000010, 2000000011] tcok Try.func34 rfl rfl (by kernel_rfl) (by kernel_rfl) ?_
  refine xe0 [0, 3, 4, 5] [1000000000, 2000000010, 2000000011, 3, 5] (by kernel_rfl) ?_
  refine AWP.seq ?_
  refine xe1 (os := [(8 : Int) ≠ (0 : Int), u8 (Int.tmod d 8) = u8 (d % 8)]) [(2, ⟨some (u8 (d % 8)), none⟩)] [0, 3, 4, 5, 8] [1000000000, 2000000010, 2000000011, 3, 5] (by kernel_rfl) ⟨(by omega), (tm_ (by omega)), trivial⟩ ?_
  refine AWP.block ?_
  refine xe0 [0, 3, 4, 5, 8, 9] [1000000000, 2000000010, 2000000011, 3, 5] (by kernel_rfl) ?_
  refine AWP.cond (b := d % 8 == 3) (by kernel_rfl) (fun hq20 => ?_) (fun hq20 => ?_)
  · simp only [beq_iff_eq] at hq20
    refine AWP.seq ?_
    refine AWP.keep' [0, 3] [1000000000, 2000000010, 2000000011, 3] (sf := St.mk [(0, tp (V.ptr 2000000010 0)), (3, tp (V.ptr 3 0))] [(3, Blk.mk [u8 d, u32 t, u16 id, V.vs (u8s c) k, i32 b, vb on] true 6 none), (1000000000, Blk.mk (rowsI L) true 0 (some (79, 3))), (2000000010, Blk.mk [V.sl 1000000000 0 n, V.mp 2000000011, vb off] false 3 none), (2000000011, Blk.mk (idsC K) true 0 (some (0, 0)))]) (by kernel_rfl) ?_
    refine xg1 (os := [Con Try.prog 28 [(1000000000, Blk.mk (rowsI L) true 0 (some (79, 3))), (2000000010, Blk.mk [V.sl 1000000000 0 n, V.mp 2000000011, vb off] false 3 none), (2000000011, Blk.mk (idsC K) true 0 (some (0, 0)))] [V.ptr 2000000010 0, u16 id] [(1000000000, Blk.mk (rowsI L') true 0 (some (79, 3))), (2000000010, Blk.mk [V.sl 1000000000 0 n', V.mp 2000000011, vb off] false 3 none), (2000000011, Blk.mk (idsC K') true 0 (some (0, 0)))] (i64 0)]) [(3, ⟨some (V.tup [V.sl 1000000000 1000000000 0, V.sl 2000000010 2000000010 0, V.sl 2000000011 2000000011 0]), some ⟨i64 0, [(1000000000, Blk.mk (rowsI L') true 0 (some (79, 3))), (2000000010, Blk.mk [V.sl 1000000000 0 n', V.mp 2000000011, vb off] false 3 none), (2000000011, Blk.mk (idsC K') true 0 (some (0, 0)))], []⟩⟩)] [0, 3, 4, 5] [1000000000, 2000000010, 2000000011, 3, 5] (by kernel_rfl) ⟨(c1 ), trivial⟩ ?_
    refine AWP.frz 5 (s' := St.mk [(0, tp (V.ptr 2000000010 0)), (3, tp (V.ptr 3 0)), (4, tp (i64 0)), (5, tp (V.vs [] 0))] [(3, Blk.mk [u8 d, u32 t, u16 id, V.vs (u8s c) k, i32 b, vb on] true 6 none), (1000000000, Blk.mk (rowsI L') true 0 (some (79, 3))), (2000000010, Blk.mk [V.sl 1000000000 0 n', V.mp 2000000011, vb off] false 3 none), (2000000011, Blk.mk (idsC K') true 0 (some (0, 0)))]) (by kernel_rfl) ?_
    refine AWP.ret ?_
    refine ⟨Or.inr rfl, Eq.trans (b := some ([(1000000000, Blk.mk (rowsI L') true 0 (some (79, 3))), (2000000010, Blk.mk [V.sl 1000000000 0 n', V.mp 2000000011, vb off] false 3 none), (2000000011, Blk.mk (idsC K') true 0 (some (0, 0)))], V.tup [i64 0, V.vs [] 0])) (by kernel_rfl) ?_⟩
    first | rfl | (exfalso; omega)
  simp only [beq_eq_false_iff_ne] at hq20
  (exfalso; omega)
theorem con_dop_delno (L : List It) (n : Nat) (hn : L.length = n) (hm : n ≤ 1000) (K : List Int) (off : Bool) (d t id b : Int) (hd : 0 ≤ d ∧ d < 256) (c : List Int) (k : Nat) (on : Bool) (hd8 : d % 8 = 3) (hid : id ∉ K) :
    Con Try.prog 34 [(1000000000, ⟨rowsI L, true, 0, some (79, 3)⟩), (2000000010, ⟨[.sl 1000000000 0 n, .mp 2000000011, vb off], false, 3, none⟩), (2000000011, ⟨idsC K, true, 0, some (0, 0)⟩)] [.ptr 2000000010 0, .agg true [u8 d, u32 t, u16 id, .vs (u8s c) k, i32 b, vb on]] [(1000000000, ⟨rowsI L, true, 0, some (79, 3)⟩), (2000000010, ⟨[.sl 1000000000 0 n, .mp 2000000011, vb off], false, 3, none⟩), (2000000011, ⟨idsC K, true, 0, some (0, 0)⟩)] (.tup [i64 3, .vs [] 0]) := by
  have c1 := con_pdel_no L n K off id hid
  refine Con.of (C := ⟨Try.prog, tc, Try.f34.ntmps⟩) [1000000000, 2000000010, 2000000011] tcok Try.func34 rfl rfl (by kernel_rfl) (by kernel_rfl) ?_
  refine xe0 [0, 3, 4, 5] [1000000000, 2000000010, 2000000011, 3, 5] (by kernel_rfl) ?_
  refine AWP.seq ?_
  refine xe1 (os := [(8 : Int) ≠ (0 : Int), u8 (Int.tmod d 8) = u8 (d % 8)]) [(2, ⟨some (u8 (d % 8)), none⟩)] [0, 3, 4, 5, 8] [1000000000, 2000000010, 2000000011, 3, 5] (by kernel_rfl) ⟨(by omega), (tm_ (by omega)), trivial⟩ ?_
  refine AWP.block ?_
  refine xe0 [0, 3, 4, 5, 8, 9] [1000000000, 2000000010, 2000000011, 3, 5] (by kernel_rfl) ?_
  refine AWP.cond (b := d % 8 == 3) (by kernel_rfl) (fun hq21 => ?_) (fun hq21 => ?_)
  · simp only [beq_iff_eq] at hq21
    refine AWP.seq ?_
    refine AWP.keep' [0, 3] [1000000000, 2000000010, 2000000011, 3] (sf := St.mk [(0, tp (V.ptr 2000000010 0)), (3, tp (V.ptr 3 0))] [(3, Blk.mk [u8 d, u32 t, u16 id, V.vs (u8s c) k, i32 b, vb on] true 6 none), (1000000000, Blk.mk (rowsI L) true 0 (some (79, 3))), (2000000010, Blk.mk [V.sl 1000000000 0 n, V.mp 2000000011, vb off] false 3 none), (2000000011, Blk.mk (idsC K) true 0 (some (0, 0)))]) (by kernel_rfl) ?_
    refine xg1 (os := [Con Try.prog 28 [(1000000000, Blk.mk (rowsI L) true 0 (some (79, 3))), (2000000010, Blk.mk [V.sl 1000000000 0 n, V.mp 2000000011, vb off] false 3 none), (2000000011, Blk.mk (idsC K) true 0 (some (0, 0)))] [V.ptr 2000000010 0, u16 id] [(1000000000, Blk.mk (rowsI L) true 0 (some (79, 3))), (2000000010, Blk.mk [V.sl 1000000000 0 n, V.mp 2000000011, vb off] false 3 none), (2000000011, Blk.mk (idsC K) true 0 (some (0, 0)))] (i64 3)]) [(3, ⟨some (V.tup [V.sl 1000000000 1000000000 0, V.sl 2000000010 2000000010 0, V.sl 2000000011 2000000011 0]), some ⟨i64 3, [(1000000000, Blk.mk (rowsI L) true 0 (some (79, 3))), (2000000010, Blk.mk [V.sl 1000000000 0 n, V.mp 2000000011, vb off] false 3 none), (2000000011, Blk.mk (idsC K) true 0 (some (0, 0)))], []⟩⟩)] [0, 3, 4, 5] [1000000000, 2000000010, 2000000011, 3, 5] (by kernel_rfl) ⟨(c1 ), trivial⟩ ?_
    refine AWP.frz 5 (s' := St.mk [(0, tp (V.ptr 2000000010 0)), (3, tp (V.ptr 3 0)), (4, tp (i64 3)), (5, tp (V.vs [] 0))] [(3, Blk.mk [u8 d, u32 t, u16 id, V.vs (u8s c) k, i32 b, vb on] true 6 none), (1000000000, Blk.mk (rowsI L) true 0 (some (79, 3))), (2000000010, Blk.mk [V.sl 1000000000 0 n, V.mp 2000000011, vb off] false 3 none), (2000000011, Blk.mk (idsC K) true 0 (some (0, 0)))]) (by kernel_rfl) ?_
    refine AWP.ret ?_
    refine ⟨Or.inr rfl, Eq.trans (b := some ([(1000000000, Blk.mk (rowsI L) true 0 (some (79, 3))), (2000000010, Blk.mk [V.sl 1000000000 0 n, V.mp 2000000011, vb off] false 3 none), (2000000011, Blk.mk (idsC K) true 0 (some (0, 0)))], V.tup [i64 3, V.vs [] 0])) (by kernel_rfl) ?_⟩
    first | rfl | (exfalso; omega)
  simp only [beq_eq_false_iff_ne] at hq21
  (exfalso; omega)
theorem con_dop_dueoff (L : List It) (n : Nat) (hn : L.length = n) (hm : n ≤ 1000) (K : List Int) (off : Bool) (d t id b : Int) (hd : 0 ≤ d ∧ d < 256) (c : List Int) (k : Nat) (on : Bool) (hd8 : d % 8 = 4) (ho : off = true) :
    Con Try.prog 34 [(1000000000, ⟨rowsI L, true, 0, some (79, 3)⟩), (2000000010, ⟨[.sl 1000000000 0 n, .mp 2000000011, vb off], false, 3, none⟩), (2000000011, ⟨idsC K, true, 0, some (0, 0)⟩)] [.ptr 2000000010 0, .agg true [u8 d, u32 t, u16 id, .vs (u8s c) k, i32 b, vb on]] [(1000000000, ⟨rowsI L, true, 0, some (79, 3)⟩), (2000000010, ⟨[.sl 1000000000 0 n, .mp 2000000011, vb off], false, 3, none⟩), (2000000011, ⟨idsC K, true, 0, some (0, 0)⟩)] (.tup [i64 0, .vs [] 0]) := by
  subst ho
  have c1 := con_due_off L n K t
  refine Con.of (C := ⟨Try.prog, tc, Try.f34.ntmps⟩) [1000000000, 2000000010, 2000000011] tcok Try.func34 rfl rfl (by kernel_rfl) (by kernel_rfl) ?_
  refine xe0 [0, 3, 4, 5] [1000000000, 2000000010, 2000000011, 3, 5] (by kernel_rfl) ?_
  refine AWP.seq ?_
  refine xe1 (os := [(8 : Int) ≠ (0 : Int), u8 (Int.tmod d 8) = u8 (d % 8)]) [(2, ⟨some (u8 (d % 8)), none⟩)] [0, 3, 4, 5, 8] [1000000000, 2000000010, 2000000011, 3, 5] (by kernel_rfl) ⟨(by omega), (tm_ (by omega)), trivial⟩ ?_
  refine AWP.block ?_
  refine xe0 [0, 3, 4, 5, 8, 9] [1000000000, 2000000010, 2000000011, 3, 5] (by kernel_rfl) ?_
  refine AWP.cond (b := d % 8 == 3) (by kernel_rfl) (fun hq22 => ?_) (fun hq22 => ?_)
  · simp only [beq_iff_eq] at hq22
    (exfalso; omega)
  simp only [beq_eq_false_iff_ne] at hq22
  refine xe0 [0, 3, 4, 5, 8, 15] [1000000000, 2000000010, 2000000011, 3, 5] (by kernel_rfl) ?_
  refine AWP.cond (b := d % 8 == 4) (by kernel_rfl) (fun hq23 => ?_) (fun hq23 => ?_)
  · simp only [beq_iff_eq] at hq23
    refine AWP.seq ?_
    refine AWP.keep' [0, 3] [1000000000, 2000000010, 2000000011, 3] (sf := St.mk [(0, tp (V.ptr 2000000010 0)), (3, tp (V.ptr 3 0))] [(3, Blk.mk [u8 d, u32 t, u16 id, V.vs (u8s c) k, i32 b, vb on] true 6 none), (1000000000, Blk.mk (rowsI L) true 0 (some (79, 3))), (2000000010, Blk.mk [V.sl 1000000000 0 n, V.mp 2000000011, vb true] false 3 none), (2000000011, Blk.mk (idsC K) true 0 (some (0, 0)))]) (by kernel_rfl) ?_
    refine xg1 (os := [Con Try.prog 25 [(1000000000, Blk.mk (rowsI L) true 0 (some (79, 3))), (2000000010, Blk.mk [V.sl 1000000000 0 n, V.mp 2000000011, vb true] false 3 none), (2000000011, Blk.mk (idsC K) true 0 (some (0, 0)))] [V.ptr 2000000010 0, u32 t] [(1000000000, Blk.mk (rowsI L) true 0 (some (79, 3))), (2000000010, Blk.mk [V.sl 1000000000 0 n, V.mp 2000000011, vb true] false 3 none), (2000000011, Blk.mk (idsC K) true 0 (some (0, 0)))] (V.vs [] 0)]) [(3, ⟨some (V.tup [V.sl 1000000000 1000000000 0, V.sl 2000000010 2000000010 0, V.sl 2000000011 2000000011 0]), some ⟨V.vs [] 0, [(1000000000, Blk.mk (rowsI L) true 0 (some (79, 3))), (2000000010, Blk.mk [V.sl 1000000000 0 n, V.mp 2000000011, vb true] false 3 none), (2000000011, Blk.mk (idsC K) true 0 (some (0, 0)))], []⟩⟩)] [0, 3, 4, 5] [1000000000, 2000000010, 2000000011, 3] (by kernel_rfl) ⟨(c1 ), trivial⟩ ?_
    refine AWP.ret ?_
    refine ⟨Or.inr rfl, Eq.trans (b := some ([(1000000000, Blk.mk (rowsI L) true 0 (some (79, 3))), (2000000010, Blk.mk [V.sl 1000000000 0 n, V.mp 2000000011, vb true] false 3 none), (2000000011, Blk.mk (idsC K) true 0 (some (0, 0)))], V.tup [i64 0, V.vs [] 0])) (by kernel_rfl) ?_⟩
    first | rfl | (exfalso; omega)
  simp only [beq_eq_false_iff_ne] at hq23
  (exfalso; omega)
theorem con_dop_due (L : List It) (n : Nat) (hn : L.length = n) (hm : n ≤ 1000) (K : List Int) (off : Bool) (d t id b : Int) (hd : 0 ≤ d ∧ d < 256) (c : List Int) (k : Nat) (on : Bool) (hd8 : d % 8 = 4) (ho : off = false) (p : Nat) (hp : posI t L = p) (n' : Nat) (hn' : n - p = n') (L' : List It) (hL : L.drop p = L') (K' : List Int) (hK : eraI K (L.take p) = K') :
    Con Try.prog 34 [(1000000000, ⟨rowsI L, true, 0, some (79, 3)⟩), (2000000010, ⟨[.sl 1000000000 0 n, .mp 2000000011, vb off], false, 3, none⟩), (2000000011, ⟨idsC K, true, 0, some (0, 0)⟩)] [.ptr 2000000010 0, .agg true [u8 d, u32 t, u16 id, .vs (u8s c) k, i32 b, vb on]] [(1000000000, ⟨rowsI L', true, 0, some (79, 3)⟩), (2000000010, ⟨[.sl 1000000000 0 n', .mp 2000000011, vb off], false, 3, none⟩), (2000000011, ⟨idsC K', true, 0, some (0, 0)⟩)] (.tup [i64 0, .vs (tcC (L.take p)) p]) := by
  subst ho
  have c1 := con_due L n hn hm K t p hp n' hn' L' hL K' hK
  refine Con.of (C := ⟨Try.prog, tc, Try.f34.ntmps⟩) [1000000000, 2000000010, 2000000011] tcok Try.func34 rfl rfl (by kernel_rfl) (by kernel_rfl) ?_
  refine xe0 [0, 3, 4, 5] [1000000000, 2000000010, 2000000011, 3, 5] (by kernel_rfl) ?_
  refine AWP.seq ?_
  refine xe1 (os := [(8 : Int) ≠ (0 : Int), u8 (Int.tmod d 8) = u8 (d % 8)]) [(2, ⟨some (u8 (d % 8)), none⟩)] [0, 3, 4, 5, 8] [1000000000, 2000000010, 2000000011, 3, 5] (by kernel_rfl) ⟨(by omega), (tm_ (by omega)), trivial⟩ ?_
  refine AWP.block ?_
  refine xe0 [0, 3, 4, 5, 8, 9] [1000000000, 2000000010, 2000000011, 3, 5] (by kernel_rfl) ?_
  refine AWP.cond (b := d % 8 == 3) (by kernel_rfl) (fun hq24 => ?_) (fun hq24 => ?_)
  · simp only [beq_iff_eq] at hq24
    (exfalso; omega)
  simp only [beq_eq_false_iff_ne] at hq24
  refine xe0 [0, 3, 4, 5, 8, 15] [1000000000, 2000000010, 2000000011, 3, 5] (by kernel_rfl) ?_
  refine AWP.cond (b := d % 8 == 4) (by kernel_rfl) (fun hq25 => ?_) (fun hq25 => ?_)
  · simp only [beq_iff_eq] at hq25
    refine AWP.seq ?_
    refine AWP.keep' [0, 3] [1000000000, 2000000010, 2000000011, 3] (sf := St.mk [(0, tp (V.ptr 2000000010 0)), (3, tp (V.ptr 3 0))] [(3, Blk.mk [u8 d, u32 t, u16 id, V.vs (u8s c) k, i32 b, vb on] true 6 none), (1000000000, Blk.mk (rowsI L) true 0 (some (79, 3))), (2000000010, Blk.mk [V.sl 1000000000 0 n, V.mp 2000000011, vb false] false 3 none), (2000000011, Blk.mk (idsC K) true 0 (some (0, 0)))]) (by kernel_rfl) ?_
    refine xg1 (os := [Con Try.prog 25 [(1000000000, Blk.mk (rowsI L) true 0 (some (79, 3))), (2000000010, Blk.mk [V.sl 1000000000 0 n, V.mp 2000000011, vb false] false 3 none), (2000000011, Blk.mk (idsC K) true 0 (some (0, 0)))] [V.ptr 2000000010 0, u32 t] [(1000000000, Blk.mk (rowsI L') true 0 (some (79, 3))), (2000000010, Blk.mk [V.sl 1000000000 0 n', V.mp 2000000011, vb false] false 3 none), (2000000011, Blk.mk (idsC K') true 0 (some (0, 0)))] (V.vs (tcC (List.take p L)) p)]) [(3, ⟨some (V.tup [V.sl 1000000000 1000000000 0, V.sl 2000000010 2000000010 0, V.sl 2000000011 2000000011 0]), some ⟨V.vs (tcC (List.take p L)) p, [(1000000000, Blk.mk (rowsI L') true 0 (some (79, 3))), (2000000010, Blk.mk [V.sl 1000000000 0 n', V.mp 2000000011, vb false] false 3 none), (2000000011, Blk.mk (idsC K') true 0 (some (0, 0)))], []⟩⟩)] [0, 3, 4, 5] [1000000000, 2000000010, 2000000011, 3] (by kernel_rfl) ⟨(c1 ), trivial⟩ ?_
    refine AWP.ret ?_
    refine ⟨Or.inr rfl, Eq.trans (b := some ([(1000000000, Blk.mk (rowsI L') true 0 (some (79, 3))), (2000000010, Blk.mk [V.sl 1000000000 0 n', V.mp 2000000011, vb false] false 3 none), (2000000011, Blk.mk (idsC K') true 0 (some (0, 0)))], V.tup [i64 0, V.vs (tcC (List.take p L)) p])) (by kernel_rfl) ?_⟩
    first | rfl | (exfalso; omega)
  simp only [beq_eq_false_iff_ne] at hq25
  (exfalso; omega)
theorem con_dop_shift (L : List It) (n : Nat) (hn : L.length = n) (hm : n ≤ 1000) (K : List Int) (off : Bool) (d t id b : Int) (hd : 0 ≤ d ∧ d < 256) (c : List Int) (k : Nat) (on : Bool) (hd8 : d % 8 = 5) (hL : ∀ a ∈ L, 0 ≤ a.t ∧ a.t ≤ 4294967295) (hb : -2147483648 ≤ b ∧ b ≤ 2147483647) (L' : List It) (hL' : L.map (shI b) = L') :
    Con Try.prog 34 [(1000000000, ⟨rowsI L, true, 0, some (79, 3)⟩), (2000000010, ⟨[.sl 1000000000 0 n, .mp 2000000011, vb off], false, 3, none⟩), (2000000011, ⟨idsC K, true, 0, some (0, 0)⟩)] [.ptr 2000000010 0, .agg true [u8 d, u32 t, u16 id, .vs (u8s c) k, i32 b, vb on]] [(1000000000, ⟨rowsI L', true, 0, some (79, 3)⟩), (2000000010, ⟨[.sl 1000000000 0 n, .mp 2000000011, vb off], false, 3, none⟩), (2000000011, ⟨idsC K, true, 0, some (0, 0)⟩)] (.tup [i64 (n : Int), .vs [] 0]) := by
  have c1 := con_pshift L n hn hm hL K off b hb L' hL'
  refine Con.of (C := ⟨Try.prog, tc, Try.f34.ntmps⟩) [1000000000, 2000000010, 2000000011] tcok Try.func34 rfl rfl (by kernel_rfl) (by kernel_rfl) ?_
  refine xe0 [0, 3, 4, 5] [1000000000, 2000000010, 2000000011, 3, 5] (by kernel_rfl) ?_
  refine AWP.seq ?_
  refine xe1 (os := [(8 : Int) ≠ (0 : Int), u8 (Int.tmod d 8) = u8 (d % 8)]) [(2, ⟨some (u8 (d % 8)), none⟩)] [0, 3, 4, 5, 8] [1000000000, 2000000010, 2000000011, 3, 5] (by kernel_rfl) ⟨(by omega), (tm_ (by omega)), trivial⟩ ?_
  refine AWP.block ?_
  refine xe0 [0, 3, 4, 5, 8, 9] [1000000000, 2000000010, 2000000011, 3, 5] (by kernel_rfl) ?_
  refine AWP.cond (b := d % 8 == 3) (by kernel_rfl) (fun hq26 => ?_) (fun hq26 => ?_)
  · simp only [beq_iff_eq] at hq26
    (exfalso; omega)
  simp only [beq_eq_false_iff_ne] at hq26
  refine xe0 [0, 3, 4, 5, 8, 15] [1000000000, 2000000010, 2000000011, 3, 5] (by kernel_rfl) ?_
  refine AWP.cond (b := d % 8 == 4) (by kernel_rfl) (fun hq27 => ?_) (fun hq27 => ?_)
  · simp only [beq_iff_eq] at hq27
    (exfalso; omega)
  simp only [beq_eq_false_iff_ne] at hq27
  refine xe0 [0, 3, 4, 5, 8, 21] [1000000000, 2000000010, 2000000011, 3, 5] (by kernel_rfl) ?_
  refine AWP.cond (b := d % 8 == 5) (by kernel_rfl) (fun hq28 => ?_) (fun hq28 => ?_)
  · simp only [beq_iff_eq] at hq28
    refine AWP.seq ?_
    refine AWP.keep' [0, 3] [1000000000, 2000000010, 2000000011, 3] (sf := St.mk [(0, tp (V.ptr 2000000010 0)), (3, tp (V.ptr 3 0))] [(3, Blk.mk [u8 d, u32 t, u16 id, V.vs (u8s c) k, i32 b, vb on] true 6 none), (1000000000, Blk.mk (rowsI L) true 0 (some (79, 3))), (2000000010, Blk.mk [V.sl 1000000000 0 n, V.mp 2000000011, vb off] false 3 none), (2000000011, Blk.mk (idsC K) true 0 (some (0, 0)))]) (by kernel_rfl) ?_
    refine xg1 (os := [Con Try.prog 31 [(2000000000, Blk.mk (rowsI L) true 0 (some (79, 3))), (2000000010, Blk.mk [V.sl 2000000000 0 n, V.mp 2000000011, vb off] false 3 none), (2000000011, Blk.mk (idsC K) true 0 (some (0, 0)))] [V.ptr 2000000010 0, i32 b] [(2000000000, Blk.mk (rowsI L') true 0 (some (79, 3))), (2000000010, Blk.mk [V.sl 2000000000 0 n, V.mp 2000000011, vb off] false 3 none), (2000000011, Blk.mk (idsC K) true 0 (some (0, 0)))] (i64 (↑n : Int))]) [(3, ⟨some (V.tup [V.sl 2000000000 1000000000 0, V.sl 2000000010 2000000010 0, V.sl 2000000011 2000000011 0]), some ⟨i64 (↑n : Int), [(2000000000, Blk.mk (rowsI L') true 0 (some (79, 3))), (2000000010, Blk.mk [V.sl 2000000000 0 n, V.mp 2000000011, vb off] false 3 none), (2000000011, Blk.mk (idsC K) true 0 (some (0, 0)))], []⟩⟩)] [0, 3, 4, 5] [1000000000, 2000000010, 2000000011, 3, 5] (by kernel_rfl) ⟨(c1 ), trivial⟩ ?_
    refine AWP.frz 5 (s' := St.mk [(0, tp (V.ptr 2000000010 0)), (3, tp (V.ptr 3 0)), (4, tp (i64 (↑n : Int))), (5, tp (V.vs [] 0))] [(3, Blk.mk [u8 d, u32 t, u16 id, V.vs (u8s c) k, i32 b, vb on] true 6 none), (1000000000, Blk.mk (rowsI L') true 0 (some (79, 3))), (2000000010, Blk.mk [V.sl 1000000000 0 n, V.mp 2000000011, vb off] false 3 none), (2000000011, Blk.mk (idsC K) true 0 (some (0, 0)))]) (by kernel_rfl) ?_
    refine AWP.ret ?_
    refine ⟨Or.inr rfl, Eq.trans (b := some ([(1000000000, Blk.mk (rowsI L') true 0 (some (79, 3))), (2000000010, Blk.mk [V.sl 1000000000 0 n, V.mp 2000000011, vb off] false 3 none), (2000000011, Blk.mk (idsC K) true 0 (some (0, 0)))], V.tup [i64 (↑n : Int), V.vs [] 0])) (by kernel_rfl) ?_⟩
    first | rfl | (exfalso; omega)
  simp only [beq_eq_false_iff_ne] at hq28
  (exfalso; omega)
theorem con_dop_en (L : List It) (n : Nat) (hn : L.length = n) (hm : n ≤ 1000) (K : List Int) (off : Bool) (d t id b : Int) (hd : 0 ≤ d ∧ d < 256) (c : List Int) (k : Nat) (on : Bool) (hd8 : d % 8 = 6) (off' : Bool) (ho : (!on) = off') :
    Con Try.prog 34 [(1000000000, ⟨rowsI L, true, 0, some (79, 3)⟩), (2000000010, ⟨[.sl 1000000000 0 n, .mp 2000000011, vb off], false, 3, none⟩), (2000000011, ⟨idsC K, true, 0, some (0, 0)⟩)] [.ptr 2000000010 0, .agg true [u8 d, u32 t, u16 id, .vs (u8s c) k, i32 b, vb on]] [(1000000000, ⟨rowsI L, true, 0, some (79, 3)⟩), (2000000010, ⟨[.sl 1000000000 0 n, .mp 2000000011, vb off'], false, 3, none⟩), (2000000011, ⟨idsC K, true, 0, some (0, 0)⟩)] (.tup [i64 0, .vs [] 0]) := by
  have c1 := con_pen L n K off on off' ho
  refine Con.of (C := ⟨Try.prog, tc, Try.f34.ntmps⟩) [1000000000, 2000000010, 2000000011] tcok Try.func34 rfl rfl (by kernel_rfl) (by kernel_rfl) ?_
  refine xe0 [0, 3, 4, 5] [1000000000, 2000000010, 2000000011, 3, 5] (by kernel_rfl) ?_
  refine AWP.seq ?_
  refine xe1 (os := [(8 : Int) ≠ (0 : Int), u8 (Int.tmod d 8) = u8 (d % 8)]) [(2, ⟨some (u8 (d % 8)), none⟩)] [0, 3, 4, 5, 8] [1000000000, 2000000010, 2000000011, 3, 5] (by kernel_rfl) ⟨(by omega), (tm_ (by omega)), trivial⟩ ?_
  refine AWP.block ?_
  refine xe0 [0, 3, 4, 5, 8, 9] [1000000000, 2000000010, 2000000011, 3, 5] (by kernel_rfl) ?_
  refine AWP.cond (b := d % 8 == 3) (by kernel_rfl) (fun hq29 => ?_) (fun hq29 => ?_)
  · simp only [beq_iff_eq] at hq29
    (exfalso; omega)
  simp only [beq_eq_false_iff_ne] at hq29
  refine xe0 [0, 3, 4, 5, 8, 15] [1000000000, 2000000010, 2000000011, 3, 5] (by kernel_rfl) ?_
  refine AWP.cond (b := d % 8 == 4) (by kernel_rfl) (fun hq30 => ?_) (fun hq30 => ?_)
  · simp only [beq_iff_eq] at hq30
    (exfalso; omega)
  simp only [beq_eq_false_iff_ne] at hq30
  refine xe0 [0, 3, 4, 5, 8, 21] [1000000000, 2000000010, 2000000011, 3, 5] (by kernel_rfl) ?_
  refine AWP.cond (b := d % 8 == 5) (by kernel_rfl) (fun hq31 => ?_) (fun hq31 => ?_)
  · simp only [beq_iff_eq] at hq31
    (exfalso; omega)
  simp only [beq_eq_false_iff_ne] at hq31
  refine xe0 [0, 3, 4, 5, 8, 27] [1000000000, 2000000010, 2000000011, 3, 5] (by kernel_rfl) ?_
  refine AWP.cond (b := d % 8 == 6) (by kernel_rfl) (fun hq32 => ?_) (fun hq32 => ?_)
  · simp only [beq_iff_eq] at hq32
    refine xe1 (os := [Con Try.prog 55 [(2000000000, Blk.mk (rowsI L) true 0 (some (79, 3))), (2000000010, Blk.mk [V.sl 2000000000 0 n, V.mp 2000000011, vb off] false 3 none), (2000000011, Blk.mk (idsC K) true 0 (some (0, 0)))] [V.ptr 2000000010 0, vb on] [(2000000000, Blk.mk (rowsI L) true 0 (some (79, 3))), (2000000010, Blk.mk [V.sl 2000000000 0 n, V.mp 2000000011, vb off'] false 3 none), (2000000011, Blk.mk (idsC K) true 0 (some (0, 0)))] (V.tup [])]) [(3, ⟨some (V.tup [V.sl 2000000000 1000000000 0, V.sl 2000000010 2000000010 0, V.sl 2000000011 2000000011 0]), some ⟨V.tup [], [(2000000000, Blk.mk (rowsI L) true 0 (some (79, 3))), (2000000010, Blk.mk [V.sl 2000000000 0 n, V.mp 2000000011, vb off'] false 3 none), (2000000011, Blk.mk (idsC K) true 0 (some (0, 0)))], []⟩⟩)] [0, 3, 4, 5] [1000000000, 2000000010, 2000000011, 3, 5] (by kernel_rfl) ⟨(c1 ), trivial⟩ ?_
    refine AWP.seq ?_
    refine AWP.keep' [0, 3] [1000000000, 2000000010, 2000000011, 3] (sf := St.mk [(0, tp (V.ptr 2000000010 0)), (3, tp (V.ptr 3 0))] [(3, Blk.mk [u8 d, u32 t, u16 id, V.vs (u8s c) k, i32 b, vb on] true 6 none), (1000000000, Blk.mk (rowsI L) true 0 (some (79, 3))), (2000000010, Blk.mk [V.sl 1000000000 0 n, V.mp 2000000011, vb off'] false 3 none), (2000000011, Blk.mk (idsC K) true 0 (some (0, 0)))]) (by kernel_rfl) ?_
    refine xg0 [0, 3, 4, 5] [3, 5, 1000000000, 2000000010, 2000000011] (by kernel_rfl) ?_
    refine AWP.frz 5 (s' := St.mk [(0, tp (V.ptr 2000000010 0)), (3, tp (V.ptr 3 0)), (4, tp (i64 0)), (5, tp (V.vs [] 0))] [(3, Blk.mk [u8 d, u32 t, u16 id, V.vs (u8s c) k, i32 b, vb on] true 6 none), (1000000000, Blk.mk (rowsI L) true 0 (some (79, 3))), (2000000010, Blk.mk [V.sl 1000000000 0 n, V.mp 2000000011, vb off'] false 3 none), (2000000011, Blk.mk (idsC K) true 0 (some (0, 0)))]) (by kernel_rfl) ?_
    refine AWP.ret ?_
    refine ⟨Or.inr rfl, Eq.trans (b := some ([(1000000000, Blk.mk (rowsI L) true 0 (some (79, 3))), (2000000010, Blk.mk [V.sl 1000000000 0 n, V.mp 2000000011, vb off'] false 3 none), (2000000011, Blk.mk (idsC K) true 0 (some (0, 0)))], V.tup [i64 0, V.vs [] 0])) (by kernel_rfl) ?_⟩
    first | rfl | (exfalso; omega)
  simp only [beq_eq_false_iff_ne] at hq32
  (exfalso; omega)
theorem con_dop_clr (L : List It) (n : Nat) (hn : L.length = n) (hm : n ≤ 1000) (K : List Int) (off : Bool) (d t id b : Int) (hd : 0 ≤ d ∧ d < 256) (c : List Int) (k : Nat) (on : Bool) (hd8 : d % 8 = 7) (h0 : 0 < n) :
    Con Try.prog 34 [(1000000000, ⟨rowsI L, true, 0, some (79, 3)⟩), (2000000010, ⟨[.sl 1000000000 0 n, .mp 2000000011, vb off], false, 3, none⟩), (2000000011, ⟨idsC K, true, 0, some (0, 0)⟩)] [.ptr 2000000010 0, .agg true [u8 d, u32 t, u16 id, .vs (u8s c) k, i32 b, vb on]] [(1000000000, ⟨rowsI [], true, 0, some (79, 3)⟩), (2000000010, ⟨[.sl 1000000000 0 0, .mp 2000000011, vb off], false, 3, none⟩), (2000000011, ⟨idsC [], true, 0, some (0, 0)⟩)] (.tup [i64 (n : Int), .vs [] 0]) := by
  have c1 := con_pclr L n h0 K off
  refine Con.of (C := ⟨Try.prog, tc, Try.f34.ntmps⟩) [1000000000, 2000000010, 2000000011] tcok Try.func34 rfl rfl (by kernel_rfl) (by kernel_rfl) ?_
  refine xe0 [0, 3, 4, 5] [1000000000, 2000000010, 2000000011, 3, 5] (by kernel_rfl) ?_
  refine AWP.seq ?_
  refine xe1 (os := [(8 : Int) ≠ (0 : Int), u8 (Int.tmod d 8) = u8 (d % 8)]) [(2, ⟨some (u8 (d % 8)), none⟩)] [0, 3, 4, 5, 8] [1000000000, 2000000010, 2000000011, 3, 5] (by kernel_rfl) ⟨(by omega), (tm_ (by omega)), trivial⟩ ?_
  refine AWP.block ?_
  refine xe0 [0, 3, 4, 5, 8, 9] [1000000000, 2000000010, 2000000011, 3, 5] (by kernel_rfl) ?_
  refine AWP.cond (b := d % 8 == 3) (by kernel_rfl) (fun hq33 => ?_) (fun hq33 => ?_)
  · simp only [beq_iff_eq] at hq33
    (exfalso; omega)
  simp only [beq_eq_false_iff_ne] at hq33
  refine xe0 [0, 3, 4, 5, 8, 15] [1000000000, 2000000010, 2000000011, 3, 5] (by kernel_rfl) ?_
  refine AWP.cond (b := d % 8 == 4) (by kernel_rfl) (fun hq34 => ?_) (fun hq34 => ?_)
  · simp only [beq_iff_eq] at hq34
    (exfalso; omega)
  simp only [beq_eq_false_iff_ne] at hq34
  refine xe0 [0, 3, 4, 5, 8, 21] [1000000000, 2000000010, 2000000011, 3, 5] (by kernel_rfl) ?_
  refine AWP.cond (b := d % 8 == 5) (by kernel_rfl) (fun hq35 => ?_) (fun hq35 => ?_)
  · simp only [beq_iff_eq] at hq35
    (exfalso; omega)
  simp only [beq_eq_false_iff_ne] at hq35
  refine xe0 [0, 3, 4, 5, 8, 27] [1000000000, 2000000010, 2000000011, 3, 5] (by kernel_rfl) ?_
  refine AWP.cond (b := d % 8 == 6) (by kernel_rfl) (fun hq36 => ?_) (fun hq36 => ?_)
  · simp only [beq_iff_eq] at hq36
    (exfalso; omega)
  simp only [beq_eq_false_iff_ne] at hq36
  refine xe0 [0, 3, 4, 5, 33] [1000000000, 2000000010, 2000000011, 3, 5] (by kernel_rfl) ?_
  refine AWP.cond (b := d % 8 == 7) (by kernel_rfl) (fun hq37 => ?_) (fun hq37 => ?_)
  · simp only [beq_iff_eq] at hq37
    refine AWP.seq ?_
    refine AWP.keep' [0, 3] [1000000000, 2000000010, 2000000011, 3] (sf := St.mk [(0, tp (V.ptr 2000000010 0)), (3, tp (V.ptr 3 0))] [(3, Blk.mk [u8 d, u32 t, u16 id, V.vs (u8s c) k, i32 b, vb on] true 6 none), (1000000000, Blk.mk (rowsI L) true 0 (some (79, 3))), (2000000010, Blk.mk [V.sl 1000000000 0 n, V.mp 2000000011, vb off] false 3 none), (2000000011, Blk.mk (idsC K) true 0 (some (0, 0)))]) (by kernel_rfl) ?_
    refine xg1 (os := [Con Try.prog 29 [(1000000000, Blk.mk (rowsI L) true 0 (some (79, 3))), (2000000010, Blk.mk [V.sl 1000000000 0 n, V.mp 2000000011, vb off] false 3 none), (2000000011, Blk.mk (idsC K) true 0 (some (0, 0)))] [V.ptr 2000000010 0] [(1000000000, Blk.mk [] true 0 (some (79, 3))), (2000000010, Blk.mk [V.sl 1000000000 0 0, V.mp 2000000011, vb off] false 3 none), (2000000011, Blk.mk [] true 0 (some (0, 0)))] (i64 (↑n : Int))]) [(1, ⟨some (V.tup [V.sl 1000000000 1000000000 0, V.sl 2000000010 2000000010 0, V.sl 2000000011 2000000011 0]), some ⟨i64 (↑n : Int), [(1000000000, Blk.mk [] true 0 (some (79, 3))), (2000000010, Blk.mk [V.sl 1000000000 0 0, V.mp 2000000011, vb off] false 3 none), (2000000011, Blk.mk [] true 0 (some (0, 0)))], []⟩⟩)] [0, 3, 4, 5] [1000000000, 2000000010, 2000000011, 3, 5] (by kernel_rfl) ⟨(c1 ), trivial⟩ ?_
    refine AWP.frz 5 (s' := St.mk [(0, tp (V.ptr 2000000010 0)), (3, tp (V.ptr 3 0)), (4, tp (i64 (↑n : Int))), (5, tp (V.vs [] 0))] [(3, Blk.mk [u8 d, u32 t, u16 id, V.vs (u8s c) k, i32 b, vb on] true 6 none), (1000000000, Blk.mk [] true 0 (some (79, 3))), (2000000010, Blk.mk [V.sl 1000000000 0 0, V.mp 2000000011, vb off] false 3 none), (2000000011, Blk.mk [] true 0 (some (0, 0)))]) (by kernel_rfl) ?_
    refine AWP.ret ?_
    refine ⟨Or.inr rfl, Eq.trans (b := some ([(1000000000, Blk.mk [] true 0 (some (79, 3))), (2000000010, Blk.mk [V.sl 1000000000 0 0, V.mp 2000000011, vb off] false 3 none), (2000000011, Blk.mk [] true 0 (some (0, 0)))], V.tup [i64 (↑n : Int), V.vs [] 0])) (by kernel_rfl) ?_⟩
    first | rfl | (exfalso; omega)
  simp only [beq_eq_false_iff_ne] at hq37
  (exfalso; omega)
theorem con_dop_clr0 (L : List It) (n : Nat) (hn : L.length = n) (hm : n ≤ 1000) (K : List Int) (off : Bool) (d t id b : Int) (hd : 0 ≤ d ∧ d < 256) (c : List Int) (k : Nat) (on : Bool) (hd8 : d % 8 = 7) (h0 : n = 0) :
    Con Try.prog 34 [(1000000000, ⟨rowsI L, true, 0, some (79, 3)⟩), (2000000010, ⟨[.sl 1000000000 0 n, .mp 2000000011, vb off], false, 3, none⟩), (2000000011, ⟨idsC K, true, 0, some (0, 0)⟩)] [.ptr 2000000010 0, .agg true [u8 d, u32 t, u16 id, .vs (u8s c) k, i32 b, vb on]] [(1000000000, ⟨rowsI L, true, 0, some (79, 3)⟩), (2000000010, ⟨[.sl 1000000000 0 n, .mp 2000000011, vb off], false, 3, none⟩), (2000000011, ⟨idsC K, true, 0, some (0, 0)⟩)] (.tup [i64 0, .vs [] 0]) := by
  subst h0
  have c1 := con_pclr0 L K off
  refine Con.of (C := ⟨Try.prog, tc, Try.f34.ntmps⟩) [1000000000, 2000000010, 2000000011] tcok Try.func34 rfl rfl (by kernel_rfl) (by kernel_rfl) ?_
  refine xe0 [0, 3, 4, 5] [1000000000, 2000000010, 2000000011, 3, 5] (by kernel_rfl) ?_
  refine AWP.seq ?_
  refine xe1 (os := [(8 : Int) ≠ (0 : Int), u8 (Int.tmod d 8) = u8 (d % 8)]) [(2, ⟨some (u8 (d % 8)), none⟩)] [0, 3, 4, 5, 8] [1000000000, 2000000010, 2000000011, 3, 5] (by kernel_rfl) ⟨(by omega), (tm_ (by omega)), trivial⟩ ?_
  refine AWP.block ?_
  refine xe0 [0, 3, 4, 5, 8, 9] [1000000000, 2000000010, 2000000011, 3, 5] (by kernel_rfl) ?_
  refine AWP.cond (b := d % 8 == 3) (by kernel_rfl) (fun hq38 => ?_) (fun hq38 => ?_)
  · simp only [beq_iff_eq] at hq38
    (exfalso; omega)
  simp only [beq_eq_false_iff_ne] at hq38
  refine xe0 [0, 3, 4, 5, 8, 15] [1000000000, 2000000010, 2000000011, 3, 5] (by kernel_rfl) ?_
  refine AWP.cond (b := d % 8 == 4) (by kernel_rfl) (fun hq39 => ?_) (fun hq39 => ?_)
  · simp only [beq_iff_eq] at hq39
    (exfalso; omega)
  simp only [beq_eq_false_iff_ne] at hq39
  refine xe0 [0, 3, 4, 5, 8, 21] [1000000000, 2000000010, 2000000011, 3, 5] (by kernel_rfl) ?_
  refine AWP.cond (b := d % 8 == 5) (by kernel_rfl) (fun hq40 => ?_) (fun hq40 => ?_)
  · simp only [beq_iff_eq] at hq40
    (exfalso; omega)
  simp only [beq_eq_false_iff_ne] at hq40
  refine xe0 [0, 3, 4, 5, 8, 27] [1000000000, 2000000010, 2000000011, 3, 5] (by kernel_rfl) ?_
  refine AWP.cond (b := d % 8 == 6) (by kernel_rfl) (fun hq41 => ?_) (fun hq41 => ?_)
  · simp only [beq_iff_eq] at hq41
    (exfalso; omega)
  simp only [beq_eq_false_iff_ne] at hq41
  refine xe0 [0, 3, 4, 5, 33] [1000000000, 2000000010, 2000000011, 3, 5] (by kernel_rfl) ?_
  refine AWP.cond (b := d % 8 == 7) (by kernel_rfl) (fun hq42 => ?_) (fun hq42 => ?_)
  · simp only [beq_iff_eq] at hq42
    refine AWP.seq ?_
    refine AWP.keep' [0, 3] [1000000000, 2000000010, 2000000011, 3] (sf := St.mk [(0, tp (V.ptr 2000000010 0)), (3, tp (V.ptr 3 0))] [(3, Blk.mk [u8 d, u32 t, u16 id, V.vs (u8s c) k, i32 b, vb on] true 6 none), (1000000000, Blk.mk (rowsI L) true 0 (some (79, 3))), (2000000010, Blk.mk [V.sl 1000000000 0 0, V.mp 2000000011, vb off] false 3 none), (2000000011, Blk.mk (idsC K) true 0 (some (0, 0)))]) (by kernel_rfl) ?_
    refine xg1 (os := [Con Try.prog 29 [(1000000000, Blk.mk (rowsI L) true 0 (some (79, 3))), (2000000010, Blk.mk [V.sl 1000000000 0 0, V.mp 2000000011, vb off] false 3 none), (2000000011, Blk.mk (idsC K) true 0 (some (0, 0)))] [V.ptr 2000000010 0] [(1000000000, Blk.mk (rowsI L) true 0 (some (79, 3))), (2000000010, Blk.mk [V.sl 1000000000 0 0, V.mp 2000000011, vb off] false 3 none), (2000000011, Blk.mk (idsC K) true 0 (some (0, 0)))] (i64 0)]) [(1, ⟨some (V.tup [V.sl 1000000000 1000000000 0, V.sl 2000000010 2000000010 0, V.sl 2000000011 2000000011 0]), some ⟨i64 0, [(1000000000, Blk.mk (rowsI L) true 0 (some (79, 3))), (2000000010, Blk.mk [V.sl 1000000000 0 0, V.mp 2000000011, vb off] false 3 none), (2000000011, Blk.mk (idsC K) true 0 (some (0, 0)))], []⟩⟩)] [0, 3, 4, 5] [1000000000, 2000000010, 2000000011, 3, 5] (by kernel_rfl) ⟨(c1 ), trivial⟩ ?_
    refine AWP.frz 5 (s' := St.mk [(0, tp (V.ptr 2000000010 0)), (3, tp (V.ptr 3 0)), (4, tp (i64 0)), (5, tp (V.vs [] 0))] [(3, Blk.mk [u8 d, u32 t, u16 id, V.vs (u8s c) k, i32 b, vb on] true 6 none), (1000000000, Blk.mk (rowsI L) true 0 (some (79, 3))), (2000000010, Blk.mk [V.sl 1000000000 0 0, V.mp 2000000011, vb off] false 3 none), (2000000011, Blk.mk (idsC K) true 0 (some (0, 0)))]) (by kernel_rfl) ?_
    refine AWP.ret ?_
    refine ⟨Or.inr rfl, Eq.trans (b := some ([(1000000000, Blk.mk (rowsI L) true 0 (some (79, 3))), (2000000010, Blk.mk [V.sl 1000000000 0 0, V.mp 2000000011, vb off] false 3 none), (2000000011, Blk.mk (idsC K) true 0 (some (0, 0)))], V.tup [i64 0, V.vs [] 0])) (by kernel_rfl) ?_⟩
    first | rfl | (exfalso; omega)
  simp only [beq_eq_false_iff_ne] at hq42
  (exfalso; omega)
end Go.Proofs.Ytlfjnkobnkfioaa
