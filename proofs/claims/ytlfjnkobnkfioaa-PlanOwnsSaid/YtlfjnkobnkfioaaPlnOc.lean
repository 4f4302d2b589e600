/- Items told with bytes of their own. -/
import Derived.Test.YtlfjnkobnkfioaaRg
import Derived.Test.YtlfjnkobnkfioaaPlnOb
namespace Go.Proofs.Ytlfjnkobnkfioaa
open Go.Ab
set_option maxRecDepth 100000
set_option maxHeartbeats 8000000
set_option linter.unusedSimpArgs false
set_option linter.unusedVariables false
theorem con_copied1 (t id : Int) (c : List Int) (k : Nat) (hk : c.length = k) (hk2 : k ≤ 1000) :
    Con Try.prog 52 [(2000000000, ⟨[u32 t, u16 id, .vs (u8s c) k], true, 0, some (79, 3)⟩)] [.sl 2000000000 0 1] [(3, ⟨[u32 t, u16 id, .sl 150005 0 k], false, 0, some (79, 3)⟩), (150005, ⟨u8s c, true, 0, some (5, 1)⟩), (2000000000, ⟨[u32 t, u16 id, .vs (u8s c) k], true, 0, some (79, 3)⟩)] (.sl 3 0 1) := by
  have c2 := con_cln2 c k hk (by omega)
  refine Con.of (C := ⟨Try.prog, tc, Try.f52.ntmps⟩) [3, 150005, 2000000000] tcok Try.func52 rfl rfl (by kernel_rfl) (by kernel_rfl) ?_
  refine AWP.seq ?_
  refine AWP.regionT tcok hmix [] [0, 2] [2, 2000000000] (os := []) (s' := St.mk [(0, tp (V.sl 2000000000 0 1)), (2, tp (V.sl 2 0 0))] [(2, Blk.mk [] true 0 (some (79, 3))), (2000000000, Blk.mk [u32 t, u16 id, V.vs (u8s c) k] true 0 (some (79, 3)))]) (by kernel_rfl) trivial ?_
  refine xe0 [0, 2, 3] [2, 3, 2000000000] (by kernel_rfl) ?_
  refine AWP.seq ?_
  refine xe0 [2, 3, 6, 7, 8] [2000000000, 2, 3] (by kernel_rfl) ?_
  refine AWP.block ?_
  refine AWP.unroll 2 ?_
  refine xe0 [2, 3, 6, 7, 8, 9] [2, 3, 2000000000] (by kernel_rfl) ?_
  refine AWP.seq ?_
  refine AWP.condT (by kernel_rfl) ?_
  refine AWP.skip ?_
  refine AWP.seq ?_
  refine AWP.block ?_
  refine xe0 [2, 3, 5, 6, 7, 8, 9, 10, 11] [2, 3, 5, 2000000000] (by kernel_rfl) ?_
  refine xe1 (os := [Con Try.prog 47 [] [V.vs (u8s c) k] [(5, Blk.mk (u8s c) true 0 (some (5, 1)))] (V.sl 5 0 k)]) [(2, ⟨none, some ⟨V.sl 5 0 k, [(5, Blk.mk (u8s c) true 0 (some (5, 1)))], []⟩⟩)] [2, 3, 5, 6, 7, 8, 9, 10, 11, 12, 13, 14, 15] [2, 3, 5, 150005, 2000000000] (by kernel_rfl) ⟨(c2 ), trivial⟩ ?_
  refine AWP.region tcok hmix [] (os := []) (sf := St.mk [(2, tp (V.sl 2 0 0)), (3, tp (V.sl 3 0 1)), (5, tp (V.ptr 5 0)), (6, tp (V.sl 2000000000 0 1)), (7, tp (i64 1)), (8, tp (i64 0)), (9, tp (vb true)), (10, tp (V.ptr 2000000000 0)), (11, tp (V.agg true [u32 t, u16 id, V.vs (u8s c) k])), (12, tp (V.ptr 5 2)), (13, tp (V.vs (u8s c) k)), (14, tp (V.sl 150005 0 k)), (15, tp (V.ptr 5 2)), (16, tp V.top), (17, tp (V.agg false [u32 t, u16 id, V.sl 150005 0 k])), (18, tp (V.sl 18 0 1)), (19, tp (V.sl 3 0 1))] [(2, Blk.mk [] true 0 (some (79, 3))), (3, Blk.mk [u32 t, u16 id, V.sl 150005 0 k] false 0 (some (79, 3))), (5, Blk.mk [u32 t, u16 id, V.sl 150005 0 k] false 3 none), (18, Blk.mk [u32 t, u16 id, V.sl 150005 0 k] false 0 (some (79, 3))), (150005, Blk.mk (u8s c) true 0 (some (5, 1))), (2000000000, Blk.mk [u32 t, u16 id, V.vs (u8s c) k] true 0 (some (79, 3)))]) (by kernel_rfl) trivial ?_
  refine AWP.region tcok hmix [] (os := []) (sf := St.mk [(2, tp (V.sl 2 0 0)), (3, tp (V.sl 3 0 1)), (5, tp (V.ptr 5 0)), (6, tp (V.sl 2000000000 0 1)), (7, tp (i64 1)), (8, tp (i64 1)), (9, tp (vb true)), (10, tp (V.ptr 2000000000 0)), (11, tp (V.agg true [u32 t, u16 id, V.vs (u8s c) k])), (12, tp (V.ptr 5 2)), (13, tp (V.vs (u8s c) k)), (14, tp (V.sl 150005 0 k)), (15, tp (V.ptr 5 2)), (16, tp V.top), (17, tp (V.agg false [u32 t, u16 id, V.sl 150005 0 k])), (18, tp (V.sl 18 0 1)), (19, tp (V.sl 3 0 1)), (20, tp (i64 1))] [(2, Blk.mk [] true 0 (some (79, 3))), (3, Blk.mk [u32 t, u16 id, V.sl 150005 0 k] false 0 (some (79, 3))), (5, Blk.mk [u32 t, u16 id, V.sl 150005 0 k] false 3 none), (18, Blk.mk [u32 t, u16 id, V.sl 150005 0 k] false 0 (some (79, 3))), (150005, Blk.mk (u8s c) true 0 (some (5, 1))), (2000000000, Blk.mk [u32 t, u16 id, V.vs (u8s c) k] true 0 (some (79, 3)))]) (by kernel_rfl) trivial ?_
  refine xe0 [2, 3, 5, 6, 7, 8, 9, 10, 11, 12, 13, 14, 15, 16, 17, 18, 19, 20] [2, 3, 5, 18, 150005, 2000000000] (by kernel_rfl) ?_
  refine AWP.seq ?_
  refine AWP.condF (by kernel_rfl) ?_
  refine AWP.exit ?_
  refine AWP.seq ?_
  refine AWP.keep' [3] [2000000000, 3, 150005] (sf := St.mk [(3, tp (V.sl 3 0 1))] [(3, Blk.mk [u32 t, u16 id, V.sl 150005 0 k] false 0 (some (79, 3))), (150005, Blk.mk (u8s c) true 0 (some (5, 1))), (2000000000, Blk.mk [u32 t, u16 id, V.vs (u8s c) k] true 0 (some (79, 3)))]) (by kernel_rfl) ?_
  refine xg0 [2] [2000000000, 3, 150005] (by kernel_rfl) ?_
  refine AWP.ret ?_
  refine ⟨Or.inr rfl, Eq.trans (b := some ([(3, Blk.mk [u32 t, u16 id, V.sl 150005 0 k] false 0 (some (79, 3))), (150005, Blk.mk (u8s c) true 0 (some (5, 1))), (2000000000, Blk.mk [u32 t, u16 id, V.vs (u8s c) k] true 0 (some (79, 3)))], V.sl 3 0 1)) (by kernel_rfl) ?_⟩
  first | rfl | (exfalso; omega)
theorem con_pall1 (t id : Int) (c : List Int) (k : Nat) (hk : c.length = k) (hk2 : k ≤ 1000) (K : List Int) (off : Bool) :
    Con Try.prog 30 [(2000000000, ⟨[u32 t, u16 id, .vs (u8s c) k], true, 0, some (79, 3)⟩), (2000000010, ⟨[.sl 2000000000 0 1, .mp 2000000011, vb off], false, 3, none⟩), (2000000011, ⟨idsC K, true, 0, some (0, 0)⟩)] [.ptr 2000000010 0]
      [(100003, ⟨[u32 t, u16 id, .sl 250005 0 k], false, 0, some (79, 3)⟩), (250005, ⟨u8s c, true, 0, some (5, 1)⟩), (2000000000, ⟨[u32 t, u16 id, .vs (u8s c) k], true, 0, some (79, 3)⟩), (2000000010, ⟨[.sl 2000000000 0 1, .mp 2000000011, vb off], false, 3, none⟩), (2000000011, ⟨idsC K, true, 0, some (0, 0)⟩)] (.sl 100003 0 1) := by
  have c1 := con_copied1 t id c k hk hk2
  refine Con.of (C := ⟨Try.prog, tc, Try.f30.ntmps⟩) [100003, 250005, 2000000000, 2000000010, 2000000011] tcok Try.func30 rfl rfl (by kernel_rfl) (by kernel_rfl) ?_
  refine AWP.seq ?_
  refine AWP.regionT tcok hmix [] [0, 2] [2, 2000000000, 2000000010, 2000000011] (os := []) (s' := St.mk [(0, tp (V.ptr 2000000010 0)), (2, tp (V.sl 2 0 0))] [(2, Blk.mk [] true 0 (some (79, 3))), (2000000000, Blk.mk [u32 t, u16 id, V.vs (u8s c) k] true 0 (some (79, 3))), (2000000010, Blk.mk [V.sl 2000000000 0 1, V.mp 2000000011, vb off] false 3 none), (2000000011, Blk.mk (idsC K) true 0 (some (0, 0)))]) (by kernel_rfl) trivial ?_
  refine AWP.seq ?_
  refine xe0 [0, 2, 4] [2000000000, 2000000010, 2000000011, 2] (by kernel_rfl) ?_
  refine AWP.condF (by kernel_rfl) ?_
  refine AWP.skip ?_
  refine AWP.seq ?_
  refine AWP.keep' [0] [2000000000, 2000000010, 2000000011] (sf := St.mk [(0, tp (V.ptr 2000000010 0))] [(2000000000, Blk.mk [u32 t, u16 id, V.vs (u8s c) k] true 0 (some (79, 3))), (2000000010, Blk.mk [V.sl 2000000000 0 1, V.mp 2000000011, vb off] false 3 none), (2000000011, Blk.mk (idsC K) true 0 (some (0, 0)))]) (by kernel_rfl) ?_
  refine xg1 (os := [Con Try.prog 52 [(2000000000, Blk.mk [u32 t, u16 id, V.vs (u8s c) k] true 0 (some (79, 3)))] [V.sl 2000000000 0 1] [(3, Blk.mk [u32 t, u16 id, V.sl 150005 0 k] false 0 (some (79, 3))), (150005, Blk.mk (u8s c) true 0 (some (5, 1))), (2000000000, Blk.mk [u32 t, u16 id, V.vs (u8s c) k] true 0 (some (79, 3)))] (V.sl 3 0 1)]) [(4, ⟨some (V.tup [V.sl 2000000000 2000000000 0]), some ⟨V.sl 3 0 1, [(3, Blk.mk [u32 t, u16 id, V.sl 150005 0 k] false 0 (some (79, 3))), (150005, Blk.mk (u8s c) true 0 (some (5, 1))), (2000000000, Blk.mk [u32 t, u16 id, V.vs (u8s c) k] true 0 (some (79, 3)))], []⟩⟩)] [2] [2000000000, 2000000010, 2000000011, 100003, 250005] (by kernel_rfl) ⟨(c1 ), trivial⟩ ?_
  refine AWP.ret ?_
  refine ⟨Or.inr rfl, Eq.trans (b := some ([(100003, Blk.mk [u32 t, u16 id, V.sl 250005 0 k] false 0 (some (79, 3))), (250005, Blk.mk (u8s c) true 0 (some (5, 1))), (2000000000, Blk.mk [u32 t, u16 id, V.vs (u8s c) k] true 0 (some (79, 3))), (2000000010, Blk.mk [V.sl 2000000000 0 1, V.mp 2000000011, vb off] false 3 none), (2000000011, Blk.mk (idsC K) true 0 (some (0, 0)))], V.sl 100003 0 1)) (by kernel_rfl) ?_⟩
  first | rfl | (exfalso; omega)
theorem con_ndo3 (d t id b : Int) (hd : 0 ≤ d ∧ d < 256) (c : List Int) (k : Nat) (on : Bool) (h : d % 8 < 4) : Con Try.prog 34 [] [nilP, .agg true [u8 d, u32 t, u16 id, .vs (u8s c) k, i32 b, vb on]] [] (.tup [i64 3, .vs [] 0]) := by
  refine Con.of (C := ⟨Try.prog, tc, Try.f34.ntmps⟩) [1000000000] tcok Try.func34 rfl rfl (by kernel_rfl) (by kernel_rfl) ?_
  refine AWP.seq ?_
  refine AWP.regionT tcok hmix [] [0, 3, 4, 5] [3, 5] (os := []) (s' := St.mk [(0, tp (V.val (Value.pointer none))), (3, tp (V.ptr 3 0)), (4, tp (i64 0)), (5, tp (V.sl 5 0 0))] [(3, Blk.mk [u8 d, u32 t, u16 id, V.vs (u8s c) k, i32 b, vb on] true 6 none), (5, Blk.mk [] true 0 (some (61, 1)))]) (by kernel_rfl) trivial ?_
  refine AWP.seq ?_
  refine xe1 (os := [(8 : Int) ≠ (0 : Int), u8 (Int.tmod d 8) = u8 (d % 8)]) [(2, ⟨some (u8 (d % 8)), none⟩)] [0, 3, 4, 5, 8] [3, 5] (by kernel_rfl) ⟨(by omega), (tm_ (by omega)), trivial⟩ ?_
  refine AWP.block ?_
  refine xe0 [0, 3, 4, 5, 8, 9] [3, 5] (by kernel_rfl) ?_
  refine AWP.cond (b := d % 8 == 3) (by kernel_rfl) (fun hq3 => ?_) (fun hq3 => ?_)
  · simp only [beq_iff_eq] at hq3
    refine AWP.seq ?_
    refine AWP.keep' [0, 3] [3] (sf := St.mk [(0, tp (V.val (Value.pointer none))), (3, tp (V.ptr 3 0))] [(3, Blk.mk [u8 d, u32 t, u16 id, V.vs (u8s c) k, i32 b, vb on] true 6 none)]) (by kernel_rfl) ?_
    refine AWP.regionT tcok hmix [(3, ⟨some (V.tup []), some ⟨i64 3, [], []⟩⟩)] [0, 3, 4, 5] [3, 5] (os := [Con Try.prog 28 [] [V.val (Value.pointer none), u16 id] [] (i64 3)]) (s' := St.mk [(0, tp (V.val (Value.pointer none))), (3, tp (V.ptr 3 0)), (4, tp (i64 3)), (5, tp (V.sl 5 0 0))] [(3, Blk.mk [u8 d, u32 t, u16 id, V.vs (u8s c) k, i32 b, vb on] true 6 none), (5, Blk.mk [] true 0 (some (61, 1)))]) (by kernel_rfl) ⟨(con_ndel (id)), trivial⟩ ?_
    refine AWP.frz 5 (s' := St.mk [(0, tp (V.val (Value.pointer none))), (3, tp (V.ptr 3 0)), (4, tp (i64 3)), (5, tp (V.vs [] 0))] [(3, Blk.mk [u8 d, u32 t, u16 id, V.vs (u8s c) k, i32 b, vb on] true 6 none)]) (by kernel_rfl) ?_
    refine AWP.ret ?_
    refine ⟨Or.inr rfl, Eq.trans (b := some ([], V.tup [i64 3, V.vs [] 0])) (by kernel_rfl) ?_⟩
    first | rfl | (exfalso; omega)
  simp only [beq_eq_false_iff_ne] at hq3
  refine AWP.seq ?_
  refine AWP.regionT tcok hmix [] [0, 3, 4, 5, 8, 15] [3, 5] (os := []) (s' := St.mk [(0, tp (V.val (Value.pointer none))), (3, tp (V.ptr 3 0)), (4, tp (i64 0)), (5, tp (V.sl 5 0 0)), (8, tp (u8 (d % 8))), (15, tp (vb (d % 8 == 4)))] [(3, Blk.mk [u8 d, u32 t, u16 id, V.vs (u8s c) k, i32 b, vb on] true 6 none), (5, Blk.mk [] true 0 (some (61, 1)))]) (by kernel_rfl) trivial ?_
  refine AWP.cond (b := d % 8 == 4) (by kernel_rfl) (fun hq4 => ?_) (fun hq4 => ?_)
  · simp only [beq_iff_eq] at hq4
    (exfalso; omega)
  simp only [beq_eq_false_iff_ne] at hq4
  refine AWP.seq ?_
  refine AWP.regionT tcok hmix [] [0, 3, 4, 5, 8, 21] [3, 5] (os := []) (s' := St.mk [(0, tp (V.val (Value.pointer none))), (3, tp (V.ptr 3 0)), (4, tp (i64 0)), (5, tp (V.sl 5 0 0)), (8, tp (u8 (d % 8))), (21, tp (vb (d % 8 == 5)))] [(3, Blk.mk [u8 d, u32 t, u16 id, V.vs (u8s c) k, i32 b, vb on] true 6 none), (5, Blk.mk [] true 0 (some (61, 1)))]) (by kernel_rfl) trivial ?_
  refine AWP.cond (b := d % 8 == 5) (by kernel_rfl) (fun hq5 => ?_) (fun hq5 => ?_)
  · simp only [beq_iff_eq] at hq5
    (exfalso; omega)
  simp only [beq_eq_false_iff_ne] at hq5
  refine AWP.seq ?_
  refine AWP.regionT tcok hmix [] [0, 3, 4, 5, 8, 27] [3, 5] (os := []) (s' := St.mk [(0, tp (V.val (Value.pointer none))), (3, tp (V.ptr 3 0)), (4, tp (i64 0)), (5, tp (V.sl 5 0 0)), (8, tp (u8 (d % 8))), (27, tp (vb (d % 8 == 6)))] [(3, Blk.mk [u8 d, u32 t, u16 id, V.vs (u8s c) k, i32 b, vb on] true 6 none), (5, Blk.mk [] true 0 (some (61, 1)))]) (by kernel_rfl) trivial ?_
  refine AWP.cond (b := d % 8 == 6) (by kernel_rfl) (fun hq6 => ?_) (fun hq6 => ?_)
  · simp only [beq_iff_eq] at hq6
    (exfalso; omega)
  simp only [beq_eq_false_iff_ne] at hq6
  refine AWP.seq ?_
  refine AWP.regionT tcok hmix [] [0, 3, 4, 5, 33] [3, 5] (os := []) (s' := St.mk [(0, tp (V.val (Value.pointer none))), (3, tp (V.ptr 3 0)), (4, tp (i64 0)), (5, tp (V.sl 5 0 0)), (33, tp (vb (d % 8 == 7)))] [(3, Blk.mk [u8 d, u32 t, u16 id, V.vs (u8s c) k, i32 b, vb on] true 6 none), (5, Blk.mk [] true 0 (some (61, 1)))]) (by kernel_rfl) trivial ?_
  refine AWP.cond (b := d % 8 == 7) (by kernel_rfl) (fun hq7 => ?_) (fun hq7 => ?_)
  · simp only [beq_iff_eq] at hq7
    (exfalso; omega)
  simp only [beq_eq_false_iff_ne] at hq7
  refine AWP.skip ?_
  refine AWP.seq ?_
  refine AWP.keep' [0, 3] [3] (sf := St.mk [(0, tp (V.val (Value.pointer none))), (3, tp (V.ptr 3 0))] [(3, Blk.mk [u8 d, u32 t, u16 id, V.vs (u8s c) k, i32 b, vb on] true 6 none)]) (by kernel_rfl) ?_
  refine AWP.regionT tcok hmix [(7, ⟨some (V.tup []), some ⟨i64 3, [], []⟩⟩)] [4, 5] [5] (os := [Con Try.prog 24 [] [V.val (Value.pointer none), u32 t, u16 id, V.vs (u8s c) k] [] (i64 3)]) (s' := St.mk [(4, tp (i64 3)), (5, tp (V.sl 5 0 0))] [(5, Blk.mk [] true 0 (some (61, 1)))]) (by kernel_rfl) ⟨(con_nins (t) (id) (c) (k)), trivial⟩ ?_
  refine AWP.frz 5 (s' := St.mk [(4, tp (i64 3)), (5, tp (V.vs [] 0))] []) (by kernel_rfl) ?_
  refine AWP.ret ?_
  refine ⟨Or.inr rfl, Eq.trans (b := some ([], V.tup [i64 3, V.vs [] 0])) (by kernel_rfl) ?_⟩
  first | rfl | (exfalso; omega)
theorem con_ndo0 (d t id b : Int) (hd : 0 ≤ d ∧ d < 256) (c : List Int) (k : Nat) (on : Bool) (h : ¬ d % 8 < 4) : Con Try.prog 34 [] [nilP, .agg true [u8 d, u32 t, u16 id, .vs (u8s c) k, i32 b, vb on]] [] (.tup [i64 0, .vs [] 0]) := by
  refine Con.of (C := ⟨Try.prog, tc, Try.f34.ntmps⟩) [1000000000] tcok Try.func34 rfl rfl (by kernel_rfl) (by kernel_rfl) ?_
  refine AWP.seq ?_
  refine AWP.regionT tcok hmix [] [0, 3, 4, 5] [3, 5] (os := []) (s' := St.mk [(0, tp (V.val (Value.pointer none))), (3, tp (V.ptr 3 0)), (4, tp (i64 0)), (5, tp (V.sl 5 0 0))] [(3, Blk.mk [u8 d, u32 t, u16 id, V.vs (u8s c) k, i32 b, vb on] true 6 none), (5, Blk.mk [] true 0 (some (61, 1)))]) (by kernel_rfl) trivial ?_
  refine AWP.seq ?_
  refine xe1 (os := [(8 : Int) ≠ (0 : Int), u8 (Int.tmod d 8) = u8 (d % 8)]) [(2, ⟨some (u8 (d % 8)), none⟩)] [0, 3, 4, 5, 8] [3, 5] (by kernel_rfl) ⟨(by omega), (tm_ (by omega)), trivial⟩ ?_
  refine AWP.block ?_
  refine xe0 [0, 3, 4, 5, 8, 9] [3, 5] (by kernel_rfl) ?_
  refine AWP.cond (b := d % 8 == 3) (by kernel_rfl) (fun hq8 => ?_) (fun hq8 => ?_)
  · simp only [beq_iff_eq] at hq8
    (exfalso; omega)
  simp only [beq_eq_false_iff_ne] at hq8
  refine AWP.seq ?_
  refine AWP.regionT tcok hmix [] [0, 3, 4, 5, 8, 15] [3, 5] (os := []) (s' := St.mk [(0, tp (V.val (Value.pointer none))), (3, tp (V.ptr 3 0)), (4, tp (i64 0)), (5, tp (V.sl 5 0 0)), (8, tp (u8 (d % 8))), (15, tp (vb (d % 8 == 4)))] [(3, Blk.mk [u8 d, u32 t, u16 id, V.vs (u8s c) k, i32 b, vb on] true 6 none), (5, Blk.mk [] true 0 (some (61, 1)))]) (by kernel_rfl) trivial ?_
  refine AWP.cond (b := d % 8 == 4) (by kernel_rfl) (fun hq9 => ?_) (fun hq9 => ?_)
  · simp only [beq_iff_eq] at hq9
    refine AWP.seq ?_
    refine AWP.keep' [0, 3] [3] (sf := St.mk [(0, tp (V.val (Value.pointer none))), (3, tp (V.ptr 3 0))] [(3, Blk.mk [u8 d, u32 t, u16 id, V.vs (u8s c) k, i32 b, vb on] true 6 none)]) (by kernel_rfl) ?_
    refine AWP.regionT tcok hmix [(3, ⟨some (V.tup []), some ⟨V.vs [] 0, [], []⟩⟩)] [0, 3, 4, 5] [3] (os := [Con Try.prog 25 [] [V.val (Value.pointer none), u32 t] [] (V.vs [] 0)]) (s' := St.mk [(0, tp (V.val (Value.pointer none))), (3, tp (V.ptr 3 0)), (4, tp (i64 0)), (5, tp (V.vs [] 0))] [(3, Blk.mk [u8 d, u32 t, u16 id, V.vs (u8s c) k, i32 b, vb on] true 6 none)]) (by kernel_rfl) ⟨(con_ndue (t)), trivial⟩ ?_
    refine AWP.ret ?_
    refine ⟨Or.inr rfl, Eq.trans (b := some ([], V.tup [i64 0, V.vs [] 0])) (by kernel_rfl) ?_⟩
    first | rfl | (exfalso; omega)
  simp only [beq_eq_false_iff_ne] at hq9
  refine AWP.seq ?_
  refine AWP.regionT tcok hmix [] [0, 3, 4, 5, 8, 21] [3, 5] (os := []) (s' := St.mk [(0, tp (V.val (Value.pointer none))), (3, tp (V.ptr 3 0)), (4, tp (i64 0)), (5, tp (V.sl 5 0 0)), (8, tp (u8 (d % 8))), (21, tp (vb (d % 8 == 5)))] [(3, Blk.mk [u8 d, u32 t, u16 id, V.vs (u8s c) k, i32 b, vb on] true 6 none), (5, Blk.mk [] true 0 (some (61, 1)))]) (by kernel_rfl) trivial ?_
  refine AWP.cond (b := d % 8 == 5) (by kernel_rfl) (fun hq10 => ?_) (fun hq10 => ?_)
  · simp only [beq_iff_eq] at hq10
    refine AWP.seq ?_
    refine AWP.keep' [0, 3] [3] (sf := St.mk [(0, tp (V.val (Value.pointer none))), (3, tp (V.ptr 3 0))] [(3, Blk.mk [u8 d, u32 t, u16 id, V.vs (u8s c) k, i32 b, vb on] true 6 none)]) (by kernel_rfl) ?_
    refine AWP.regionT tcok hmix [(3, ⟨some (V.tup []), some ⟨i64 0, [], []⟩⟩)] [0, 3, 4, 5] [3, 5] (os := [Con Try.prog 31 [] [V.val (Value.pointer none), i32 b] [] (i64 0)]) (s' := St.mk [(0, tp (V.val (Value.pointer none))), (3, tp (V.ptr 3 0)), (4, tp (i64 0)), (5, tp (V.sl 5 0 0))] [(3, Blk.mk [u8 d, u32 t, u16 id, V.vs (u8s c) k, i32 b, vb on] true 6 none), (5, Blk.mk [] true 0 (some (61, 1)))]) (by kernel_rfl) ⟨(con_nshift (b)), trivial⟩ ?_
    refine AWP.frz 5 (s' := St.mk [(0, tp (V.val (Value.pointer none))), (3, tp (V.ptr 3 0)), (4, tp (i64 0)), (5, tp (V.vs [] 0))] [(3, Blk.mk [u8 d, u32 t, u16 id, V.vs (u8s c) k, i32 b, vb on] true 6 none)]) (by kernel_rfl) ?_
    refine AWP.ret ?_
    refine ⟨Or.inr rfl, Eq.trans (b := some ([], V.tup [i64 0, V.vs [] 0])) (by kernel_rfl) ?_⟩
    first | rfl | (exfalso; omega)
  simp only [beq_eq_false_iff_ne] at hq10
  refine AWP.seq ?_
  refine AWP.regionT tcok hmix [] [0, 3, 4, 5, 8, 27] [3, 5] (os := []) (s' := St.mk [(0, tp (V.val (Value.pointer none))), (3, tp (V.ptr 3 0)), (4, tp (i64 0)), (5, tp (V.sl 5 0 0)), (8, tp (u8 (d % 8))), (27, tp (vb (d % 8 == 6)))] [(3, Blk.mk [u8 d, u32 t, u16 id, V.vs (u8s c) k, i32 b, vb on] true 6 none), (5, Blk.mk [] true 0 (some (61, 1)))]) (by kernel_rfl) trivial ?_
  refine AWP.cond (b := d % 8 == 6) (by kernel_rfl) (fun hq11 => ?_) (fun hq11 => ?_)
  · simp only [beq_iff_eq] at hq11
    refine AWP.seq ?_
    refine AWP.regionT tcok hmix [(3, ⟨some (V.tup []), some ⟨V.tup [], [], []⟩⟩)] [0, 3, 4, 5] [3, 5] (os := [Con Try.prog 55 [] [V.val (Value.pointer none), vb on] [] (V.tup [])]) (s' := St.mk [(0, tp (V.val (Value.pointer none))), (3, tp (V.ptr 3 0)), (4, tp (i64 0)), (5, tp (V.sl 5 0 0))] [(3, Blk.mk [u8 d, u32 t, u16 id, V.vs (u8s c) k, i32 b, vb on] true 6 none), (5, Blk.mk [] true 0 (some (61, 1)))]) (by kernel_rfl) ⟨(con_nen (on)), trivial⟩ ?_
    refine AWP.seq ?_
    refine AWP.keep' [0, 3] [3] (sf := St.mk [(0, tp (V.val (Value.pointer none))), (3, tp (V.ptr 3 0))] [(3, Blk.mk [u8 d, u32 t, u16 id, V.vs (u8s c) k, i32 b, vb on] true 6 none)]) (by kernel_rfl) ?_
    refine xg0 [0, 3, 4, 5] [3, 5] (by kernel_rfl) ?_
    refine AWP.frz 5 (s' := St.mk [(0, tp (V.val (Value.pointer none))), (3, tp (V.ptr 3 0)), (4, tp (i64 0)), (5, tp (V.vs [] 0))] [(3, Blk.mk [u8 d, u32 t, u16 id, V.vs (u8s c) k, i32 b, vb on] true 6 none)]) (by kernel_rfl) ?_
    refine AWP.ret ?_
    refine ⟨Or.inr rfl, Eq.trans (b := some ([], V.tup [i64 0, V.vs [] 0])) (by kernel_rfl) ?_⟩
    first | rfl | (exfalso; omega)
  simp only [beq_eq_false_iff_ne] at hq11
  refine AWP.seq ?_
  refine AWP.regionT tcok hmix [] [0, 3, 4, 5, 33] [3, 5] (os := []) (s' := St.mk [(0, tp (V.val (Value.pointer none))), (3, tp (V.ptr 3 0)), (4, tp (i64 0)), (5, tp (V.sl 5 0 0)), (33, tp (vb (d % 8 == 7)))] [(3, Blk.mk [u8 d, u32 t, u16 id, V.vs (u8s c) k, i32 b, vb on] true 6 none), (5, Blk.mk [] true 0 (some (61, 1)))]) (by kernel_rfl) trivial ?_
  refine AWP.cond (b := d % 8 == 7) (by kernel_rfl) (fun hq12 => ?_) (fun hq12 => ?_)
  · simp only [beq_iff_eq] at hq12
    refine AWP.seq ?_
    refine AWP.keep' [0, 3] [3] (sf := St.mk [(0, tp (V.val (Value.pointer none))), (3, tp (V.ptr 3 0))] [(3, Blk.mk [u8 d, u32 t, u16 id, V.vs (u8s c) k, i32 b, vb on] true 6 none)]) (by kernel_rfl) ?_
    refine AWP.regionT tcok hmix [(1, ⟨some (V.tup []), some ⟨i64 0, [], []⟩⟩)] [0, 3, 4, 5] [3, 5] (os := [Con Try.prog 29 [] [V.val (Value.pointer none)] [] (i64 0)]) (s' := St.mk [(0, tp (V.val (Value.pointer none))), (3, tp (V.ptr 3 0)), (4, tp (i64 0)), (5, tp (V.sl 5 0 0))] [(3, Blk.mk [u8 d, u32 t, u16 id, V.vs (u8s c) k, i32 b, vb on] true 6 none), (5, Blk.mk [] true 0 (some (61, 1)))]) (by kernel_rfl) ⟨(con_nclr ), trivial⟩ ?_
    refine AWP.frz 5 (s' := St.mk [(0, tp (V.val (Value.pointer none))), (3, tp (V.ptr 3 0)), (4, tp (i64 0)), (5, tp (V.vs [] 0))] [(3, Blk.mk [u8 d, u32 t, u16 id, V.vs (u8s c) k, i32 b, vb on] true 6 none)]) (by kernel_rfl) ?_
    refine AWP.ret ?_
    refine ⟨Or.inr rfl, Eq.trans (b := some ([], V.tup [i64 0, V.vs [] 0])) (by kernel_rfl) ?_⟩
    first | rfl | (exfalso; omega)
  simp only [beq_eq_false_iff_ne] at hq12
  (exfalso; omega)
end Go.Proofs.Ytlfjnkobnkfioaa
