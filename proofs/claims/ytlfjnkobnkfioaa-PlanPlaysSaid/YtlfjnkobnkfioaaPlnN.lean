/- A plan: all items, those of some times. -/
import Derived.Test.YtlfjnkobnkfioaaRg
import Derived.Test.YtlfjnkobnkfioaaPlnM
namespace Go.Proofs.Ytlfjnkobnkfioaa
open Go.Ab
set_option maxRecDepth 100000
set_option maxHeartbeats 8000000
set_option linter.unusedSimpArgs false
set_option linter.unusedVariables false
def TcOk (L : List It) : Prop := ∀ a ∈ L, a.c.length = a.k ∧ a.k ≤ 1000
theorem con_pall (L : List It) (n : Nat) (hn : L.length = n) (hm : n ≤ 1000) (hL : TcOk L) (K : List Int) (off : Bool) :
    Con Try.prog 30 [(2000000000, ⟨rowsI L, true, 0, some (79, 3)⟩), (2000000010, ⟨[.sl 2000000000 0 n, .mp 2000000011, vb off], false, 3, none⟩), (2000000011, ⟨idsC K, true, 0, some (0, 0)⟩)] [.ptr 2000000010 0]
      [(100003, ⟨rowsI L, true, 0, some (79, 3)⟩), (2000000000, ⟨rowsI L, true, 0, some (79, 3)⟩), (2000000010, ⟨[.sl 2000000000 0 n, .mp 2000000011, vb off], false, 3, none⟩), (2000000011, ⟨idsC K, true, 0, some (0, 0)⟩)] (.sl 100003 0 n) := by
  have c := con_copied L n hn hm hL
  have hrl := rowsI_len L
  refine Con.of (C := ⟨Try.prog, tc, Try.f30.ntmps⟩) [100003, 2000000000, 2000000010, 2000000011] tcok Try.func30 rfl rfl (by kernel_rfl) (by kernel_rfl) ?_
  refine AWP.seq ?_
  refine AWP.regionT tcok hmix [] [0, 2] [2, 2000000000, 2000000010, 2000000011] (os := []) (s' := St.mk [(0, tp (V.ptr 2000000010 0)), (2, tp (V.sl 2 0 0))] [(2, Blk.mk [] true 0 (some (79, 3))), (2000000000, Blk.mk (rowsI L) true 0 (some (79, 3))), (2000000010, Blk.mk [V.sl 2000000000 0 n, V.mp 2000000011, vb off] false 3 none), (2000000011, Blk.mk (idsC K) true 0 (some (0, 0)))]) (by kernel_rfl) trivial ?_
  refine AWP.seq ?_
  refine xe0 [0, 2, 4] [2000000000, 2000000010, 2000000011, 2] (by kernel_rfl) ?_
  refine AWP.condF (by kernel_rfl) ?_
  refine AWP.skip ?_
  refine AWP.seq ?_
  refine AWP.keep' [0] [2000000000, 2000000010, 2000000011] (sf := St.mk [(0, tp (V.ptr 2000000010 0))] [(2000000000, Blk.mk (rowsI L) true 0 (some (79, 3))), (2000000010, Blk.mk [V.sl 2000000000 0 n, V.mp 2000000011, vb off] false 3 none), (2000000011, Blk.mk (idsC K) true 0 (some (0, 0)))]) (by kernel_rfl) ?_
  refine xg1 (os := [Con Try.prog 52 [(2000000000, Blk.mk (rowsI L) true 0 (some (79, 3)))] [V.sl 2000000000 0 n] [(3, Blk.mk (rowsI L) true 0 (some (79, 3))), (2000000000, Blk.mk (rowsI L) true 0 (some (79, 3)))] (V.sl 3 0 n)]) [(4, ⟨some (V.tup [V.sl 2000000000 2000000000 0]), some ⟨V.sl 3 0 n, [(3, Blk.mk (rowsI L) true 0 (some (79, 3))), (2000000000, Blk.mk (rowsI L) true 0 (some (79, 3)))], []⟩⟩)] [2] [2000000000, 2000000010, 2000000011, 100003] (by kernel_rfl) ⟨(c ), trivial⟩ ?_
  refine AWP.ret ?_
  refine ⟨Or.inr rfl, Eq.trans (b := some ([(100003, Blk.mk (rowsI L) true 0 (some (79, 3))), (2000000000, Blk.mk (rowsI L) true 0 (some (79, 3))), (2000000010, Blk.mk [V.sl 2000000000 0 n, V.mp 2000000011, vb off] false 3 none), (2000000011, Blk.mk (idsC K) true 0 (some (0, 0)))], V.sl 100003 0 n)) (by kernel_rfl) ?_⟩
  first | rfl | (exfalso; omega)
theorem con_pbtw (L : List It) (n : Nat) (hn : L.length = n) (hm : n ≤ 1000) (hL : TcOk L) (K : List Int) (off : Bool) (fr to_ : Int) (L' : List It) (hL' : keepP (pBt fr to_) L = L') (n' : Nat) (hn' : L'.length = n') :
    Con Try.prog 32 [(2000000000, ⟨rowsI L, true, 0, some (79, 3)⟩), (2000000010, ⟨[.sl 2000000000 0 n, .mp 2000000011, vb off], false, 3, none⟩), (2000000011, ⟨idsC K, true, 0, some (0, 0)⟩)] [.ptr 2000000010 0, u32 fr, u32 to_]
      [(190003, ⟨rowsI L', true, 0, some (79, 3)⟩), (2000000000, ⟨rowsI L, true, 0, some (79, 3)⟩), (2000000010, ⟨[.sl 2000000000 0 n, .mp 2000000011, vb off], false, 3, none⟩), (2000000011, ⟨idsC K, true, 0, some (0, 0)⟩)] (.sl 190003 0 n') := by
  have c := con_pall L n hn hm hL K off
  have c2 := con_delB fr to_ L n hn hm L' hL' n' hn'
  have hrl := rowsI_len L
  refine Con.of (C := ⟨Try.prog, tc, Try.f32.ntmps⟩) [190003, 2000000000, 2000000010, 2000000011] tcok Try.func32 rfl rfl (by kernel_rfl) (by kernel_rfl) ?_
  refine AWP.seq ?_
  refine AWP.regionT tcok hmix [] [0, 4, 5, 6] [2000000000, 2000000010, 2000000011, 4, 5, 6] (os := []) (s' := St.mk [(0, tp (V.ptr 2000000010 0)), (4, tp (V.ptr 4 0)), (5, tp (V.ptr 5 0)), (6, tp (V.sl 6 0 0))] [(4, Blk.mk [u32 fr] true 1 none), (5, Blk.mk [u32 to_] true 1 none), (6, Blk.mk [] true 0 (some (79, 3))), (2000000000, Blk.mk (rowsI L) true 0 (some (79, 3))), (2000000010, Blk.mk [V.sl 2000000000 0 n, V.mp 2000000011, vb off] false 3 none), (2000000011, Blk.mk (idsC K) true 0 (some (0, 0)))]) (by kernel_rfl) trivial ?_
  refine AWP.seq ?_
  refine AWP.keep' [0, 4, 5] [2000000000, 2000000010, 2000000011, 4, 5] (sf := St.mk [(0, tp (V.ptr 2000000010 0)), (4, tp (V.ptr 4 0)), (5, tp (V.ptr 5 0))] [(4, Blk.mk [u32 fr] true 1 none), (5, Blk.mk [u32 to_] true 1 none), (2000000000, Blk.mk (rowsI L) true 0 (some (79, 3))), (2000000010, Blk.mk [V.sl 2000000000 0 n, V.mp 2000000011, vb off] false 3 none), (2000000011, Blk.mk (idsC K) true 0 (some (0, 0)))]) (by kernel_rfl) ?_
  refine xg1 (os := [Con Try.prog 30 [(2000000000, Blk.mk (rowsI L) true 0 (some (79, 3))), (2000000010, Blk.mk [V.sl 2000000000 0 n, V.mp 2000000011, vb off] false 3 none), (2000000011, Blk.mk (idsC K) true 0 (some (0, 0)))] [V.ptr 2000000010 0] [(100003, Blk.mk (rowsI L) true 0 (some (79, 3))), (2000000000, Blk.mk (rowsI L) true 0 (some (79, 3))), (2000000010, Blk.mk [V.sl 2000000000 0 n, V.mp 2000000011, vb off] false 3 none), (2000000011, Blk.mk (idsC K) true 0 (some (0, 0)))] (V.sl 100003 0 n), Con Try.prog 50 [(1000000000, Blk.mk (rowsI L) true 0 (some (79, 3))), (2000000001, Blk.mk [u32 fr] true 1 none), (2000000002, Blk.mk [u32 to_] true 1 none)] [V.sl 1000000000 0 n, V.clo (Fn.func 53) [] [V.ptr 2000000001 0, V.ptr 2000000002 0]] [(1000000000, Blk.mk (rowsI L') true 0 (some (79, 3))), (2000000001, Blk.mk [u32 fr] true 1 none), (2000000002, Blk.mk [u32 to_] true 1 none)] (V.sl 1000000000 0 n')]) [(1, ⟨some (V.tup [V.sl 2000000000 2000000000 0, V.sl 2000000010 2000000010 0, V.sl 2000000011 2000000011 0]), some ⟨V.sl 100003 0 n, [(100003, Blk.mk (rowsI L) true 0 (some (79, 3))), (2000000000, Blk.mk (rowsI L) true 0 (some (79, 3))), (2000000010, Blk.mk [V.sl 2000000000 0 n, V.mp 2000000011, vb off] false 3 none), (2000000011, Blk.mk (idsC K) true 0 (some (0, 0)))], []⟩⟩), (3, ⟨some (V.tup [V.sl 1000000000 190003 0, V.sl 2000000001 4 0, V.sl 2000000002 5 0]), some ⟨V.sl 1000000000 0 n', [(1000000000, Blk.mk (rowsI L') true 0 (some (79, 3))), (2000000001, Blk.mk [u32 fr] true 1 none), (2000000002, Blk.mk [u32 to_] true 1 none)], []⟩⟩)] [6] [2000000000, 2000000010, 2000000011, 190003] (by kernel_rfl) ⟨(c ), (c2 ), trivial⟩ ?_
  refine AWP.ret ?_
  refine ⟨Or.inr rfl, Eq.trans (b := some ([(190003, Blk.mk (rowsI L') true 0 (some (79, 3))), (2000000000, Blk.mk (rowsI L) true 0 (some (79, 3))), (2000000010, Blk.mk [V.sl 2000000000 0 n, V.mp 2000000011, vb off] false 3 none), (2000000011, Blk.mk (idsC K) true 0 (some (0, 0)))], V.sl 190003 0 n')) (by kernel_rfl) ?_⟩
  first | rfl | (exfalso; omega)
end Go.Proofs.Ytlfjnkobnkfioaa
