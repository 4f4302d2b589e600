/- A plan: shifted; the first one's time; how many; on or off. -/
import Derived.Test.YtlfjnkobnkfioaaRg
import Derived.Test.YtlfjnkobnkfioaaPlnK
namespace Go.Proofs.Ytlfjnkobnkfioaa
open Go.Ab
set_option maxRecDepth 100000
set_option maxHeartbeats 8000000
set_option linter.unusedSimpArgs false
set_option linter.unusedVariables false
theorem con_plen (L : List It) (n : Nat) (K : List Int) (off : Bool) :
    Con Try.prog 26 [(2000000000, ⟨rowsI L, true, 0, some (79, 3)⟩), (2000000010, ⟨[.sl 2000000000 0 n, .mp 2000000011, vb off], false, 3, none⟩), (2000000011, ⟨idsC K, true, 0, some (0, 0)⟩)] [.ptr 2000000010 0]
      [(2000000000, ⟨rowsI L, true, 0, some (79, 3)⟩), (2000000010, ⟨[.sl 2000000000 0 n, .mp 2000000011, vb off], false, 3, none⟩), (2000000011, ⟨idsC K, true, 0, some (0, 0)⟩)] (i64 (n : Int)) := by
  refine Con.of (C := ⟨Try.prog, tc, Try.f26.ntmps⟩) [2000000000, 2000000010, 2000000011] tcok Try.func26 rfl rfl (by kernel_rfl) (by kernel_rfl) ?_
  refine AWP.seq ?_
  refine AWP.regionT tcok hmix [] [0, 2] [2000000000, 2000000010, 2000000011] (os := []) (s' := St.mk [(0, tp (V.ptr 2000000010 0)), (2, tp (i64 0))] [(2000000000, Blk.mk (rowsI L) true 0 (some (79, 3))), (2000000010, Blk.mk [V.sl 2000000000 0 n, V.mp 2000000011, vb off] false 3 none), (2000000011, Blk.mk (idsC K) true 0 (some (0, 0)))]) (by kernel_rfl) trivial ?_
  refine AWP.seq ?_
  refine xe0 [0, 2, 4] [2000000000, 2000000010, 2000000011] (by kernel_rfl) ?_
  refine AWP.condF (by kernel_rfl) ?_
  refine AWP.skip ?_
  refine xe0 [2] [2000000000, 2000000010, 2000000011] (by kernel_rfl) ?_
  refine AWP.ret ?_
  refine ⟨Or.inr rfl, Eq.trans (b := some ([(2000000000, Blk.mk (rowsI L) true 0 (some (79, 3))), (2000000010, Blk.mk [V.sl 2000000000 0 n, V.mp 2000000011, vb off] false 3 none), (2000000011, Blk.mk (idsC K) true 0 (some (0, 0)))], i64 (↑n : Int))) (by kernel_rfl) ?_⟩
  first | rfl | (exfalso; omega)
theorem con_pon (L : List It) (n : Nat) (K : List Int) (off : Bool) :
    Con Try.prog 38 [(2000000000, ⟨rowsI L, true, 0, some (79, 3)⟩), (2000000010, ⟨[.sl 2000000000 0 n, .mp 2000000011, vb off], false, 3, none⟩), (2000000011, ⟨idsC K, true, 0, some (0, 0)⟩)] [.ptr 2000000010 0]
      [(2000000000, ⟨rowsI L, true, 0, some (79, 3)⟩), (2000000010, ⟨[.sl 2000000000 0 n, .mp 2000000011, vb off], false, 3, none⟩), (2000000011, ⟨idsC K, true, 0, some (0, 0)⟩)] (vb (!off)) := by
  refine Con.of (C := ⟨Try.prog, tc, Try.f38.ntmps⟩) [2000000000, 2000000010, 2000000011] tcok Try.func38 rfl rfl (by kernel_rfl) (by kernel_rfl) ?_
  refine AWP.seq ?_
  refine AWP.regionT tcok hmix [] [0, 2] [2000000000, 2000000010, 2000000011] (os := []) (s' := St.mk [(0, tp (V.ptr 2000000010 0)), (2, tp (vb false))] [(2000000000, Blk.mk (rowsI L) true 0 (some (79, 3))), (2000000010, Blk.mk [V.sl 2000000000 0 n, V.mp 2000000011, vb off] false 3 none), (2000000011, Blk.mk (idsC K) true 0 (some (0, 0)))]) (by kernel_rfl) trivial ?_
  refine xe0 [2] [2000000000, 2000000010, 2000000011] (by kernel_rfl) ?_
  refine AWP.ret ?_
  refine ⟨Or.inr rfl, Eq.trans (b := some ([(2000000000, Blk.mk (rowsI L) true 0 (some (79, 3))), (2000000010, Blk.mk [V.sl 2000000000 0 n, V.mp 2000000011, vb off] false 3 none), (2000000011, Blk.mk (idsC K) true 0 (some (0, 0)))], vb (true && !off))) (by kernel_rfl) ?_⟩
  first | rfl | (exfalso; omega)
theorem con_pen (L : List It) (n : Nat) (K : List Int) (off on : Bool) (off' : Bool) (ho : (!on) = off') :
    Con Try.prog 55 [(2000000000, ⟨rowsI L, true, 0, some (79, 3)⟩), (2000000010, ⟨[.sl 2000000000 0 n, .mp 2000000011, vb off], false, 3, none⟩), (2000000011, ⟨idsC K, true, 0, some (0, 0)⟩)] [.ptr 2000000010 0, vb on]
      [(2000000000, ⟨rowsI L, true, 0, some (79, 3)⟩), (2000000010, ⟨[.sl 2000000000 0 n, .mp 2000000011, vb off'], false, 3, none⟩), (2000000011, ⟨idsC K, true, 0, some (0, 0)⟩)] (.tup []) := by
  subst ho
  refine Con.of (C := ⟨Try.prog, tc, Try.f55.ntmps⟩) [2000000000, 2000000010, 2000000011] tcok Try.func55 rfl rfl (by kernel_rfl) (by kernel_rfl) ?_
  refine AWP.seq ?_
  refine AWP.regionT tcok hmix [] [0, 1, 5] [2000000000, 2000000010, 2000000011] (os := []) (s' := St.mk [(0, tp (V.ptr 2000000010 0)), (1, tp (vb on)), (5, tp (vb true))] [(2000000000, Blk.mk (rowsI L) true 0 (some (79, 3))), (2000000010, Blk.mk [V.sl 2000000000 0 n, V.mp 2000000011, vb off] false 3 none), (2000000011, Blk.mk (idsC K) true 0 (some (0, 0)))]) (by kernel_rfl) trivial ?_
  refine AWP.condT (by kernel_rfl) ?_
  refine AWP.region tcok hmix [] (os := []) (sf := St.mk [(0, tp (V.ptr 2000000010 0)), (1, tp (vb on)), (5, tp (vb true)), (6, tp (V.ptr 2000000010 0)), (7, tp (vb on)), (8, tp (vb !on)), (9, tp (V.ptr 2000000010 0)), (10, tp (V.ptr 2000000010 2))] [(2000000000, Blk.mk (rowsI L) true 0 (some (79, 3))), (2000000010, Blk.mk [V.sl 2000000000 0 n, V.mp 2000000011, vb !on] false 3 none), (2000000011, Blk.mk (idsC K) true 0 (some (0, 0)))]) (by kernel_rfl) trivial ?_
  refine ⟨Or.inl rfl, Eq.trans (b := some ([(2000000000, Blk.mk (rowsI L) true 0 (some (79, 3))), (2000000010, Blk.mk [V.sl 2000000000 0 n, V.mp 2000000011, vb !on] false 3 none), (2000000011, Blk.mk (idsC K) true 0 (some (0, 0)))], V.tup [])) (by kernel_rfl) ?_⟩
  first | rfl | (exfalso; omega)
theorem con_pnext0 (L : List It) (K : List Int) (off : Bool) :
    Con Try.prog 35 [(2000000000, ⟨rowsI L, true, 0, some (79, 3)⟩), (2000000010, ⟨[.sl 2000000000 0 0, .mp 2000000011, vb off], false, 3, none⟩), (2000000011, ⟨idsC K, true, 0, some (0, 0)⟩)] [.ptr 2000000010 0]
      [(2000000000, ⟨rowsI L, true, 0, some (79, 3)⟩), (2000000010, ⟨[.sl 2000000000 0 0, .mp 2000000011, vb off], false, 3, none⟩), (2000000011, ⟨idsC K, true, 0, some (0, 0)⟩)] (.tup [u32 0, vb false]) := by
  have c := con_plen L 0 K off
  refine Con.of (C := ⟨Try.prog, tc, Try.f35.ntmps⟩) [2000000000, 2000000010, 2000000011] tcok Try.func35 rfl rfl (by kernel_rfl) (by kernel_rfl) ?_
  refine AWP.seq ?_
  refine AWP.regionT tcok hmix [] [0, 2, 3] [2000000000, 2000000010, 2000000011] (os := []) (s' := St.mk [(0, tp (V.ptr 2000000010 0)), (2, tp (u32 0)), (3, tp (vb false))] [(2000000000, Blk.mk (rowsI L) true 0 (some (79, 3))), (2000000010, Blk.mk [V.sl 2000000000 0 0, V.mp 2000000011, vb off] false 3 none), (2000000011, Blk.mk (idsC K) true 0 (some (0, 0)))]) (by kernel_rfl) trivial ?_
  refine AWP.seq ?_
  refine xe1 (os := [Con Try.prog 26 [(2000000000, Blk.mk (rowsI L) true 0 (some (79, 3))), (2000000010, Blk.mk [V.sl 2000000000 0 0, V.mp 2000000011, vb off] false 3 none), (2000000011, Blk.mk (idsC K) true 0 (some (0, 0)))] [V.ptr 2000000010 0] [(2000000000, Blk.mk (rowsI L) true 0 (some (79, 3))), (2000000010, Blk.mk [V.sl 2000000000 0 0, V.mp 2000000011, vb off] false 3 none), (2000000011, Blk.mk (idsC K) true 0 (some (0, 0)))] (i64 0)]) [(1, ⟨some (V.tup [V.sl 2000000000 2000000000 0, V.sl 2000000010 2000000010 0, V.sl 2000000011 2000000011 0]), some ⟨i64 (↑0 : Int), [(2000000000, Blk.mk (rowsI L) true 0 (some (79, 3))), (2000000010, Blk.mk [V.sl 2000000000 0 0, V.mp 2000000011, vb off] false 3 none), (2000000011, Blk.mk (idsC K) true 0 (some (0, 0)))], []⟩⟩)] [0, 2, 3, 6] [2000000000, 2000000010, 2000000011] (by kernel_rfl) ⟨(c ), trivial⟩ ?_
  refine AWP.condT (by kernel_rfl) ?_
  refine xe0 [0, 2, 3] [2000000000, 2000000010, 2000000011] (by kernel_rfl) ?_
  refine AWP.ret ?_
  refine ⟨Or.inr rfl, Eq.trans (b := some ([(2000000000, Blk.mk (rowsI L) true 0 (some (79, 3))), (2000000010, Blk.mk [V.sl 2000000000 0 0, V.mp 2000000011, vb off] false 3 none), (2000000011, Blk.mk (idsC K) true 0 (some (0, 0)))], V.tup [u32 0, vb false])) (by kernel_rfl) ?_⟩
  first | rfl | (exfalso; omega)
theorem con_pnext (a : It) (L : List It) (h0 : L[0]? = some a) (n : Nat) (hn : L.length = n) (hm : n ≤ 1000) (K : List Int) (off : Bool) :
    Con Try.prog 35 [(2000000000, ⟨rowsI L, true, 0, some (79, 3)⟩), (2000000010, ⟨[.sl 2000000000 0 n, .mp 2000000011, vb off], false, 3, none⟩), (2000000011, ⟨idsC K, true, 0, some (0, 0)⟩)] [.ptr 2000000010 0]
      [(2000000000, ⟨rowsI L, true, 0, some (79, 3)⟩), (2000000010, ⟨[.sl 2000000000 0 n, .mp 2000000011, vb off], false, 3, none⟩), (2000000011, ⟨idsC K, true, 0, some (0, 0)⟩)] (.tup [u32 a.t, vb true]) := by
  have c := con_plen L n K off
  have wg : gI (rowsI L) 0 = u32 a.t := rowsI_t (R := L) (i := 0) h0
  have hrl := rowsI_len L
  have hpos : 0 < n := by rw [← hn]; exact (List.getElem?_eq_some_iff.1 h0).1
  refine Con.of (C := ⟨Try.prog, tc, Try.f35.ntmps⟩) [2000000000, 2000000010, 2000000011] tcok Try.func35 rfl rfl (by kernel_rfl) (by kernel_rfl) ?_
  refine AWP.seq ?_
  refine AWP.regionT tcok hmix [] [0, 2, 3] [2000000000, 2000000010, 2000000011] (os := []) (s' := St.mk [(0, tp (V.ptr 2000000010 0)), (2, tp (u32 0)), (3, tp (vb false))] [(2000000000, Blk.mk (rowsI L) true 0 (some (79, 3))), (2000000010, Blk.mk [V.sl 2000000000 0 n, V.mp 2000000011, vb off] false 3 none), (2000000011, Blk.mk (idsC K) true 0 (some (0, 0)))]) (by kernel_rfl) trivial ?_
  refine AWP.seq ?_
  refine xe1 (os := [Con Try.prog 26 [(2000000000, Blk.mk (rowsI L) true 0 (some (79, 3))), (2000000010, Blk.mk [V.sl 2000000000 0 n, V.mp 2000000011, vb off] false 3 none), (2000000011, Blk.mk (idsC K) true 0 (some (0, 0)))] [V.ptr 2000000010 0] [(2000000000, Blk.mk (rowsI L) true 0 (some (79, 3))), (2000000010, Blk.mk [V.sl 2000000000 0 n, V.mp 2000000011, vb off] false 3 none), (2000000011, Blk.mk (idsC K) true 0 (some (0, 0)))] (i64 (↑n : Int))]) [(1, ⟨some (V.tup [V.sl 2000000000 2000000000 0, V.sl 2000000010 2000000010 0, V.sl 2000000011 2000000011 0]), some ⟨i64 (↑n : Int), [(2000000000, Blk.mk (rowsI L) true 0 (some (79, 3))), (2000000010, Blk.mk [V.sl 2000000000 0 n, V.mp 2000000011, vb off] false 3 none), (2000000011, Blk.mk (idsC K) true 0 (some (0, 0)))], []⟩⟩)] [0, 2, 3, 6] [2000000000, 2000000010, 2000000011] (by kernel_rfl) ⟨(c ), trivial⟩ ?_
  refine AWP.cond (b := (↑n : Int) == 0) (by kernel_rfl) (fun hq3 => ?_) (fun hq3 => ?_)
  · simp only [beq_iff_eq] at hq3
    (exfalso; omega)
  simp only [beq_eq_false_iff_ne] at hq3
  refine AWP.skip ?_
  refine AWP.seq ?_
  refine AWP.regionT tcok hmix [(4, ⟨some (V.ptr 2000000000 0), none⟩), (6, ⟨some (u32 a.t), none⟩)] [2, 3] [2000000000, 2000000010, 2000000011] (os := [(0 : Int) ≤ (0 : Int) ∧ (0 : Int) < (↑n : Int), V.ptr 2000000000 0 = V.ptr 2000000000 0, (1 : Nat) ≤ List.length (rowsI L), part_ true (isRow (TypeDesc.int IntKind.u32)) (rowsI L) 0 1 = u32 a.t]) (s' := St.mk [(2, tp (u32 a.t)), (3, tp (vb true))] [(2000000000, Blk.mk (rowsI L) true 0 (some (79, 3))), (2000000010, Blk.mk [V.sl 2000000000 0 n, V.mp 2000000011, vb off] false 3 none), (2000000011, Blk.mk (idsC K) true 0 (some (0, 0)))]) (by kernel_rfl) ⟨(by omega), rfl, (by first | omega | (simp [len_u8s]; done) | (simp [len_u8s]; omega)), (wg ), trivial⟩ ?_
  refine AWP.ret ?_
  refine ⟨Or.inr rfl, Eq.trans (b := some ([(2000000000, Blk.mk (rowsI L) true 0 (some (79, 3))), (2000000010, Blk.mk [V.sl 2000000000 0 n, V.mp 2000000011, vb off] false 3 none), (2000000011, Blk.mk (idsC K) true 0 (some (0, 0)))], V.tup [u32 a.t, vb true])) (by kernel_rfl) ?_⟩
  first | rfl | (exfalso; omega)
def shT (b t : Int) : Int := min (max (t + b) 0) 4294967295
def shI (b : Int) (a : It) : It := ⟨shT b a.t, a.id, a.c, a.k⟩
theorem rowsI_putT {S : List It} {i : Nat} {a : It} (h : S[i]? = some a) (e : Int) (one : Bool) : putC one (rowsI S) (0 + i * 3 + 0) [u32 e] = rowsI (S.set i ⟨e, a.id, a.c, a.k⟩) := by
  have hi := (List.getElem?_eq_some_iff.1 h).1
  have hd := rowsI_dr h
  rw [putC_eq (by rw [rowsI_len]; show 0 + i * 3 + 0 + 1 ≤ _; omega), Nat.zero_add, Nat.add_zero]
  unfold putAt
  rw [rowsI_take, show i * 3 + ([u32 e] : List V).length = i * 3 + 1 from rfl, ← List.drop_drop, hd, List.set_eq_take_append_cons_drop, if_pos hi, rowsI_app]
  simp [rowsI, It.row]
theorem sh_next {L S : List It} {i : Nat} {a : It} {b : Int} (h : L[i]? = some a) (hS : S = (L.take i).map (shI b) ++ L.drop i) : S.set i (shI b a) = (L.take (i + 1)).map (shI b) ++ L.drop (i + 1) := by
  have hi := (List.getElem?_eq_some_iff.1 h).1
  have hl : ((L.take i).map (shI b)).length = i := by simp; omega
  rw [hS, List.set_append_right _ _ (by omega), hl, Nat.sub_self, List.take_add_one, h, List.map_append, List.append_assoc, List.drop_eq_getElem_cons hi]
  rfl
theorem shT_eq {b t : Int} (hb : -2147483648 ≤ b ∧ b ≤ 2147483647) (ht : 0 ≤ t ∧ t ≤ 4294967295) : imin (imax (t + b) 0) 4294967295 % 4294967296 = shT b t := by
  unfold imin imax shT
  simp only [Int.min_def, Int.max_def]
  split <;> split <;> (try split) <;> (try split) <;> omega
theorem con_pshift (L : List It) (n : Nat) (hn : L.length = n) (hm : n ≤ 1000) (hL : ∀ a ∈ L, 0 ≤ a.t ∧ a.t ≤ 4294967295) (K : List Int) (off : Bool) (b : Int) (hb : -2147483648 ≤ b ∧ b ≤ 2147483647) (L' : List It) (hL' : L.map (shI b) = L') :
    Con Try.prog 31 [(2000000000, ⟨rowsI L, true, 0, some (79, 3)⟩), (2000000010, ⟨[.sl 2000000000 0 n, .mp 2000000011, vb off], false, 3, none⟩), (2000000011, ⟨idsC K, true, 0, some (0, 0)⟩)] [.ptr 2000000010 0, i32 b]
      [(2000000000, ⟨rowsI L', true, 0, some (79, 3)⟩), (2000000010, ⟨[.sl 2000000000 0 n, .mp 2000000011, vb off], false, 3, none⟩), (2000000011, ⟨idsC K, true, 0, some (0, 0)⟩)] (i64 (n : Int)) := by
  have hrl := rowsI_len L
  refine Con.of (C := ⟨Try.prog, tc, Try.f31.ntmps⟩) [2000000000, 2000000010, 2000000011] tcok Try.func31 rfl rfl (by kernel_rfl) (by kernel_rfl) ?_
  refine AWP.seq ?_
  refine AWP.regionT tcok hmix [] [0, 1, 4] [2000000000, 2000000010, 2000000011] (os := []) (s' := St.mk [(0, tp (V.ptr 2000000010 0)), (1, tp (i32 b)), (4, tp (i64 0))] [(2000000000, Blk.mk (rowsI L) true 0 (some (79, 3))), (2000000010, Blk.mk [V.sl 2000000000 0 n, V.mp 2000000011, vb off] false 3 none), (2000000011, Blk.mk (idsC K) true 0 (some (0, 0)))]) (by kernel_rfl) trivial ?_
  refine AWP.seq ?_
  refine xe0 [0, 1, 4, 8] [2000000000, 2000000010, 2000000011] (by kernel_rfl) ?_
  refine AWP.condF (by kernel_rfl) ?_
  refine AWP.skip ?_
  refine AWP.seq ?_
  refine xe0 [0, 1, 4, 12, 13, 14] [2000000000, 2000000010, 2000000011] (by kernel_rfl) ?_
  refine AWP.block ?_
  refine AWP.loopI [14, 13, 12, 0, 1, 4] [2000000000, 2000000010, 2000000011] (fun N s' => ∃ (i : Int) (S : List It), s' = St.mk [(0, T.plain (V.ptr 2000000010 0)), (1, T.plain (i32 b)), (4, T.plain (i64 0)), (12, T.plain (V.sl 2000000000 0 n)), (13, T.plain (i64 (n : Int))), (14, T.plain (i64 i))] [(2000000000, Blk.mk (rowsI S) true 0 (some (79, 3))), (2000000010, Blk.mk [V.sl 2000000000 0 n, V.mp 2000000011, vb off] false 3 none), (2000000011, Blk.mk (idsC K) true 0 (some (0, 0)))] ∧ 0 ≤ i ∧ i ≤ n ∧ S = (L.take i.toNat).map (shI b) ++ L.drop i.toNat ∧ (N : Int) = n - i) n (s0 := St.mk [(0, T.plain (V.ptr 2000000010 0)), (1, T.plain (i32 b)), (4, T.plain (i64 0)), (12, T.plain (V.sl 2000000000 0 n)), (13, T.plain (i64 (n : Int))), (14, T.plain (i64 0))] [(2000000000, Blk.mk (rowsI L) true 0 (some (79, 3))), (2000000010, Blk.mk [V.sl 2000000000 0 n, V.mp 2000000011, vb off] false 3 none), (2000000011, Blk.mk (idsC K) true 0 (some (0, 0)))]) (by kernel_rfl) ?_ ?_
  · exact ⟨0, L, rfl, by omega, by omega, by simp, by omega⟩
  rintro N s' ⟨i, S, rfl, hi, hin, hS, hN⟩
  have hSl : S.length = n := by rw [hS]; simp; omega
  have hsl := rowsI_len S
  by_cases hlt : i < n
  · obtain ⟨a, ha⟩ : ∃ a, L[i.toNat]? = some a := ⟨_, List.getElem?_eq_getElem (by omega)⟩
    have ha2 : S[i.toNat]? = some a := by
      rw [hS, List.getElem?_append_right (by simp; omega)]
      simp only [List.length_map, List.length_take, List.getElem?_drop]
      rw [← ha]
      congr 1
      omega
    have wr := rowsI_at ha2
    have hat := hL a (List.mem_of_getElem? ha)
    have e1 := rowsI_putT ha2 (shT b a.t) (1 == 1)
    have e2 := sh_next ha hS
    have e3 := shT_eq hb hat
    have e4 : i.toNat + 1 = (i + 1).toNat := by omega
    rw [e4] at e2
    refine AWP.seq ?_
    refine AWP.regionT tcok hmix [] [0, 1, 4, 12, 13, 14, 15] [2000000000, 2000000010, 2000000011] (os := []) (s' := St.mk [(0, tp (V.ptr 2000000010 0)), (1, tp (i32 b)), (4, tp (i64 0)), (12, tp (V.sl 2000000000 0 n)), (13, tp (i64 (↑n : Int))), (14, tp (i64 i)), (15, tp (vb (decide (i < (↑n : Int)))))] [(2000000000, Blk.mk (rowsI S) true 0 (some (79, 3))), (2000000010, Blk.mk [V.sl 2000000000 0 n, V.mp 2000000011, vb off] false 3 none), (2000000011, Blk.mk (idsC K) true 0 (some (0, 0)))]) (by kernel_rfl) trivial ?_
    refine AWP.seq ?_
    refine AWP.cond (b := decide (i < (↑n : Int))) (by kernel_rfl) (fun hq5 => ?_) (fun hq5 => ?_)
    · simp only [decide_eq_true_eq] at hq5
      refine AWP.skip ?_
      refine AWP.seq ?_
      refine AWP.block ?_
      refine AWP.seq ?_
      refine AWP.regionT tcok hmix [(1, ⟨some (V.ptr 2000000000 (0 + Int.toNat i * 3)), none⟩), (2, ⟨some (V.agg true (It.row a)), none⟩)] [0, 1, 4, 5, 6, 12, 13, 14] [2000000000, 2000000010, 2000000011, 6] (os := [(0 : Int) ≤ i ∧ i < (↑n : Int), V.ptr 2000000000 (0 + Int.toNat i * 3) = V.ptr 2000000000 (0 + Int.toNat i * 3), (0 : Nat) + Int.toNat i * (3 : Nat) + (3 : Nat) ≤ List.length (rowsI S), V.agg true (List.take 3 (List.drop (0 + Int.toNat i * 3) (rowsI S))) = V.agg true [u32 a.t, u16 a.id, V.vs (u8s a.c) a.k]]) (s' := St.mk [(0, tp (V.ptr 2000000010 0)), (1, tp (i32 b)), (4, tp (i64 0)), (5, tp (i64 i)), (6, tp (V.ptr 6 0)), (12, tp (V.sl 2000000000 0 n)), (13, tp (i64 (↑n : Int))), (14, tp (i64 i))] [(6, Blk.mk [u32 a.t, u16 a.id, V.vs (u8s a.c) a.k] true 3 none), (2000000000, Blk.mk (rowsI S) true 0 (some (79, 3))), (2000000010, Blk.mk [V.sl 2000000000 0 n, V.mp 2000000011, vb off] false 3 none), (2000000011, Blk.mk (idsC K) true 0 (some (0, 0)))]) (by kernel_rfl) ⟨(by omega), rfl, (by first | omega | (simp [len_u8s]; done) | (simp [len_u8s]; omega)), (congrArg (V.agg true) (wr )), trivial⟩ ?_
      refine AWP.region tcok hmix [(7, ⟨some (i64 a.t), none⟩), (9, ⟨some (i64 b), none⟩), (10, ⟨some (i64 (a.t + b)), none⟩), (13, ⟨some (u32 (imin (imax (a.t + b) 0) 4294967295 % 4294967296)), none⟩), (14, ⟨some (V.ptr 2000000000 (0 + Int.toNat i * 3)), none⟩), (16, ⟨some V.top, none⟩)] (os := [i64 (IntKind.wrap IntKind.i64 a.t) = i64 a.t, i64 (IntKind.wrap IntKind.i64 b) = i64 b, i64 (IntKind.wrap IntKind.i64 (a.t + b)) = i64 (a.t + b), u32 (IntKind.wrap IntKind.u32 (imin (imax (a.t + b) 0) 4294967295)) = u32 (imin (imax (a.t + b) 0) 4294967295 % 4294967296), (0 : Int) ≤ i ∧ i < (↑n : Int), V.ptr 2000000000 (0 + Int.toNat i * 3) = V.ptr 2000000000 (0 + Int.toNat i * 3), (1 : Nat) = (1 : Nat), (0 : Nat) + Int.toNat i * (3 : Nat) + (0 : Nat) + (1 : Nat) ≤ List.length (rowsI S)]) (sf := St.mk [(0, tp (V.ptr 2000000010 0)), (1, tp (i32 b)), (4, tp (i64 0)), (5, tp (i64 i)), (6, tp (V.ptr 6 0)), (12, tp (V.sl 2000000000 0 n)), (13, tp (i64 (↑n : Int))), (14, tp (i64 i)), (19, tp (V.ptr 2000000010 0)), (20, tp (V.ptr 2000000010 0)), (21, tp (V.ptr 2000000010 0)), (22, tp (V.sl 2000000000 0 n)), (23, tp (i64 i)), (24, tp (V.ptr 6 0)), (25, tp (u32 a.t)), (26, tp (i64 a.t)), (27, tp (i32 b)), (28, tp (i64 b)), (29, tp (i64 (a.t + b))), (30, tp (i64 (imax (a.t + b) 0))), (31, tp (i64 (imin (imax (a.t + b) 0) 4294967295))), (32, tp (u32 (imin (imax (a.t + b) 0) 4294967295 % 4294967296))), (33, tp (V.ptr 2000000000 (0 + Int.toNat i * 3))), (34, tp (V.ptr 2000000000 (0 + Int.toNat i * 3 + 0)))] [(6, Blk.mk [u32 a.t, u16 a.id, V.vs (u8s a.c) a.k] true 3 none), (2000000000, Blk.mk (putC (1 == 1) (rowsI S) (0 + Int.toNat i * 3 + 0) [u32 (imin (imax (a.t + b) 0) 4294967295 % 4294967296)]) true 0 (some (79, 3))), (2000000010, Blk.mk [V.sl 2000000000 0 n, V.mp 2000000011, vb off] false 3 none), (2000000011, Blk.mk (idsC K) true 0 (some (0, 0)))]) (by kernel_rfl) ⟨(wr_i64 (by omega) (by omega)), (wr_i64 (by omega) (by omega)), (wr_i64 (by omega) (by omega)), wm_u32, (by omega), rfl, (by omega), (by first | omega | (simp [len_u8s]; done) | (simp [len_u8s]; omega)), trivial⟩ ?_
      refine AWP.keep' [0, 1, 4, 12, 13, 14] [2000000000, 2000000010, 2000000011] (sf := St.mk [(0, tp (V.ptr 2000000010 0)), (1, tp (i32 b)), (4, tp (i64 0)), (12, tp (V.sl 2000000000 0 n)), (13, tp (i64 (↑n : Int))), (14, tp (i64 i))] [(2000000000, Blk.mk (putC (1 == 1) (rowsI S) (0 + Int.toNat i * 3 + 0) [u32 (imin (imax (a.t + b) 0) 4294967295 % 4294967296)]) true 0 (some (79, 3))), (2000000010, Blk.mk [V.sl 2000000000 0 n, V.mp 2000000011, vb off] false 3 none), (2000000011, Blk.mk (idsC K) true 0 (some (0, 0)))]) (by kernel_rfl) ?_
      refine AWP.region tcok hmix [(0, ⟨some (i64 (i + 1)), none⟩)] (os := [i64 (IntKind.wrap IntKind.i64 (i + 1)) = i64 (i + 1)]) (sf := St.mk [(0, tp (V.ptr 2000000010 0)), (1, tp (i32 b)), (4, tp (i64 0)), (12, tp (V.sl 2000000000 0 n)), (13, tp (i64 (↑n : Int))), (14, tp (i64 (i + 1))), (35, tp (i64 (i + 1)))] [(2000000000, Blk.mk (putC (1 == 1) (rowsI S) (0 + Int.toNat i * 3 + 0) [u32 (imin (imax (a.t + b) 0) 4294967295 % 4294967296)]) true 0 (some (79, 3))), (2000000010, Blk.mk [V.sl 2000000000 0 n, V.mp 2000000011, vb off] false 3 none), (2000000011, Blk.mk (idsC K) true 0 (some (0, 0)))]) (by kernel_rfl) ⟨(wr_i64 (by omega) (by omega)), trivial⟩ ?_
      refine ⟨St.mk [(0, tp (V.ptr 2000000010 0)), (1, tp (i32 b)), (4, tp (i64 0)), (12, tp (V.sl 2000000000 0 n)), (13, tp (i64 (↑n : Int))), (14, tp (i64 (i + 1)))] [(2000000000, Blk.mk (putC (1 == 1) (rowsI S) (0 + Int.toNat i * 3 + 0) [u32 (imin (imax (a.t + b) 0) 4294967295 % 4294967296)]) true 0 (some (79, 3))), (2000000010, Blk.mk [V.sl 2000000000 0 n, V.mp 2000000011, vb off] false 3 none), (2000000011, Blk.mk (idsC K) true 0 (some (0, 0)))], by kernel_rfl, ?_⟩
      first | (exact ⟨(n - (i + 1)).toNat, (by omega), i + 1, _, (by rw [e3, e1]; rfl), (by omega), (by omega), e2, (by omega)⟩) | (exfalso; omega)
    simp only [decide_eq_false_iff_not] at hq5
    (exfalso; omega)
  have hin : i = n := by omega
  subst hin
  rw [Int.toNat_natCast, ← hn, List.take_length, List.drop_length, List.append_nil, hL'] at hS
  subst hS
  refine AWP.seq ?_
  refine AWP.regionT tcok hmix [] [0, 1, 4, 12, 13, 14, 15] [2000000000, 2000000010, 2000000011] (os := []) (s' := St.mk [(0, tp (V.ptr 2000000010 0)), (1, tp (i32 b)), (4, tp (i64 0)), (12, tp (V.sl 2000000000 0 n)), (13, tp (i64 (↑n : Int))), (14, tp (i64 (↑n : Int))), (15, tp (vb (decide ((↑n : Int) < (↑n : Int)))))] [(2000000000, Blk.mk (rowsI S) true 0 (some (79, 3))), (2000000010, Blk.mk [V.sl 2000000000 0 n, V.mp 2000000011, vb off] false 3 none), (2000000011, Blk.mk (idsC K) true 0 (some (0, 0)))]) (by kernel_rfl) trivial ?_
  refine AWP.seq ?_
  refine AWP.cond (b := decide ((↑n : Int) < (↑n : Int))) (by kernel_rfl) (fun hq6 => ?_) (fun hq6 => ?_)
  · simp only [decide_eq_true_eq] at hq6
    (exfalso; omega)
  simp only [decide_eq_false_iff_not] at hq6
  refine AWP.exit ?_
  refine AWP.seq ?_
  refine AWP.regionT tcok hmix [] [4] [2000000000, 2000000010, 2000000011] (os := []) (s' := St.mk [(4, tp (i64 (↑n : Int)))] [(2000000000, Blk.mk (rowsI S) true 0 (some (79, 3))), (2000000010, Blk.mk [V.sl 2000000000 0 n, V.mp 2000000011, vb off] false 3 none), (2000000011, Blk.mk (idsC K) true 0 (some (0, 0)))]) (by kernel_rfl) trivial ?_
  refine AWP.ret ?_
  refine ⟨Or.inr rfl, Eq.trans (b := some ([(2000000000, Blk.mk (rowsI S) true 0 (some (79, 3))), (2000000010, Blk.mk [V.sl 2000000000 0 n, V.mp 2000000011, vb off] false 3 none), (2000000011, Blk.mk (idsC K) true 0 (some (0, 0)))], i64 (↑n : Int))) (by kernel_rfl) ?_⟩
  first | rfl | (exfalso; omega)
end Go.Proofs.Ytlfjnkobnkfioaa
