/- A plan: what is due. -/
import Derived.Test.YtlfjnkobnkfioaaRg
import Derived.Test.YtlfjnkobnkfioaaPlnJ
namespace Go.Proofs.Ytlfjnkobnkfioaa
open Go.Ab
set_option maxRecDepth 100000
set_option maxHeartbeats 8000000
set_option linter.unusedSimpArgs false
set_option linter.unusedVariables false
def tcC (L : List It) : List V := L.map fun a => .vs (u8s a.c) a.k
def eraI (K : List Int) (L : List It) : List Int := L.foldl (fun K a => K.erase a.id) K
theorem tcC_next {L : List It} {i : Nat} {a : It} (h : L[i]? = some a) : tcC (L.take i) ++ [.vs (u8s a.c) a.k] = tcC (L.take (i + 1)) := by
  unfold tcC
  rw [List.take_add_one, h, List.map_append]
  rfl
theorem eraI_next {L : List It} {i : Nat} {a : It} (h : L[i]? = some a) (K : List Int) : (eraI K (L.take i)).erase a.id = eraI K (L.take (i + 1)) := by
  unfold eraI
  rw [List.take_add_one, h, List.foldl_append]
  rfl
theorem tcC_len (L : List It) : (tcC L).length = L.length := by simp [tcC]
theorem con_due (L : List It) (n : Nat) (hn : L.length = n) (hm : n ≤ 1000) (K : List Int) (t : Int) (p : Nat) (hp : posI t L = p) (n' : Nat) (hn' : n - p = n') (L' : List It) (hL : L.drop p = L') (K' : List Int) (hK : eraI K (L.take p) = K') :
    Con Try.prog 25 [(1000000000, ⟨rowsI L, true, 0, some (79, 3)⟩), (2000000010, ⟨[.sl 1000000000 0 n, .mp 2000000011, vb false], false, 3, none⟩), (2000000011, ⟨idsC K, true, 0, some (0, 0)⟩)] [.ptr 2000000010 0, u32 t]
      [(1000000000, ⟨rowsI L', true, 0, some (79, 3)⟩), (2000000010, ⟨[.sl 1000000000 0 n', .mp 2000000011, vb false], false, 3, none⟩), (2000000011, ⟨idsC K', true, 0, some (0, 0)⟩)] (.vs (tcC (L.take p)) p) := by
  have hrl := rowsI_len L
  have hpl := posI_le t L
  have c1 := con_late L n hn hm K false t p hp
  have c2 := con_del (rowsI L) n p (by omega) (by omega)
  rw [rowsI_drop, hn', hL] at c2
  refine Con.of (C := ⟨Try.prog, tc, Try.f25.ntmps⟩) [1000000000, 2000000010, 2000000011] tcok Try.func25 rfl rfl (by kernel_rfl) (by kernel_rfl) ?_
  refine AWP.seq ?_
  refine AWP.regionT tcok hmix [] [0, 1, 4] [4, 1000000000, 2000000010, 2000000011] (os := []) (s' := St.mk [(0, tp (V.ptr 2000000010 0)), (1, tp (u32 t)), (4, tp (V.sl 4 0 0))] [(4, Blk.mk [] true 0 (some (61, 1))), (1000000000, Blk.mk (rowsI L) true 0 (some (79, 3))), (2000000010, Blk.mk [V.sl 1000000000 0 n, V.mp 2000000011, vb false] false 3 none), (2000000011, Blk.mk (idsC K) true 0 (some (0, 0)))]) (by kernel_rfl) trivial ?_
  refine AWP.seq ?_
  refine xe0 [0, 1, 4, 16] [1000000000, 2000000010, 2000000011, 4] (by kernel_rfl) ?_
  refine AWP.condF (by kernel_rfl) ?_
  refine AWP.skip ?_
  refine xe0 [0, 1, 4, 5] [1000000000, 2000000010, 2000000011, 4, 5] (by kernel_rfl) ?_
  refine xe1 (os := [Con Try.prog 48 [(2000000000, Blk.mk (rowsI L) true 0 (some (79, 3))), (2000000010, Blk.mk [V.sl 2000000000 0 n, V.mp 2000000011, vb false] false 3 none), (2000000011, Blk.mk (idsC K) true 0 (some (0, 0)))] [V.ptr 2000000010 0, u32 t] [(2000000000, Blk.mk (rowsI L) true 0 (some (79, 3))), (2000000010, Blk.mk [V.sl 2000000000 0 n, V.mp 2000000011, vb false] false 3 none), (2000000011, Blk.mk (idsC K) true 0 (some (0, 0)))] (i64 (↑p : Int))]) [(2, ⟨some (V.tup [V.sl 2000000000 1000000000 0, V.sl 2000000010 2000000010 0, V.sl 2000000011 2000000011 0]), some ⟨i64 (↑p : Int), [(2000000000, Blk.mk (rowsI L) true 0 (some (79, 3))), (2000000010, Blk.mk [V.sl 2000000000 0 n, V.mp 2000000011, vb false] false 3 none), (2000000011, Blk.mk (idsC K) true 0 (some (0, 0)))], []⟩⟩)] [0, 4, 5, 6] [1000000000, 2000000010, 2000000011, 4, 5] (by kernel_rfl) ⟨(c1 ), trivial⟩ ?_
  refine AWP.seq ?_
  refine xe1 (os := [(0 : Int) ≤ (↑p : Int) ∧ (↑p : Int) ≤ (↑n : Int), V.sl 1000000000 0 (Int.toNat (↑p : Int)) = V.sl 1000000000 0 (Int.toNat (↑p : Int))]) [(5, ⟨some (V.sl 1000000000 0 (Int.toNat (↑p : Int))), none⟩)] [0, 4, 5, 6, 25, 26, 27] [1000000000, 2000000010, 2000000011, 4, 5] (by kernel_rfl) ⟨(by omega), rfl, trivial⟩ ?_
  refine AWP.block ?_
  simp only [Int.toNat_natCast, Nat.sub_zero, Nat.zero_add]
  refine AWP.loopI [27, 26, 25, 5, 0, 6, 4] [4, 5, 1000000000, 2000000010, 2000000011] (fun N s' => ∃ (i : Int) (k : Nat) (O : List V) (Q : List Int), s' = St.mk [(0, T.plain (V.ptr 2000000010 0)), (4, T.plain (V.sl 4 0 0)), (5, T.plain (V.sl 5 0 k)), (6, T.plain (i64 (p : Int))), (25, T.plain (V.sl 1000000000 0 p)), (26, T.plain (i64 (p : Int))), (27, T.plain (i64 i))] [(4, Blk.mk [] true 0 (some (61, 1))), (5, Blk.mk O true 0 (some (61, 1))), (1000000000, Blk.mk (rowsI L) true 0 (some (79, 3))), (2000000010, Blk.mk [V.sl 1000000000 0 n, V.mp 2000000011, vb false] false 3 none), (2000000011, Blk.mk (idsC Q) true 0 (some (0, 0)))] ∧ 0 ≤ i ∧ i ≤ p ∧ k = i.toNat ∧ O = tcC (L.take k) ∧ Q = eraI K (L.take k) ∧ (N : Int) = p - i) p (s0 := St.mk [(0, T.plain (V.ptr 2000000010 0)), (4, T.plain (V.sl 4 0 0)), (5, T.plain (V.sl 5 0 0)), (6, T.plain (i64 (p : Int))), (25, T.plain (V.sl 1000000000 0 p)), (26, T.plain (i64 (p : Int))), (27, T.plain (i64 0))] [(4, Blk.mk [] true 0 (some (61, 1))), (5, Blk.mk [] true 0 (some (61, 1))), (1000000000, Blk.mk (rowsI L) true 0 (some (79, 3))), (2000000010, Blk.mk [V.sl 1000000000 0 n, V.mp 2000000011, vb false] false 3 none), (2000000011, Blk.mk (idsC K) true 0 (some (0, 0)))]) (by kernel_rfl) ?_ ?_
  · exact ⟨0, 0, _, _, rfl, by omega, by omega, rfl, by simp [tcC], by simp [eraI], by omega⟩
  rintro N s' ⟨i, k, O, Q, rfl, hi, hip, hk, hO, hQ, hN⟩
  have hOl : O.length = k := by rw [hO, tcC_len, List.length_take]; omega
  by_cases hlt : i < p
  · obtain ⟨a, ha⟩ : ∃ a, L[i.toNat]? = some a := ⟨_, List.getElem?_eq_getElem (by omega)⟩
    have wr := rowsI_at ha
    have wm2 := mdel_ids a.id Q
    have e1 : O ++ [.vs (u8s a.c) a.k] = tcC (L.take (k + 1)) := by rw [hO, hk]; exact tcC_next ha
    have e2 : Q.erase a.id = eraI K (L.take (k + 1)) := by rw [hQ, hk]; exact eraI_next ha K
    refine AWP.seq ?_
    refine AWP.regionT tcok hmix [] [0, 4, 5, 6, 25, 26, 27, 28] [4, 5, 1000000000, 2000000010, 2000000011] (os := []) (s' := St.mk [(0, tp (V.ptr 2000000010 0)), (4, tp (V.sl 4 0 0)), (5, tp (V.sl 5 0 k)), (6, tp (i64 (↑p : Int))), (25, tp (V.sl 1000000000 0 p)), (26, tp (i64 (↑p : Int))), (27, tp (i64 i)), (28, tp (vb (decide (i < (↑p : Int)))))] [(4, Blk.mk [] true 0 (some (61, 1))), (5, Blk.mk O true 0 (some (61, 1))), (1000000000, Blk.mk (rowsI L) true 0 (some (79, 3))), (2000000010, Blk.mk [V.sl 1000000000 0 n, V.mp 2000000011, vb false] false 3 none), (2000000011, Blk.mk (idsC Q) true 0 (some (0, 0)))]) (by kernel_rfl) trivial ?_
    refine AWP.seq ?_
    refine AWP.cond (b := decide (i < (↑p : Int))) (by kernel_rfl) (fun hq2 => ?_) (fun hq2 => ?_)
    · simp only [decide_eq_true_eq] at hq2
      refine AWP.skip ?_
      refine AWP.seq ?_
      refine AWP.block ?_
      refine AWP.seq ?_
      refine AWP.regionT tcok hmix [(0, ⟨some (V.ptr 1000000000 (0 + Int.toNat i * 3)), none⟩), (1, ⟨some (V.agg true (It.row a)), none⟩)] [0, 4, 5, 6, 8, 25, 26, 27] [1000000000, 2000000010, 2000000011, 4, 5, 8] (os := [(0 : Int) ≤ i ∧ i < (↑p : Int), V.ptr 1000000000 (0 + Int.toNat i * 3) = V.ptr 1000000000 (0 + Int.toNat i * 3), (0 : Nat) + Int.toNat i * (3 : Nat) + (3 : Nat) ≤ List.length (rowsI L), V.agg true (List.take 3 (List.drop (0 + Int.toNat i * 3) (rowsI L))) = V.agg true [u32 a.t, u16 a.id, V.vs (u8s a.c) a.k]]) (s' := St.mk [(0, tp (V.ptr 2000000010 0)), (4, tp (V.sl 4 0 0)), (5, tp (V.sl 5 0 k)), (6, tp (i64 (↑p : Int))), (8, tp (V.ptr 8 0)), (25, tp (V.sl 1000000000 0 p)), (26, tp (i64 (↑p : Int))), (27, tp (i64 i))] [(4, Blk.mk [] true 0 (some (61, 1))), (5, Blk.mk O true 0 (some (61, 1))), (8, Blk.mk [u32 a.t, u16 a.id, V.vs (u8s a.c) a.k] true 3 none), (1000000000, Blk.mk (rowsI L) true 0 (some (79, 3))), (2000000010, Blk.mk [V.sl 1000000000 0 n, V.mp 2000000011, vb false] false 3 none), (2000000011, Blk.mk (idsC Q) true 0 (some (0, 0)))]) (by kernel_rfl) ⟨(by omega), rfl, (by first | omega | (simp [len_u8s]; done) | (simp [len_u8s]; omega)), (congrArg (V.agg true) (wr )), trivial⟩ ?_
      refine xe1 (os := [(1 : Nat) ≤ (1 : Nat), k * (1 : Nat) = List.length O, k + (1 : Nat) ≤ (9223372036854775807 : Nat), (k + (1 : Nat)) * (24 : Nat) ≤ (140737488355328 : Nat), O ++ List.take ((1 : Nat) * (1 : Nat)) (List.drop (0 : Nat) [V.vs (u8s a.c) a.k]) = O ++ [V.vs (u8s a.c) a.k], k + (1 : Nat) = k + (1 : Nat)]) [(4, ⟨some (V.tup [V.agg true (O ++ [V.vs (u8s a.c) a.k]), V.sl 0 0 (k + 1)]), none⟩)] [0, 4, 5, 6, 8, 25, 26, 27] [1000000000, 2000000010, 2000000011, 4, 5, 8] (by kernel_rfl) ⟨(by omega), (by omega), (by omega), (by omega), (by first | rfl | (simp only [u8s_drop, u8s_take, List.drop_zero, Nat.mul_one, Nat.one_mul, u8s_app, List.take_length, List.nil_append, List.append_nil]; done) | (simp [u8s]; done) | (simp [u8s]; omega)), (by omega), trivial⟩ ?_
      refine AWP.region tcok hmix [(6, ⟨some (V.agg true (idsC (List.erase Q a.id))), none⟩)] (os := [mdelR (Cx.mk Try.prog tc Try.f25.ntmps).tc (65 : TypeId) (Blk.mk (idsC Q) true (0 : Nat) (some ((0 : Nat), (0 : Nat)))).cells (u16 a.id) (idsC (List.erase Q a.id))]) (sf := St.mk [(0, tp (V.ptr 2000000010 0)), (4, tp (V.sl 4 0 0)), (5, tp (V.sl 5 0 (k + 1))), (6, tp (i64 (↑p : Int))), (8, tp (V.ptr 8 0)), (25, tp (V.sl 1000000000 0 p)), (26, tp (i64 (↑p : Int))), (27, tp (i64 i)), (36, tp (V.ptr 2000000010 0)), (37, tp (V.ptr 2000000010 0)), (38, tp (V.ptr 2000000010 1)), (39, tp (V.mp 2000000011)), (40, tp (V.ptr 8 1)), (41, tp (u16 a.id))] [(4, Blk.mk [] true 0 (some (61, 1))), (5, Blk.mk (O ++ [V.vs (u8s a.c) a.k]) true 0 (some (61, 1))), (8, Blk.mk [u32 a.t, u16 a.id, V.vs (u8s a.c) a.k] true 3 none), (1000000000, Blk.mk (rowsI L) true 0 (some (79, 3))), (2000000010, Blk.mk [V.sl 1000000000 0 n, V.mp 2000000011, vb false] false 3 none), (2000000011, Blk.mk (idsC (List.erase Q a.id)) true 0 (some (0, 0)))]) (by kernel_rfl) ⟨(wm2 ), trivial⟩ ?_
      refine AWP.keep' [0, 4, 5, 6, 25, 26, 27] [1000000000, 2000000010, 2000000011, 4, 5] (sf := St.mk [(0, tp (V.ptr 2000000010 0)), (4, tp (V.sl 4 0 0)), (5, tp (V.sl 5 0 (k + 1))), (6, tp (i64 (↑p : Int))), (25, tp (V.sl 1000000000 0 p)), (26, tp (i64 (↑p : Int))), (27, tp (i64 i))] [(4, Blk.mk [] true 0 (some (61, 1))), (5, Blk.mk (O ++ [V.vs (u8s a.c) a.k]) true 0 (some (61, 1))), (1000000000, Blk.mk (rowsI L) true 0 (some (79, 3))), (2000000010, Blk.mk [V.sl 1000000000 0 n, V.mp 2000000011, vb false] false 3 none), (2000000011, Blk.mk (idsC (List.erase Q a.id)) true 0 (some (0, 0)))]) (by kernel_rfl) ?_
      refine AWP.region tcok hmix [(0, ⟨some (i64 (i + 1)), none⟩)] (os := [i64 (IntKind.wrap IntKind.i64 (i + 1)) = i64 (i + 1)]) (sf := St.mk [(0, tp (V.ptr 2000000010 0)), (4, tp (V.sl 4 0 0)), (5, tp (V.sl 5 0 (k + 1))), (6, tp (i64 (↑p : Int))), (25, tp (V.sl 1000000000 0 p)), (26, tp (i64 (↑p : Int))), (27, tp (i64 (i + 1))), (42, tp (i64 (i + 1)))] [(4, Blk.mk [] true 0 (some (61, 1))), (5, Blk.mk (O ++ [V.vs (u8s a.c) a.k]) true 0 (some (61, 1))), (1000000000, Blk.mk (rowsI L) true 0 (some (79, 3))), (2000000010, Blk.mk [V.sl 1000000000 0 n, V.mp 2000000011, vb false] false 3 none), (2000000011, Blk.mk (idsC (List.erase Q a.id)) true 0 (some (0, 0)))]) (by kernel_rfl) ⟨(wr_i64 (by omega) (by omega)), trivial⟩ ?_
      refine ⟨St.mk [(0, tp (V.ptr 2000000010 0)), (4, tp (V.sl 4 0 0)), (5, tp (V.sl 5 0 (k + 1))), (6, tp (i64 (↑p : Int))), (25, tp (V.sl 1000000000 0 p)), (26, tp (i64 (↑p : Int))), (27, tp (i64 (i + 1)))] [(4, Blk.mk [] true 0 (some (61, 1))), (5, Blk.mk (O ++ [V.vs (u8s a.c) a.k]) true 0 (some (61, 1))), (1000000000, Blk.mk (rowsI L) true 0 (some (79, 3))), (2000000010, Blk.mk [V.sl 1000000000 0 n, V.mp 2000000011, vb false] false 3 none), (2000000011, Blk.mk (idsC (List.erase Q a.id)) true 0 (some (0, 0)))], by kernel_rfl, ?_⟩
      first | (exact ⟨(p - (i + 1)).toNat, (by omega), i + 1, k + 1, _, _, rfl, (by omega), (by omega), (by omega), e1, e2, (by omega)⟩) | (exfalso; omega)
    simp only [decide_eq_false_iff_not] at hq2
    (exfalso; omega)
  have hip : i = p := by omega
  subst hip
  rw [Int.toNat_natCast] at hk
  subst hk
  rw [hK] at hQ
  subst hQ
  subst hO
  refine AWP.seq ?_
  refine AWP.regionT tcok hmix [] [0, 4, 5, 6, 25, 26, 27, 28] [4, 5, 1000000000, 2000000010, 2000000011] (os := []) (s' := St.mk [(0, tp (V.ptr 2000000010 0)), (4, tp (V.sl 4 0 0)), (5, tp (V.sl 5 0 k)), (6, tp (i64 (↑k : Int))), (25, tp (V.sl 1000000000 0 k)), (26, tp (i64 (↑k : Int))), (27, tp (i64 (↑k : Int))), (28, tp (vb (decide ((↑k : Int) < (↑k : Int)))))] [(4, Blk.mk [] true 0 (some (61, 1))), (5, Blk.mk (tcC (List.take k L)) true 0 (some (61, 1))), (1000000000, Blk.mk (rowsI L) true 0 (some (79, 3))), (2000000010, Blk.mk [V.sl 1000000000 0 n, V.mp 2000000011, vb false] false 3 none), (2000000011, Blk.mk (idsC Q) true 0 (some (0, 0)))]) (by kernel_rfl) trivial ?_
  refine AWP.seq ?_
  refine AWP.cond (b := decide ((↑k : Int) < (↑k : Int))) (by kernel_rfl) (fun hq3 => ?_) (fun hq3 => ?_)
  · simp only [decide_eq_true_eq] at hq3
    (exfalso; omega)
  simp only [decide_eq_false_iff_not] at hq3
  refine AWP.exit ?_
  refine AWP.seq ?_
  refine AWP.regionT tcok hmix [(6, ⟨some (V.tup [V.sl 1000000000 1000000000 0]), some ⟨V.sl 1000000000 0 n', [(1000000000, Blk.mk (rowsI L') true 0 (some (79, 3)))], []⟩⟩)] [4, 5] [1000000000, 2000000010, 2000000011, 4, 5] (os := [Con Try.prog 49 [(1000000000, Blk.mk (rowsI L) true 0 (some (79, 3)))] [V.sl 1000000000 0 n, i64 0, i64 (↑k : Int)] [(1000000000, Blk.mk (rowsI L') true 0 (some (79, 3)))] (V.sl 1000000000 0 n')]) (s' := St.mk [(4, tp (V.sl 4 0 0)), (5, tp (V.sl 5 0 k))] [(4, Blk.mk [] true 0 (some (61, 1))), (5, Blk.mk (tcC (List.take k L)) true 0 (some (61, 1))), (1000000000, Blk.mk (rowsI L') true 0 (some (79, 3))), (2000000010, Blk.mk [V.sl 1000000000 0 n', V.mp 2000000011, vb false] false 3 none), (2000000011, Blk.mk (idsC Q) true 0 (some (0, 0)))]) (by kernel_rfl) ⟨(c2 ), trivial⟩ ?_
  refine AWP.seq ?_
  refine AWP.keep' [5] [1000000000, 2000000010, 2000000011, 5] (sf := St.mk [(5, tp (V.sl 5 0 k))] [(5, Blk.mk (tcC (List.take k L)) true 0 (some (61, 1))), (1000000000, Blk.mk (rowsI L') true 0 (some (79, 3))), (2000000010, Blk.mk [V.sl 1000000000 0 n', V.mp 2000000011, vb false] false 3 none), (2000000011, Blk.mk (idsC Q) true 0 (some (0, 0)))]) (by kernel_rfl) ?_
  refine xg0 [4] [1000000000, 2000000010, 2000000011, 5] (by kernel_rfl) ?_
  refine AWP.frz 5 (s' := St.mk [(4, tp (V.vs (dropC 0 (tcC (List.take k L))) k))] [(1000000000, Blk.mk (rowsI L') true 0 (some (79, 3))), (2000000010, Blk.mk [V.sl 1000000000 0 n', V.mp 2000000011, vb false] false 3 none), (2000000011, Blk.mk (idsC Q) true 0 (some (0, 0)))]) (by kernel_rfl) ?_
  refine AWP.ret ?_
  refine ⟨Or.inr rfl, Eq.trans (b := some ([(1000000000, Blk.mk (rowsI L') true 0 (some (79, 3))), (2000000010, Blk.mk [V.sl 1000000000 0 n', V.mp 2000000011, vb false] false 3 none), (2000000011, Blk.mk (idsC Q) true 0 (some (0, 0)))], V.vs (dropC 0 (tcC (List.take k L))) k)) (by kernel_rfl) ?_⟩
  first | rfl | (exfalso; omega)
end Go.Proofs.Ytlfjnkobnkfioaa
