/- A plan's numbers; what is inserted. -/
import Derived.Test.YtlfjnkobnkfioaaRg
import Derived.Test.YtlfjnkobnkfioaaPlnG
import Derived.Test.YtlfjnkobnkfioaaPlnH
namespace Go.Proofs.Ytlfjnkobnkfioaa
open Go.Ab
set_option maxRecDepth 100000
set_option maxHeartbeats 8000000
set_option linter.unusedSimpArgs false
set_option linter.unusedVariables false
def idsC : List Int → List V
  | [] => []
  | k :: r => u16 k :: vb true :: idsC r
theorem evEq16 (a b : Int) : evEq tc 4 65 (u16 a) (u16 b) = some (a == b) := by kernel_rfl
theorem mfind_ids (id : Int) : ∀ (K : List Int) (i : Nat), mfind tc 65 (u16 id) (idsC K) i = some (if id ∈ K then some (i + K.idxOf id) else none)
  | [], i => by simp [mfind, idsC]
  | k :: r, i => by
    simp only [idsC, mfind, evEq16]
    by_cases h : id = k
    · subst h
      simp
    · have h2 : (id == k) = false := by simpa using h
      have h3 : (k == id) = false := by simpa using fun e => h (Eq.symm e)
      simp only [h2]
      rw [mfind_ids id r (i + 1)]
      simp only [List.mem_cons, h, false_or, List.idxOf_cons, h3, cond_false]
      split
      · refine congrArg (fun z => some (some z)) ?_
        omega
      · rfl
theorem idsC_at : ∀ (K : List Int) (i : Nat), i < K.length → gI (idsC K) (2 * i + 1) = vb true
  | [], i, h => by simp at h
  | k :: r, 0, h => rfl
  | k :: r, i + 1, h => by
    have := idsC_at r i (by simpa using h)
    rw [← this]
    rfl
theorem mget_ids (id : Int) (K : List Int) (b : Bool) (hb : (decide (id ∈ K)) = b) : mget tc 65 (vb false) false (idsC K) (u16 id) = some (vb b) := by
  unfold mget
  rw [mfind_ids]
  by_cases h : id ∈ K
  · rw [if_pos h]
    rw [decide_eq_true h] at hb
    subst hb
    have := idsC_at K (K.idxOf id) (List.idxOf_lt_length_of_mem h)
    simp only [Option.map_some, Nat.zero_add, this]
    rfl
  · rw [if_neg h]
    rw [decide_eq_false h] at hb
    subst hb
    rfl
theorem idsC_app : ∀ (K Q : List Int), idsC (K ++ Q) = idsC K ++ idsC Q
  | [], Q => rfl
  | k :: r, Q => by simp [idsC, idsC_app r Q]
theorem mput_ids (id : Int) (K : List Int) (h : id ∉ K) : mputR tc 65 (idsC K) (u16 id) (vb true) (idsC (K ++ [id])) := by
  refine .inl ⟨?_, ?_⟩
  · rw [mfind_ids, if_neg h]
  · rw [idsC_app]; rfl
theorem idsC_del (id : Int) : ∀ (K : List Int), id ∈ K → delE (idsC K) (K.idxOf id) = idsC (K.erase id)
  | [], h => by simp at h
  | k :: r, h => by
    by_cases e : id = k
    · subst e
      simp [delE, idsC]
    · have h2 : (k == id) = false := by simpa using fun e' => e (Eq.symm e')
      have hr : id ∈ r := by simpa [e] using h
      have ih := idsC_del id r hr
      rw [List.idxOf_cons, h2, List.erase_cons, h2]
      simp only [cond_false, Bool.false_eq_true, if_false, idsC]
      unfold delE at ih ⊢
      rw [show 2 * (r.idxOf id + 1) = 2 * r.idxOf id + 2 by omega]
      simp only [List.take_succ_cons, List.drop_succ_cons, List.cons_append, ← ih]
theorem mdel_ids (id : Int) (K : List Int) : mdelR tc 65 (idsC K) (u16 id) (idsC (K.erase id)) := by
  by_cases h : id ∈ K
  · exact .inr ⟨K.idxOf id, by rw [mfind_ids, if_pos h, Nat.zero_add], (idsC_del id K h).symm⟩
  · exact .inl ⟨by rw [mfind_ids, if_neg h], by rw [List.erase_of_not_mem h]⟩
def insI (a : It) (L : List It) : List It := L.take (posI a.t L) ++ [a] ++ L.drop (posI a.t L)
theorem rowsI_ins (a : It) (L : List It) : (rowsI L).take (posI a.t L * 3) ++ It.row a ++ (rowsI L).drop (posI a.t L * 3) = rowsI (insI a L) := by
  unfold insI
  rw [rowsI_take, rowsI_drop, rowsI_app, rowsI_app]
  simp [rowsI]
theorem con_cln0 : Con Try.prog 47 [] [.vs (u8s []) 0] [(5, ⟨u8s [], true, 0, some (5, 1)⟩)] (.sl 5 0 0) := by
  refine Con.of (C := ⟨Try.prog, tc, Try.f47.ntmps⟩) [5] tcok Try.func47 rfl rfl (by kernel_rfl) (by kernel_rfl) ?_
  refine AWP.seq ?_
  refine AWP.regionT tcok hmix [] [0, 2] [2] (os := []) (s' := St.mk [(0, T.plain (V.vs [] 0)), (2, T.plain (V.sl 2 0 0))] [(2, Blk.mk [] true 0 (some (5, 1)))]) (by kernel_rfl) trivial ?_
  refine AWP.seq ?_
  refine xe0 [0, 2, 4] [2] (by kernel_rfl) ?_
  refine AWP.condB (by kernel_rfl) ?_ ?_
  · refine AWP.seq ?_
    refine AWP.keep' [0] [] (sf := St.mk [(0, T.plain (V.vs [] 0))] []) (by kernel_rfl) ?_
    refine AWP.regionT tcok hmix [] [0, 2] [2] (os := []) (s' := St.mk [(0, T.plain (V.vs [] 0)), (2, T.plain (V.sl 2 0 0))] [(2, Blk.mk [] true 0 (some (5, 1)))]) (by kernel_rfl) trivial ?_
    refine AWP.shift 3 (s' := St.mk [(0, T.plain (V.vs [] 0)), (2, T.plain (V.sl 5 0 0))] [(5, Blk.mk [] true 0 (some (5, 1)))]) (by kernel_rfl) rfl ?_
    refine AWP.ret ?_
    refine ⟨Or.inr rfl, Eq.trans (b := some ([(5, Blk.mk [] true 0 (some (5, 1)))], V.sl 5 0 0)) (by kernel_rfl) ?_⟩
    rfl
  refine AWP.skip ?_
  refine AWP.seq ?_
  refine AWP.keep' [0] [] (sf := St.mk [(0, tp (V.vs [] 0))] []) (by kernel_rfl) ?_
  refine AWP.regionT tcok hmix [] [2] [5] (os := []) (s' := St.mk [(2, tp (V.sl 5 0 0))] [(5, Blk.mk [] true 0 (some (5, 1)))]) (by kernel_rfl) trivial ?_
  refine AWP.ret ?_
  refine ⟨Or.inr rfl, Eq.trans (b := some ([(5, Blk.mk [] true 0 (some (5, 1)))], V.sl 5 0 0)) (by kernel_rfl) ?_⟩
  rfl
theorem con_cln1 (l : List Int) (h0 : 0 < l.length) (hlen : l.length ≤ 140737488355328) : Con Try.prog 47 [] [.vs (u8s l) l.length] [(5, ⟨u8s l, true, 0, some (5, 1)⟩)] (.sl 5 0 l.length) := by
  refine Con.of (C := ⟨Try.prog, tc, Try.f47.ntmps⟩) [5] tcok Try.func47 rfl rfl (by kernel_rfl) (by kernel_rfl) ?_
  refine AWP.seq ?_
  refine AWP.regionT tcok hmix [] [0, 2] [2] (os := []) (s' := St.mk [(0, tp (B8 l)), (2, tp (V.sl 2 0 0))] [(2, Blk.mk [] true 0 (some (5, 1)))]) (by kernel_rfl) trivial ?_
  refine AWP.seq ?_
  refine xe1 (os := [(0 : Nat) < List.length l, vb false = vb false]) [(1, ⟨some (vb false), none⟩)] [0, 2, 4] [2] (by kernel_rfl) ⟨(by omega), rfl, trivial⟩ ?_
  refine AWP.condF (by kernel_rfl) ?_
  refine AWP.skip ?_
  refine AWP.seq ?_
  refine AWP.keep' [0] [] (sf := St.mk [(0, tp (B8 l))] []) (by kernel_rfl) ?_
  refine xg1 (os := [List.length l * (1 : Nat) ≤ List.length (u8s l), (0 : Nat) = (0 : Nat), (0 : Nat) + List.length l ≤ (9223372036854775807 : Nat), ((0 : Nat) + List.length l) * (1 : Nat) ≤ (140737488355328 : Nat), [] ++ List.take (List.length l * (1 : Nat)) (u8s l) = u8s l, (0 : Nat) + List.length l = List.length l]) [(2, ⟨some (V.tup [V.agg true (u8s l), V.sl 0 0 (List.length l)]), none⟩)] [2] [5] (by kernel_rfl) ⟨(by (simp [len_u8s]; done)), (by omega), (by omega), (by omega), (by first | rfl | (show u8s ([]) ++ _ = _; simp only [u8s_drop, u8s_take, List.drop_zero, Nat.mul_one, Nat.one_mul, u8s_app, List.take_length, List.nil_append, List.append_nil]; done) | (simp [u8s]; done) | (simp [u8s]; omega)), (by omega), trivial⟩ ?_
  refine AWP.ret ?_
  refine ⟨Or.inr rfl, Eq.trans (b := some ([(5, Blk.mk (u8s l) true 0 (some (5, 1)))], V.sl 5 0 (List.length l))) (by kernel_rfl) ?_⟩
  rfl
theorem con_cln2 (l : List Int) (n : Nat) (hn : l.length = n) (hlen : n ≤ 140737488355328) : Con Try.prog 47 [] [.vs (u8s l) n] [(5, ⟨u8s l, true, 0, some (5, 1)⟩)] (.sl 5 0 n) := by
  subst hn
  cases l with
  | nil => exact con_cln0
  | cons b l => exact con_cln1 _ (by simp) hlen
theorem con_cln (l : List Int) (n : Nat) (hn : l.length = n) (hlen : n ≤ 140737488355328) : Con Try.prog 47 [] [.vs (u8s l) n] [] (.vs (u8s l) n) := Con.frz1 (con_cln2 l n hn hlen)
theorem con_pins (L : List It) (n : Nat) (hn : L.length = n) (hm : n < 32) (hs : SortI L) (K : List Int) (off : Bool) (t id : Int) (c : List Int) (k : Nat) (hk : c.length = k) (hk2 : k ≤ 208) (hid : id ∉ K) (L' : List It) (hL : insI ⟨t, id, c, k⟩ L = L') (K' : List Int) (hK : K ++ [id] = K') :
    Con Try.prog 24 [(1000000000, ⟨rowsI L, true, 0, some (79, 3)⟩), (2000000010, ⟨[.sl 1000000000 0 n, .mp 2000000011, vb off], false, 3, none⟩), (2000000011, ⟨idsC K, true, 0, some (0, 0)⟩)] [.ptr 2000000010 0, u32 t, u16 id, .vs (u8s c) k]
      [(1000000000, ⟨rowsI L', true, 0, some (79, 3)⟩), (2000000010, ⟨[.sl 1000000000 0 (n + 1), .mp 2000000011, vb off], false, 3, none⟩), (2000000011, ⟨idsC K', true, 0, some (0, 0)⟩)] (i64 0) := by
  subst hL
  subst hK
  have hrl := rowsI_len L
  have wm1 := mget_ids id K false (decide_eq_false hid)
  have wm2 := mput_ids id K hid
  obtain ⟨b, c1⟩ := con_bs L n hn (by omega) t hs
  have c2 := con_cln c k hk (by omega)
  have hpl := posI_le t L
  have c3 := con_ins (rowsI L) (It.row ⟨t, id, c, k⟩) n (posI t L) (by omega) rfl (by omega) (by omega)
  rw [rowsI_ins ⟨t, id, c, k⟩ L] at c3
  simp only [It.row] at c3
  refine Con.of (C := ⟨Try.prog, tc, Try.f24.ntmps⟩) [1000000000, 2000000010, 2000000011] tcok Try.func24 rfl rfl (by kernel_rfl) (by kernel_rfl) ?_
  refine AWP.seq ?_
  refine AWP.regionT tcok hmix [] [0, 1, 2, 3, 8] [1000000000, 2000000010, 2000000011] (os := []) (s' := St.mk [(0, tp (V.ptr 2000000010 0)), (1, tp (u32 t)), (2, tp (u16 id)), (3, tp (V.vs (u8s c) k)), (8, tp (i64 0))] [(1000000000, Blk.mk (rowsI L) true 0 (some (79, 3))), (2000000010, Blk.mk [V.sl 1000000000 0 n, V.mp 2000000011, vb off] false 3 none), (2000000011, Blk.mk (idsC K) true 0 (some (0, 0)))]) (by kernel_rfl) trivial ?_
  refine AWP.seq ?_
  refine AWP.block ?_
  refine xe0 [0, 1, 2, 3, 8, 11] [1000000000, 2000000010, 2000000011] (by kernel_rfl) ?_
  refine AWP.condF (by kernel_rfl) ?_
  refine xe0 [0, 1, 2, 3, 8, 14] [1000000000, 2000000010, 2000000011] (by kernel_rfl) ?_
  refine AWP.cond (b := decide ((↑k : Int) > 208)) (by kernel_rfl) (fun hq2 => ?_) (fun hq2 => ?_)
  · simp only [decide_eq_true_eq] at hq2
    (exfalso; omega)
  simp only [decide_eq_false_iff_not] at hq2
  refine AWP.seq ?_
  refine AWP.regionT tcok hmix [(5, ⟨some (vb false), none⟩)] [0, 1, 2, 3, 8, 18] [1000000000, 2000000010, 2000000011] (os := [mget (Cx.mk Try.prog tc Try.f24.ntmps).tc (65 : TypeId) (vals1 ti_4.zero (isRow ti_4.desc)) false (Blk.mk (idsC K) true (0 : Nat) (some ((0 : Nat), (0 : Nat)))).cells (u16 id) = some (vb false)]) (s' := St.mk [(0, tp (V.ptr 2000000010 0)), (1, tp (u32 t)), (2, tp (u16 id)), (3, tp (V.vs (u8s c) k)), (8, tp (i64 0)), (18, tp (vb false))] [(1000000000, Blk.mk (rowsI L) true 0 (some (79, 3))), (2000000010, Blk.mk [V.sl 1000000000 0 n, V.mp 2000000011, vb off] false 3 none), (2000000011, Blk.mk (idsC K) true 0 (some (0, 0)))]) (by kernel_rfl) ⟨(wm1 ), trivial⟩ ?_
  refine AWP.condF (by kernel_rfl) ?_
  refine xe0 [0, 1, 2, 3, 8, 25] [1000000000, 2000000010, 2000000011] (by kernel_rfl) ?_
  refine AWP.cond (b := (↑n : Int) == 32) (by kernel_rfl) (fun hq4 => ?_) (fun hq4 => ?_)
  · simp only [beq_iff_eq] at hq4
    (exfalso; omega)
  simp only [beq_eq_false_iff_ne] at hq4
  refine AWP.skip ?_
  refine AWP.seq ?_
  refine AWP.regionT tcok hmix [(5, ⟨none, some ⟨V.tup [i64 (↑(posI t L) : Int), vb b], [], [(1000000000, true)]⟩⟩)] [0, 1, 2, 3, 8, 9] [1000000000, 2000000010, 2000000011] (os := [VO (V.tup [i64 (↑(posI t L) : Int), vb b]), VOH [], Con Try.prog 44 [] [V.vs (rowsI L) n, u32 t, V.val (Value.func (Fn.func 45) (Array.mk []) (Array.mk []))] [] (V.tup [i64 (↑(posI t L) : Int), vb b]), (0 : Nat) = (0 : Nat), n * (3 : Nat) = List.length (rowsI L)]) (s' := St.mk [(0, tp (V.ptr 2000000010 0)), (1, tp (u32 t)), (2, tp (u16 id)), (3, tp (V.vs (u8s c) k)), (8, tp (i64 0)), (9, tp (i64 (↑(posI t L) : Int)))] [(1000000000, Blk.mk (rowsI L) true 0 (some (79, 3))), (2000000010, Blk.mk [V.sl 1000000000 0 n, V.mp 2000000011, vb off] false 3 none), (2000000011, Blk.mk (idsC K) true 0 (some (0, 0)))]) (by kernel_rfl) ⟨(VO.tup (VOL.cons (VO.val _) (VOL.cons (VO.val _) VOL.nil))), trivial, (c1 ), (by omega), (by first | omega | (simp [len_u8s]; done) | (simp [len_u8s]; omega)), trivial⟩ ?_
  refine AWP.seq ?_
  refine AWP.regionA tcok hmix [0, 1, 5, 6, 7, 8, 2, 3, 4, 9, 10, 11, 12, 13, 14, 15] [0, 1, 6, 7, 8, 2, 3, 4, 5, 9, 10, 11, 12, 13, 14, 15] 6 (by kernel_rfl) (by kernel_rfl) (by kernel_rfl) (by kernel_rfl) [] [(3, ⟨none, some ⟨V.vs (u8s c) k, [], []⟩⟩), (6, ⟨some (V.tup [V.sl 1000000000 1000000000 0, V.sl 2000000000 52 0]), some ⟨V.sl 1000000000 0 (n + 1), [(1000000000, Blk.mk (rowsI (insI (It.mk t id c k) L)) true 0 (some (79, 3))), (2000000000, Blk.mk [u32 t, u16 id, V.vs (u8s c) k] true 0 (some (79, 3)))], []⟩⟩)] (os := []) (os2 := [Con Try.prog 47 [] [V.vs (u8s c) k] [] (V.vs (u8s c) k), Con Try.prog 46 [(1000000000, Blk.mk (rowsI L) true 0 (some (79, 3))), (2000000000, Blk.mk [u32 t, u16 id, V.vs (u8s c) k] true 0 (some (79, 3)))] [V.sl 1000000000 0 n, i64 (↑(posI t L) : Int), V.sl 2000000000 0 1] [(1000000000, Blk.mk (rowsI (insI (It.mk t id c k) L)) true 0 (some (79, 3))), (2000000000, Blk.mk [u32 t, u16 id, V.vs (u8s c) k] true 0 (some (79, 3)))] (V.sl 1000000000 0 (n + 1))]) (s1 := St.mk [(0, tp (V.ptr 2000000010 0)), (1, tp (u32 t)), (2, tp (u16 id)), (3, tp (V.vs (u8s c) k)), (8, tp (i64 0)), (9, tp (i64 (↑(posI t L) : Int))), (41, tp (V.ptr 2000000010 0)), (42, tp (V.ptr 2000000010 0)), (46, tp (i64 (↑(posI t L) : Int))), (47, tp (u32 t)), (48, tp (u16 id)), (49, tp (V.vs (u8s c) k))] [(1000000000, Blk.mk (rowsI L) true 0 (some (79, 3))), (2000000010, Blk.mk [V.sl 1000000000 0 n, V.mp 2000000011, vb off] false 3 none), (2000000011, Blk.mk (idsC K) true 0 (some (0, 0)))]) (sf := St.mk [(0, tp (V.ptr 2000000010 0)), (1, tp (u32 t)), (2, tp (u16 id)), (3, tp (V.vs (u8s c) k)), (8, tp (i64 0)), (9, tp (i64 (↑(posI t L) : Int))), (41, tp (V.ptr 2000000010 0)), (42, tp (V.ptr 2000000010 0)), (43, tp (V.ptr 2000000010 0)), (44, tp (V.ptr 2000000010 0)), (45, tp V.top), (46, tp (i64 (↑(posI t L) : Int))), (47, tp (u32 t)), (48, tp (u16 id)), (49, tp (V.vs (u8s c) k)), (50, tp (V.vs (u8s c) k)), (51, tp (V.agg true [u32 t, u16 id, V.vs (u8s c) k])), (52, tp (V.sl 52 0 1)), (53, tp (V.sl 1000000000 0 (n + 1))), (54, tp (V.ptr 2000000010 0)), (55, tp (V.ptr 2000000010 0))] [(52, Blk.mk [u32 t, u16 id, V.vs (u8s c) k] true 0 (some (79, 3))), (1000000000, Blk.mk (rowsI (insI (It.mk t id c k) L)) true 0 (some (79, 3))), (2000000010, Blk.mk [V.sl 1000000000 0 (n + 1), V.mp 2000000011, vb off] false 3 none), (2000000011, Blk.mk (idsC K) true 0 (some (0, 0)))]) (by kernel_rfl) (by kernel_rfl) trivial ⟨(c2 ), (c3 ), trivial⟩ ?_
  refine AWP.keep' [0, 2, 8] [1000000000, 2000000010, 2000000011] (sf := St.mk [(0, tp (V.ptr 2000000010 0)), (2, tp (u16 id)), (8, tp (i64 0))] [(1000000000, Blk.mk (rowsI (insI (It.mk t id c k) L)) true 0 (some (79, 3))), (2000000010, Blk.mk [V.sl 1000000000 0 (n + 1), V.mp 2000000011, vb off] false 3 none), (2000000011, Blk.mk (idsC K) true 0 (some (0, 0)))]) (by kernel_rfl) ?_
  refine xe1 (os := [mputR (Cx.mk Try.prog tc Try.f24.ntmps).tc (65 : TypeId) (Blk.mk (idsC K) true (0 : Nat) (some ((0 : Nat), (0 : Nat)))).cells (u16 id) (vb true) (idsC (K ++ [id]))]) [(5, ⟨some (V.agg true (idsC (K ++ [id]))), none⟩)] [8] [1000000000, 2000000010, 2000000011] (by kernel_rfl) ⟨(wm2 ), trivial⟩ ?_
  refine xe0 [8] [1000000000, 2000000010, 2000000011] (by kernel_rfl) ?_
  refine AWP.ret ?_
  refine ⟨Or.inr rfl, Eq.trans (b := some ([(1000000000, Blk.mk (rowsI (insI (It.mk t id c k) L)) true 0 (some (79, 3))), (2000000010, Blk.mk [V.sl 1000000000 0 (n + 1), V.mp 2000000011, vb off] false 3 none), (2000000011, Blk.mk (idsC (K ++ [id])) true 0 (some (0, 0)))], i64 0)) (by kernel_rfl) ?_⟩
  first | rfl | (exfalso; omega)
end Go.Proofs.Ytlfjnkobnkfioaa
