/- PlanShifts. -/
import Derived.Test.YtlfjnkobnkfioaaRg
import Derived.Test.YtlfjnkobnkfioaaPlnS
namespace Go.Proofs.Ytlfjnkobnkfioaa
open Go.Ab
set_option maxRecDepth 100000
set_option maxHeartbeats 8000000
set_option linter.unusedSimpArgs false
set_option linter.unusedVariables false
def u16sI (l : List Int) : List V := l.map fun n => u16 n
theorem u16sI_dr {l : List Int} {i : Nat} {x : Int} (h : l[i]? = some x) : List.drop (i * 1) (u16sI l) = u16 x :: u16sI (l.drop (i + 1)) := by
  obtain ⟨hi, rfl⟩ := List.getElem?_eq_some_iff.1 h
  unfold u16sI
  rw [Nat.mul_one, ← List.map_drop, List.drop_eq_getElem_cons hi]
  rfl
theorem rowsI_id {R : List It} {i : Nat} {a : It} (h : R[i]? = some a) : gI (rowsI R) (0 + i * 3 + 1) = u16 a.id := by
  have hd := rowsI_dr h
  have h0 := congrArg (fun l => l[1]?) hd
  simp only [List.getElem?_drop, List.getElem?_cons_succ, List.getElem?_cons_zero] at h0
  unfold gI
  rw [List.getD_eq_getElem?_getD, show 0 + i * 3 + 1 = i * 3 + 1 by omega, h0]
  rfl
def ShP (L : List It) : Prop := ∀ a ∈ L, 100000 ≤ a.t ∧ a.t ≤ 165535 ∧ a.c.length = a.k ∧ a.k ≤ 1000
theorem law_shifts (X : List Int) (m : Nat) (hm : X.length = m) (hmm : m ≤ 9223372036854775807) (hX : ∀ n ∈ X, 0 ≤ n ∧ n < 65536) (b fr to_ : Int) (hb : -32768 ≤ b ∧ b < 32768) (hf : 0 ≤ fr ∧ fr < 4294967296) (ht : 0 ≤ to_ ∧ to_ < 4294967296) : Con Try.prog 8 [] [.vs (u16sI X) m, .val (.int .i16 b), u32 fr, u32 to_] [] (vb true) := by
  refine Con.of (C := ⟨Try.prog, tc, Try.f8.ntmps⟩) [] tcok Try.func8 rfl rfl (by kernel_rfl) (by kernel_rfl) ?_
  refine AWP.seq ?_
  refine AWP.regionT tcok hmix [] [0, 1, 2, 3, 8] [] (os := []) (s' := St.mk [(0, tp (V.vs (u16sI X) m)), (1, tp (V.val (Value.int IntKind.i16 b))), (2, tp (u32 fr)), (3, tp (u32 to_)), (8, tp (vb false))] []) (by kernel_rfl) trivial ?_
  refine AWP.seq ?_
  refine xe1 [(0, ⟨none, some ⟨vb true, [], []⟩⟩)] [0, 1, 2, 3, 8, 23] [] (by kernel_rfl) (AllP.c (con_awake27 ) AllP.n) ?_
  refine AWP.condF (by kernel_rfl) ?_
  refine AWP.skip ?_
  refine xe1 [(0, ⟨none, some ⟨V.ptr 3 0, [(1, Blk.mk [] true 0 (some (0, 0))), (2, Blk.mk [] true 0 (some (79, 3))), (3, Blk.mk [V.sl 2 0 0, V.mp 1, vb false] false 3 none)], []⟩⟩)] [0, 1, 2, 3, 8, 9] [250003, 250002, 250001] (by kernel_rfl) (AllP.c (con_pnew ) AllP.n) ?_
  refine AWP.seq ?_
  refine xe0 [1, 2, 3, 8, 9, 25, 26, 27] [250003, 250002, 250001] (by kernel_rfl) ?_
  refine AWP.block ?_
  have hp0 : ShP [] := fun a h => by cases h
  refine AWP.loopI [27, 26, 25, 9, 1, 2, 3, 8] [250001, 250002, 250003] (fun N s' => ∃ (i : Int) (k : Nat) (L : List It) (K : List Int), s' = St.mk [(1, T.plain (V.val (Value.int IntKind.i16 b))), (2, T.plain (u32 fr)), (3, T.plain (u32 to_)), (8, T.plain (vb false)), (9, T.plain (V.ptr 250003 0)), (25, T.plain (V.vs (u16sI X) m)), (26, T.plain (i64 (m : Int))), (27, T.plain (i64 i))] [(250001, Blk.mk (idsC K) true 0 (some (0, 0))), (250002, Blk.mk (rowsI L) true 0 (some (79, 3))), (250003, Blk.mk [V.sl 250002 0 k, V.mp 250001, vb false] false 3 none)] ∧ 0 ≤ i ∧ i ≤ m ∧ k = min i.toNat 32 ∧ L.length = k ∧ SortI L ∧ ShP L ∧ K = idsR k ∧ (N : Int) = m - i) m (s0 := St.mk [(1, T.plain (V.val (Value.int IntKind.i16 b))), (2, T.plain (u32 fr)), (3, T.plain (u32 to_)), (8, T.plain (vb false)), (9, T.plain (V.ptr 250003 0)), (25, T.plain (V.vs (u16sI X) m)), (26, T.plain (i64 (m : Int))), (27, T.plain (i64 0))] [(250001, Blk.mk [] true 0 (some (0, 0))), (250002, Blk.mk [] true 0 (some (79, 3))), (250003, Blk.mk [V.sl 250002 0 0, V.mp 250001, vb false] false 3 none)]) (by kernel_rfl) ?_ ?_
  · exact ⟨0, 0, [], [], rfl, by omega, by omega, rfl, rfl, List.Pairwise.nil, hp0, rfl, by omega⟩
  rintro N s' ⟨i, k, L, K, rfl, hi, hi2, hk, hLl, hLs, hLp, hK, hN⟩
  by_cases hlt : i < m
  · obtain ⟨x, hx⟩ : ∃ x, X[i.toNat]? = some x := ⟨_, List.getElem?_eq_getElem (by omega)⟩
    have hd := u16sI_dr hx
    have hx2 := hX x (List.mem_of_getElem? hx)
    by_cases h32 : i < 32
    · obtain ⟨L', hL'⟩ : ∃ L', insI ⟨100000 + x, i, [i], 1⟩ L = L' := ⟨_, rfl⟩
      obtain ⟨K', hK'⟩ : ∃ K', K ++ [i] = K' := ⟨_, rfl⟩
      have hki : (k : Int) = i := by omega
      have c1 := con_pins L k hLl (by omega) hLs K false (100000 + x) i [i] 1 rfl (by omega) (by rw [hK, ← hki]; exact idsR_new k) L' hL' K' hK'
      have q1 : L'.length = k + 1 := by rw [← hL', insI_len, hLl]
      have q2 : SortI L' := by rw [← hL']; exact insI_sort _ _ hLs
      have q3 : ShP L' := by
        rw [← hL']
        intro a ha
        rcases insI_mem _ _ _ ha with rfl | ha
        · exact ⟨by show 100000 ≤ 100000 + x; omega, by show 100000 + x ≤ 165535; omega, rfl, by show 1 ≤ 1000; omega⟩
        · exact hLp a ha
      have q4 : K' = idsR (k + 1) := by rw [← hK', hK, ← hki]; exact idsR_next k
      refine AWP.seq ?_
      refine AWP.regionT tcok hmix [] [1, 2, 3, 8, 9, 25, 26, 27, 28] [250001, 250002, 250003] (os := []) (s' := St.mk [(1, tp (V.val (Value.int IntKind.i16 b))), (2, tp (u32 fr)), (3, tp (u32 to_)), (8, tp (vb false)), (9, tp (V.ptr 250003 0)), (25, tp (V.vs (u16sI X) m)), (26, tp (i64 (↑m : Int))), (27, tp (i64 i)), (28, tp (vb (decide (i < (↑m : Int)))))] [(250001, Blk.mk (idsC K) true 0 (some (0, 0))), (250002, Blk.mk (rowsI L) true 0 (some (79, 3))), (250003, Blk.mk [V.sl 250002 0 k, V.mp 250001, vb false] false 3 none)]) (by kernel_rfl) trivial ?_
      refine AWP.seq ?_
      refine AWP.cond (b := decide (i < (↑m : Int))) (by kernel_rfl) (fun hq1 => ?_) (fun hq1 => ?_)
      · simp only [decide_eq_true_eq] at hq1
        refine AWP.skip ?_
        refine AWP.seq ?_
        refine AWP.block ?_
        refine AWP.seq ?_
        refine AWP.regionT tcok hmix [(1, ⟨some (V.vp (u16 x :: u16sI (List.drop (Int.toNat i + 1) X))), none⟩)] [1, 2, 3, 8, 9, 10, 11, 25, 26, 27] [250003, 250002, 250001] (os := [(0 : Int) ≤ i ∧ i < (↑m : Int), V.vp (List.drop (Int.toNat i * 1) (u16sI X)) = V.vp (u16 x :: u16sI (List.drop (Int.toNat i + 1) X))]) (s' := St.mk [(1, tp (V.val (Value.int IntKind.i16 b))), (2, tp (u32 fr)), (3, tp (u32 to_)), (8, tp (vb false)), (9, tp (V.ptr 250003 0)), (10, tp (i64 i)), (11, tp (u16 x)), (25, tp (V.vs (u16sI X) m)), (26, tp (i64 (↑m : Int))), (27, tp (i64 i))] [(250001, Blk.mk (idsC K) true 0 (some (0, 0))), (250002, Blk.mk (rowsI L) true 0 (some (79, 3))), (250003, Blk.mk [V.sl 250002 0 k, V.mp 250001, vb false] false 3 none)]) (by kernel_rfl) ⟨(by omega), (congrArg V.vp hd), trivial⟩ ?_
        refine xe0 [1, 2, 3, 8, 9, 10, 11, 25, 26, 27, 33] [250003, 250002, 250001] (by kernel_rfl) ?_
        refine AWP.cond (b := decide (i < 32)) (by kernel_rfl) (fun hq2 => ?_) (fun hq2 => ?_)
        · simp only [decide_eq_true_eq] at hq2
          refine AWP.region tcok hmix [(2, ⟨some (u32 x), none⟩), (3, ⟨some (u32 (100000 + x)), none⟩), (5, ⟨some (u16 i), none⟩), (7, ⟨some (u8 i), none⟩), (8, ⟨some V.bo, none⟩), (9, ⟨some (V.tup [V.sl 1000000000 250002 0, V.sl 2000000010 250003 0, V.sl 2000000011 250001 0]), some ⟨i64 0, [(1000000000, Blk.mk (rowsI L') true 0 (some (79, 3))), (2000000010, Blk.mk [V.sl 1000000000 0 (k + 1), V.mp 2000000011, vb false] false 3 none), (2000000011, Blk.mk (idsC K') true 0 (some (0, 0)))], []⟩⟩)] (os := [u32 (IntKind.wrap IntKind.u32 x) = u32 x, u32 (IntKind.wrap IntKind.u32 (100000 + x)) = u32 (100000 + x), u16 (IntKind.wrap IntKind.u16 i) = u16 i, u8 (IntKind.wrap IntKind.u8 i) = u8 i, Con Try.prog 24 [(1000000000, Blk.mk (rowsI L) true 0 (some (79, 3))), (2000000010, Blk.mk [V.sl 1000000000 0 k, V.mp 2000000011, vb false] false 3 none), (2000000011, Blk.mk (idsC K) true 0 (some (0, 0)))] [V.ptr 2000000010 0, u32 (100000 + x), u16 i, V.vs [u8 i] 1] [(1000000000, Blk.mk (rowsI L') true 0 (some (79, 3))), (2000000010, Blk.mk [V.sl 1000000000 0 (k + 1), V.mp 2000000011, vb false] false 3 none), (2000000011, Blk.mk (idsC K') true 0 (some (0, 0)))] (i64 0)]) (sf := St.mk [(1, tp (V.val (Value.int IntKind.i16 b))), (2, tp (u32 fr)), (3, tp (u32 to_)), (8, tp (vb false)), (9, tp (V.ptr 250003 0)), (10, tp (i64 i)), (11, tp (u16 x)), (25, tp (V.vs (u16sI X) m)), (26, tp (i64 (↑m : Int))), (27, tp (i64 i)), (33, tp (vb (decide (i < 32)))), (34, tp (V.ptr 250003 0)), (35, tp (u16 x)), (36, tp (u32 x)), (37, tp (u32 (100000 + x))), (38, tp (i64 i)), (39, tp (u16 i)), (40, tp (i64 i)), (41, tp (u8 i)), (42, tp (V.vs [u8 i] 1)), (43, tp (i64 0))] [(250001, Blk.mk (idsC K') true 0 (some (0, 0))), (250002, Blk.mk (rowsI L') true 0 (some (79, 3))), (250003, Blk.mk [V.sl 250002 0 (k + 1), V.mp 250001, vb false] false 3 none)]) (by kernel_rfl) ⟨(wr_u32 (by omega) (by omega)), (wr_u32 (by omega) (by omega)), (wr_u16 (by omega) (by omega)), (wr_u8 (by omega) (by omega)), (c1 ), trivial⟩ ?_
          refine AWP.keep' [1, 2, 3, 8, 9, 25, 26, 27] [250003, 250002, 250001] (sf := St.mk [(1, tp (V.val (Value.int IntKind.i16 b))), (2, tp (u32 fr)), (3, tp (u32 to_)), (8, tp (vb false)), (9, tp (V.ptr 250003 0)), (25, tp (V.vs (u16sI X) m)), (26, tp (i64 (↑m : Int))), (27, tp (i64 i))] [(250001, Blk.mk (idsC K') true 0 (some (0, 0))), (250002, Blk.mk (rowsI L') true 0 (some (79, 3))), (250003, Blk.mk [V.sl 250002 0 (k + 1), V.mp 250001, vb false] false 3 none)]) (by kernel_rfl) ?_
          refine AWP.region tcok hmix [(0, ⟨some (i64 (i + 1)), none⟩)] (os := [i64 (IntKind.wrap IntKind.i64 (i + 1)) = i64 (i + 1)]) (sf := St.mk [(1, tp (V.val (Value.int IntKind.i16 b))), (2, tp (u32 fr)), (3, tp (u32 to_)), (8, tp (vb false)), (9, tp (V.ptr 250003 0)), (25, tp (V.vs (u16sI X) m)), (26, tp (i64 (↑m : Int))), (27, tp (i64 (i + 1))), (44, tp (i64 (i + 1)))] [(250001, Blk.mk (idsC K') true 0 (some (0, 0))), (250002, Blk.mk (rowsI L') true 0 (some (79, 3))), (250003, Blk.mk [V.sl 250002 0 (k + 1), V.mp 250001, vb false] false 3 none)]) (by kernel_rfl) ⟨(wr_i64 (by omega) (by omega)), trivial⟩ ?_
          refine ⟨St.mk [(1, tp (V.val (Value.int IntKind.i16 b))), (2, tp (u32 fr)), (3, tp (u32 to_)), (8, tp (vb false)), (9, tp (V.ptr 250003 0)), (25, tp (V.vs (u16sI X) m)), (26, tp (i64 (↑m : Int))), (27, tp (i64 (i + 1)))] [(250001, Blk.mk (idsC K') true 0 (some (0, 0))), (250002, Blk.mk (rowsI L') true 0 (some (79, 3))), (250003, Blk.mk [V.sl 250002 0 (k + 1), V.mp 250001, vb false] false 3 none)], by kernel_rfl, ?_⟩
          first | (exact ⟨(m - (i + 1)).toNat, (by omega), i + 1, k + 1, L', K', rfl, (by omega), (by omega), (by omega), q1, q2, q3, q4, (by omega)⟩) | (exfalso; omega)
        simp only [decide_eq_false_iff_not] at hq2
        (exfalso; omega)
      simp only [decide_eq_false_iff_not] at hq1
      (exfalso; omega)
    · refine AWP.seq ?_
      refine AWP.regionT tcok hmix [] [1, 2, 3, 8, 9, 25, 26, 27, 28] [250001, 250002, 250003] (os := []) (s' := St.mk [(1, tp (V.val (Value.int IntKind.i16 b))), (2, tp (u32 fr)), (3, tp (u32 to_)), (8, tp (vb false)), (9, tp (V.ptr 250003 0)), (25, tp (V.vs (u16sI X) m)), (26, tp (i64 (↑m : Int))), (27, tp (i64 i)), (28, tp (vb (decide (i < (↑m : Int)))))] [(250001, Blk.mk (idsC K) true 0 (some (0, 0))), (250002, Blk.mk (rowsI L) true 0 (some (79, 3))), (250003, Blk.mk [V.sl 250002 0 k, V.mp 250001, vb false] false 3 none)]) (by kernel_rfl) trivial ?_
      refine AWP.seq ?_
      refine AWP.cond (b := decide (i < (↑m : Int))) (by kernel_rfl) (fun hq3 => ?_) (fun hq3 => ?_)
      · simp only [decide_eq_true_eq] at hq3
        refine AWP.skip ?_
        refine AWP.seq ?_
        refine AWP.block ?_
        refine AWP.seq ?_
        refine AWP.regionT tcok hmix [(1, ⟨some (V.vp (u16 x :: u16sI (List.drop (Int.toNat i + 1) X))), none⟩)] [1, 2, 3, 8, 9, 10, 11, 25, 26, 27] [250003, 250002, 250001] (os := [(0 : Int) ≤ i ∧ i < (↑m : Int), V.vp (List.drop (Int.toNat i * 1) (u16sI X)) = V.vp (u16 x :: u16sI (List.drop (Int.toNat i + 1) X))]) (s' := St.mk [(1, tp (V.val (Value.int IntKind.i16 b))), (2, tp (u32 fr)), (3, tp (u32 to_)), (8, tp (vb false)), (9, tp (V.ptr 250003 0)), (10, tp (i64 i)), (11, tp (u16 x)), (25, tp (V.vs (u16sI X) m)), (26, tp (i64 (↑m : Int))), (27, tp (i64 i))] [(250001, Blk.mk (idsC K) true 0 (some (0, 0))), (250002, Blk.mk (rowsI L) true 0 (some (79, 3))), (250003, Blk.mk [V.sl 250002 0 k, V.mp 250001, vb false] false 3 none)]) (by kernel_rfl) ⟨(by omega), (congrArg V.vp hd), trivial⟩ ?_
        refine xe0 [1, 2, 3, 8, 9, 10, 11, 25, 26, 27, 33] [250003, 250002, 250001] (by kernel_rfl) ?_
        refine AWP.cond (b := decide (i < 32)) (by kernel_rfl) (fun hq4 => ?_) (fun hq4 => ?_)
        · simp only [decide_eq_true_eq] at hq4
          (exfalso; omega)
        simp only [decide_eq_false_iff_not] at hq4
        refine AWP.skip ?_
        refine AWP.region tcok hmix [(0, ⟨some (i64 (i + 1)), none⟩)] (os := [i64 (IntKind.wrap IntKind.i64 (i + 1)) = i64 (i + 1)]) (sf := St.mk [(1, tp (V.val (Value.int IntKind.i16 b))), (2, tp (u32 fr)), (3, tp (u32 to_)), (8, tp (vb false)), (9, tp (V.ptr 250003 0)), (10, tp (i64 i)), (11, tp (u16 x)), (25, tp (V.vs (u16sI X) m)), (26, tp (i64 (↑m : Int))), (27, tp (i64 (i + 1))), (33, tp (vb (decide (i < 32)))), (44, tp (i64 (i + 1)))] [(250001, Blk.mk (idsC K) true 0 (some (0, 0))), (250002, Blk.mk (rowsI L) true 0 (some (79, 3))), (250003, Blk.mk [V.sl 250002 0 k, V.mp 250001, vb false] false 3 none)]) (by kernel_rfl) ⟨(wr_i64 (by omega) (by omega)), trivial⟩ ?_
        refine ⟨St.mk [(1, tp (V.val (Value.int IntKind.i16 b))), (2, tp (u32 fr)), (3, tp (u32 to_)), (8, tp (vb false)), (9, tp (V.ptr 250003 0)), (25, tp (V.vs (u16sI X) m)), (26, tp (i64 (↑m : Int))), (27, tp (i64 (i + 1)))] [(250001, Blk.mk (idsC K) true 0 (some (0, 0))), (250002, Blk.mk (rowsI L) true 0 (some (79, 3))), (250003, Blk.mk [V.sl 250002 0 k, V.mp 250001, vb false] false 3 none)], by kernel_rfl, ?_⟩
        first | (exact ⟨(m - (i + 1)).toNat, (by omega), i + 1, k, L, K, rfl, (by omega), (by omega), (by omega), hLl, hLs, hLp, hK, (by omega)⟩) | (exfalso; omega)
      simp only [decide_eq_false_iff_not] at hq3
      (exfalso; omega)
  clear hN
  have hT : TcOk L := fun a ha => ⟨(hLp a ha).2.2.1, (hLp a ha).2.2.2⟩
  have hk32 : k ≤ 32 := by omega
  obtain ⟨M, hM⟩ : ∃ M, L.map (shI b) = M := ⟨_, rfl⟩
  have hMl : M.length = k := by rw [← hM, List.length_map, hLl]
  have hMt : TcOk M := by
    rw [← hM]
    intro a ha
    obtain ⟨y, hy, rfl⟩ := List.mem_map.1 ha
    exact hT y hy
  have hMb : M.map (shI (0 - b)) = L := by rw [← hM, show (0 : Int) - b = -b by omega]; exact sh_back b L fun a ha => by have := hLp a ha; omega
  have c1 := con_pall L k hLl (by omega) hT K false
  have c2 := con_pshift L k hLl (by omega) (fun a ha => by have := hLp a ha; omega) K false b (by omega) M hM
  have c3 := con_pall M k hMl (by omega) hMt K false
  have c4 := con_pshift M k hMl (by omega) (fun a ha => by
    rw [← hM] at ha
    obtain ⟨y, hy, rfl⟩ := List.mem_map.1 ha
    have := hLp y hy
    show 0 ≤ shT b y.t ∧ shT b y.t ≤ 4294967295
    unfold shT
    simp only [Int.min_def, Int.max_def]
    (repeat' split) <;> omega) K false (0 - b) (by omega) L hMb
  refine AWP.seq ?_
  refine AWP.regionT tcok hmix [] [1, 2, 3, 8, 9, 25, 26, 27, 28] [250001, 250002, 250003] (os := []) (s' := St.mk [(1, tp (V.val (Value.int IntKind.i16 b))), (2, tp (u32 fr)), (3, tp (u32 to_)), (8, tp (vb false)), (9, tp (V.ptr 250003 0)), (25, tp (V.vs (u16sI X) m)), (26, tp (i64 (↑m : Int))), (27, tp (i64 i)), (28, tp (vb (decide (i < (↑m : Int)))))] [(250001, Blk.mk (idsC K) true 0 (some (0, 0))), (250002, Blk.mk (rowsI L) true 0 (some (79, 3))), (250003, Blk.mk [V.sl 250002 0 k, V.mp 250001, vb false] false 3 none)]) (by kernel_rfl) trivial ?_
  refine AWP.seq ?_
  refine AWP.cond (b := decide (i < (↑m : Int))) (by kernel_rfl) (fun hq5 => ?_) (fun hq5 => ?_)
  · simp only [decide_eq_true_eq] at hq5
    (exfalso; omega)
  simp only [decide_eq_false_iff_not] at hq5
  refine AWP.exit ?_
  refine AWP.seq ?_
  refine AWP.regionT tcok hmix [(1, ⟨some (V.tup [V.sl 2000000000 250002 0, V.sl 2000000010 250003 0, V.sl 2000000011 250001 0]), some ⟨V.sl 100003 0 k, [(100003, Blk.mk (rowsI L) true 0 (some (79, 3))), (2000000000, Blk.mk (rowsI L) true 0 (some (79, 3))), (2000000010, Blk.mk [V.sl 2000000000 0 k, V.mp 2000000011, vb false] false 3 none), (2000000011, Blk.mk (idsC K) true 0 (some (0, 0)))], []⟩⟩)] [1, 2, 3, 8, 9, 12] [250003, 570003, 250002, 250001] (os := [Con Try.prog 30 [(2000000000, Blk.mk (rowsI L) true 0 (some (79, 3))), (2000000010, Blk.mk [V.sl 2000000000 0 k, V.mp 2000000011, vb false] false 3 none), (2000000011, Blk.mk (idsC K) true 0 (some (0, 0)))] [V.ptr 2000000010 0] [(100003, Blk.mk (rowsI L) true 0 (some (79, 3))), (2000000000, Blk.mk (rowsI L) true 0 (some (79, 3))), (2000000010, Blk.mk [V.sl 2000000000 0 k, V.mp 2000000011, vb false] false 3 none), (2000000011, Blk.mk (idsC K) true 0 (some (0, 0)))] (V.sl 100003 0 k)]) (s' := St.mk [(1, tp (V.val (Value.int IntKind.i16 b))), (2, tp (u32 fr)), (3, tp (u32 to_)), (8, tp (vb false)), (9, tp (V.ptr 250003 0)), (12, tp (V.sl 570003 0 k))] [(250001, Blk.mk (idsC K) true 0 (some (0, 0))), (250002, Blk.mk (rowsI L) true 0 (some (79, 3))), (250003, Blk.mk [V.sl 250002 0 k, V.mp 250001, vb false] false 3 none), (570003, Blk.mk (rowsI L) true 0 (some (79, 3)))]) (by kernel_rfl) ⟨(c1 ), trivial⟩ ?_
  refine xe1 (os := [i32 (IntKind.wrap IntKind.i32 b) = i32 b, Con Try.prog 31 [(2000000000, Blk.mk (rowsI L) true 0 (some (79, 3))), (2000000010, Blk.mk [V.sl 2000000000 0 k, V.mp 2000000011, vb false] false 3 none), (2000000011, Blk.mk (idsC K) true 0 (some (0, 0)))] [V.ptr 2000000010 0, i32 b] [(2000000000, Blk.mk (rowsI M) true 0 (some (79, 3))), (2000000010, Blk.mk [V.sl 2000000000 0 k, V.mp 2000000011, vb false] false 3 none), (2000000011, Blk.mk (idsC K) true 0 (some (0, 0)))] (i64 (↑k : Int))]) [(2, ⟨some (i32 b), none⟩), (3, ⟨some (V.tup [V.sl 2000000000 250002 0, V.sl 2000000010 250003 0, V.sl 2000000011 250001 0]), some ⟨i64 (↑k : Int), [(2000000000, Blk.mk (rowsI M) true 0 (some (79, 3))), (2000000010, Blk.mk [V.sl 2000000000 0 k, V.mp 2000000011, vb false] false 3 none), (2000000011, Blk.mk (idsC K) true 0 (some (0, 0)))], []⟩⟩)] [1, 2, 3, 8, 9, 12, 13] [250003, 570003, 250002, 250001] (by kernel_rfl) ⟨(wr_i32 (by omega) (by omega)), (c2 ), trivial⟩ ?_
  refine xe1 (os := [Con Try.prog 30 [(2000000000, Blk.mk (rowsI M) true 0 (some (79, 3))), (2000000010, Blk.mk [V.sl 2000000000 0 k, V.mp 2000000011, vb false] false 3 none), (2000000011, Blk.mk (idsC K) true 0 (some (0, 0)))] [V.ptr 2000000010 0] [(100003, Blk.mk (rowsI M) true 0 (some (79, 3))), (2000000000, Blk.mk (rowsI M) true 0 (some (79, 3))), (2000000010, Blk.mk [V.sl 2000000000 0 k, V.mp 2000000011, vb false] false 3 none), (2000000011, Blk.mk (idsC K) true 0 (some (0, 0)))] (V.sl 100003 0 k)]) [(1, ⟨some (V.tup [V.sl 2000000000 250002 0, V.sl 2000000010 250003 0, V.sl 2000000011 250001 0]), some ⟨V.sl 100003 0 k, [(100003, Blk.mk (rowsI M) true 0 (some (79, 3))), (2000000000, Blk.mk (rowsI M) true 0 (some (79, 3))), (2000000010, Blk.mk [V.sl 2000000000 0 k, V.mp 2000000011, vb false] false 3 none), (2000000011, Blk.mk (idsC K) true 0 (some (0, 0)))], []⟩⟩)] [1, 2, 3, 8, 9, 12, 13, 14] [250003, 570003, 630003, 250002, 250001] (by kernel_rfl) ⟨(c3 ), trivial⟩ ?_
  refine xe1 (os := [i32 (IntKind.wrap IntKind.i32 b) = i32 b, i32 (IntKind.wrap IntKind.i32 (0 - b)) = i32 (0 - b), Con Try.prog 31 [(2000000000, Blk.mk (rowsI M) true 0 (some (79, 3))), (2000000010, Blk.mk [V.sl 2000000000 0 k, V.mp 2000000011, vb false] false 3 none), (2000000011, Blk.mk (idsC K) true 0 (some (0, 0)))] [V.ptr 2000000010 0, i32 (0 - b)] [(2000000000, Blk.mk (rowsI L) true 0 (some (79, 3))), (2000000010, Blk.mk [V.sl 2000000000 0 k, V.mp 2000000011, vb false] false 3 none), (2000000011, Blk.mk (idsC K) true 0 (some (0, 0)))] (i64 (↑k : Int))]) [(2, ⟨some (i32 b), none⟩), (3, ⟨some (i32 (0 - b)), none⟩), (4, ⟨some (V.tup [V.sl 2000000000 250002 0, V.sl 2000000010 250003 0, V.sl 2000000011 250001 0]), some ⟨i64 (↑k : Int), [(2000000000, Blk.mk (rowsI L) true 0 (some (79, 3))), (2000000010, Blk.mk [V.sl 2000000000 0 k, V.mp 2000000011, vb false] false 3 none), (2000000011, Blk.mk (idsC K) true 0 (some (0, 0)))], []⟩⟩)] [1, 2, 3, 8, 9, 12, 13, 14, 15] [250003, 570003, 630003, 250002, 250001] (by kernel_rfl) ⟨(wr_i32 (by omega) (by omega)), (wr_i32 (by omega) (by omega)), (c4 ), trivial⟩ ?_
  refine xe1 (os := [Con Try.prog 30 [(2000000000, Blk.mk (rowsI L) true 0 (some (79, 3))), (2000000010, Blk.mk [V.sl 2000000000 0 k, V.mp 2000000011, vb false] false 3 none), (2000000011, Blk.mk (idsC K) true 0 (some (0, 0)))] [V.ptr 2000000010 0] [(100003, Blk.mk (rowsI L) true 0 (some (79, 3))), (2000000000, Blk.mk (rowsI L) true 0 (some (79, 3))), (2000000010, Blk.mk [V.sl 2000000000 0 k, V.mp 2000000011, vb false] false 3 none), (2000000011, Blk.mk (idsC K) true 0 (some (0, 0)))] (V.sl 100003 0 k)]) [(1, ⟨some (V.tup [V.sl 2000000000 250002 0, V.sl 2000000010 250003 0, V.sl 2000000011 250001 0]), some ⟨V.sl 100003 0 k, [(100003, Blk.mk (rowsI L) true 0 (some (79, 3))), (2000000000, Blk.mk (rowsI L) true 0 (some (79, 3))), (2000000010, Blk.mk [V.sl 2000000000 0 k, V.mp 2000000011, vb false] false 3 none), (2000000011, Blk.mk (idsC K) true 0 (some (0, 0)))], []⟩⟩)] [1, 2, 3, 8, 9, 12, 13, 14, 15, 16] [250003, 570003, 630003, 700003, 250002, 250001] (by kernel_rfl) ⟨(c1 ), trivial⟩ ?_
  refine AWP.seq ?_
  refine xe0 [1, 2, 3, 8, 9, 12, 14, 16, 75] [250003, 570003, 630003, 700003, 250002, 250001] (by kernel_rfl) ?_
  refine AWP.cond (b := (↑k : Int) != (↑k : Int) || (↑k : Int) != (↑k : Int) || (↑k : Int) != (↑k : Int)) (by kernel_rfl) (fun hq6 => ?_) (fun hq6 => ?_)
  · simp only [Bool.or_eq_true, bne_iff_ne] at hq6
    (exfalso; omega)
  simp only [Bool.or_eq_false_iff, bne_eq_false_iff_eq] at hq6
  refine AWP.skip ?_
  refine AWP.seq ?_
  refine AWP.seq ?_
  refine AWP.regionT tcok hmix [] [1, 2, 3, 8, 9, 12, 14, 16, 76, 77, 78] [250003, 570003, 630003, 700003, 250002, 250001] (os := []) (s' := St.mk [(1, tp (V.val (Value.int IntKind.i16 b))), (2, tp (u32 fr)), (3, tp (u32 to_)), (8, tp (vb false)), (9, tp (V.ptr 250003 0)), (12, tp (V.sl 570003 0 k)), (14, tp (V.sl 630003 0 k)), (16, tp (V.sl 700003 0 k)), (76, tp (V.sl 570003 0 k)), (77, tp (i64 (↑k : Int))), (78, tp (i64 0))] [(250001, Blk.mk (idsC K) true 0 (some (0, 0))), (250002, Blk.mk (rowsI L) true 0 (some (79, 3))), (250003, Blk.mk [V.sl 250002 0 k, V.mp 250001, vb false] false 3 none), (570003, Blk.mk (rowsI L) true 0 (some (79, 3))), (630003, Blk.mk (rowsI M) true 0 (some (79, 3))), (700003, Blk.mk (rowsI L) true 0 (some (79, 3)))]) (by kernel_rfl) trivial ?_
  refine AWP.block ?_
  have hrl := rowsI_len L
  have hrm := rowsI_len M
  refine AWP.loopI [78, 77, 76, 16, 14, 1, 2, 3, 9, 12, 8] [250001, 250002, 250003, 570003, 630003, 700003] (fun N s' => ∃ (i : Int), s' = St.mk [(1, T.plain (V.val (Value.int IntKind.i16 b))), (2, T.plain (u32 fr)), (3, T.plain (u32 to_)), (8, T.plain (vb false)), (9, T.plain (V.ptr 250003 0)), (12, T.plain (V.sl 570003 0 k)), (14, T.plain (V.sl 630003 0 k)), (16, T.plain (V.sl 700003 0 k)), (76, T.plain (V.sl 570003 0 k)), (77, T.plain (i64 (k : Int))), (78, T.plain (i64 i))] [(250001, Blk.mk (idsC K) true 0 (some (0, 0))), (250002, Blk.mk (rowsI L) true 0 (some (79, 3))), (250003, Blk.mk [V.sl 250002 0 k, V.mp 250001, vb false] false 3 none), (570003, Blk.mk (rowsI L) true 0 (some (79, 3))), (630003, Blk.mk (rowsI M) true 0 (some (79, 3))), (700003, Blk.mk (rowsI L) true 0 (some (79, 3)))] ∧ 0 ≤ i ∧ i ≤ k ∧ (N : Int) = k - i) k (s0 := St.mk [(1, T.plain (V.val (Value.int IntKind.i16 b))), (2, T.plain (u32 fr)), (3, T.plain (u32 to_)), (8, T.plain (vb false)), (9, T.plain (V.ptr 250003 0)), (12, T.plain (V.sl 570003 0 k)), (14, T.plain (V.sl 630003 0 k)), (16, T.plain (V.sl 700003 0 k)), (76, T.plain (V.sl 570003 0 k)), (77, T.plain (i64 (k : Int))), (78, T.plain (i64 0))] [(250001, Blk.mk (idsC K) true 0 (some (0, 0))), (250002, Blk.mk (rowsI L) true 0 (some (79, 3))), (250003, Blk.mk [V.sl 250002 0 k, V.mp 250001, vb false] false 3 none), (570003, Blk.mk (rowsI L) true 0 (some (79, 3))), (630003, Blk.mk (rowsI M) true 0 (some (79, 3))), (700003, Blk.mk (rowsI L) true 0 (some (79, 3)))]) (by kernel_rfl) ?_ ?_
  · exact ⟨0, rfl, by omega, by omega, by omega⟩
  clear hi hi2 hlt hk
  rintro N s' ⟨i, rfl, hi, hik, hN⟩
  by_cases hlt : i < k
  · obtain ⟨a, ha⟩ : ∃ a, L[i.toNat]? = some a := ⟨_, List.getElem?_eq_getElem (by omega)⟩
    have hap := hLp a (List.mem_of_getElem? ha)
    have ha2 : M[i.toNat]? = some (shI b a) := by rw [← hM, List.getElem?_map, ha]; rfl
    have e1 : shT b a.t = a.t + b := by
      unfold shT
      simp only [Int.min_def, Int.max_def]
      (repeat' split) <;> omega
    have wr := rowsI_at ha
    have wg1 := rowsI_t ha
    have wg2 := rowsI_id ha
    have wg3 : gI (rowsI M) (0 + i.toNat * 3 + 0) = u32 (a.t + b) := by rw [rowsI_t ha2]; show u32 (shT b a.t) = _; rw [e1]
    refine AWP.seq ?_
    refine AWP.regionT tcok hmix [] [1, 2, 3, 8, 9, 12, 14, 16, 76, 77, 78, 79] [250001, 250002, 250003, 570003, 630003, 700003] (os := []) (s' := St.mk [(1, tp (V.val (Value.int IntKind.i16 b))), (2, tp (u32 fr)), (3, tp (u32 to_)), (8, tp (vb false)), (9, tp (V.ptr 250003 0)), (12, tp (V.sl 570003 0 k)), (14, tp (V.sl 630003 0 k)), (16, tp (V.sl 700003 0 k)), (76, tp (V.sl 570003 0 k)), (77, tp (i64 (↑k : Int))), (78, tp (i64 i)), (79, tp (vb (decide (i < (↑k : Int)))))] [(250001, Blk.mk (idsC K) true 0 (some (0, 0))), (250002, Blk.mk (rowsI L) true 0 (some (79, 3))), (250003, Blk.mk [V.sl 250002 0 k, V.mp 250001, vb false] false 3 none), (570003, Blk.mk (rowsI L) true 0 (some (79, 3))), (630003, Blk.mk (rowsI M) true 0 (some (79, 3))), (700003, Blk.mk (rowsI L) true 0 (some (79, 3)))]) (by kernel_rfl) trivial ?_
    refine AWP.seq ?_
    refine AWP.cond (b := decide (i < (↑k : Int))) (by kernel_rfl) (fun hq7 => ?_) (fun hq7 => ?_)
    · simp only [decide_eq_true_eq] at hq7
      refine AWP.skip ?_
      refine AWP.seq ?_
      refine AWP.block ?_
      refine AWP.seq ?_
      refine AWP.regionT tcok hmix [(1, ⟨some (V.ptr 570003 (0 + Int.toNat i * 3)), none⟩), (2, ⟨some (V.agg true (It.row a)), none⟩)] [1, 2, 3, 8, 9, 12, 14, 16, 17, 18, 76, 77, 78] [250003, 570003, 630003, 700003, 18, 250002, 250001] (os := [(0 : Int) ≤ i ∧ i < (↑k : Int), V.ptr 570003 (0 + Int.toNat i * 3) = V.ptr 570003 (0 + Int.toNat i * 3), (0 : Nat) + Int.toNat i * (3 : Nat) + (3 : Nat) ≤ List.length (rowsI L), V.agg true (List.take 3 (List.drop (0 + Int.toNat i * 3) (rowsI L))) = V.agg true [u32 a.t, u16 a.id, V.vs (u8s a.c) a.k]]) (s' := St.mk [(1, tp (V.val (Value.int IntKind.i16 b))), (2, tp (u32 fr)), (3, tp (u32 to_)), (8, tp (vb false)), (9, tp (V.ptr 250003 0)), (12, tp (V.sl 570003 0 k)), (14, tp (V.sl 630003 0 k)), (16, tp (V.sl 700003 0 k)), (17, tp (i64 i)), (18, tp (V.ptr 18 0)), (76, tp (V.sl 570003 0 k)), (77, tp (i64 (↑k : Int))), (78, tp (i64 i))] [(18, Blk.mk [u32 a.t, u16 a.id, V.vs (u8s a.c) a.k] true 3 none), (250001, Blk.mk (idsC K) true 0 (some (0, 0))), (250002, Blk.mk (rowsI L) true 0 (some (79, 3))), (250003, Blk.mk [V.sl 250002 0 k, V.mp 250001, vb false] false 3 none), (570003, Blk.mk (rowsI L) true 0 (some (79, 3))), (630003, Blk.mk (rowsI M) true 0 (some (79, 3))), (700003, Blk.mk (rowsI L) true 0 (some (79, 3)))]) (by kernel_rfl) ⟨(by omega), rfl, (by first | omega | (simp [len_u8s]; done) | (simp [len_u8s]; omega)), (congrArg (V.agg true) (wr )), trivial⟩ ?_
      refine xe1 (os := [(0 : Int) ≤ i ∧ i < (↑k : Int), V.ptr 700003 (0 + Int.toNat i * 3) = V.ptr 700003 (0 + Int.toNat i * 3), (0 : Nat) + Int.toNat i * (3 : Nat) + (0 : Nat) + (1 : Nat) ≤ List.length (rowsI L), part_ true (isRow (TypeDesc.int IntKind.u32)) (rowsI L) (0 + Int.toNat i * 3 + 0) 1 = u32 a.t, (a.t != a.t) = false → ((0 : Int) ≤ i ∧ i < (↑k : Int)) ∧ V.ptr (700003 : Nat) ((0 : Nat) + Int.toNat i * (3 : Nat)) = V.ptr (700003 : Nat) ((0 : Nat) + Int.toNat i * (3 : Nat)) ∧ True, (a.t != a.t) = false → (0 : Nat) + Int.toNat i * (3 : Nat) + (1 : Nat) + (1 : Nat) ≤ List.length (rowsI L) ∧ part_ true (isRow (TypeDesc.int IntKind.u16)) (rowsI L) ((0 : Nat) + Int.toNat i * (3 : Nat) + (1 : Nat)) (1 : Nat) = u16 a.id ∧ True, (a.t != a.t || a.id != a.id) = false → ((0 : Int) ≤ i ∧ i < (↑k : Int)) ∧ V.ptr (630003 : Nat) ((0 : Nat) + Int.toNat i * (3 : Nat)) = V.ptr (630003 : Nat) ((0 : Nat) + Int.toNat i * (3 : Nat)) ∧ True, (a.t != a.t || a.id != a.id) = false → (0 : Nat) + Int.toNat i * (3 : Nat) + (0 : Nat) + (1 : Nat) ≤ List.length (rowsI M) ∧ part_ true (isRow (TypeDesc.int IntKind.u32)) (rowsI M) ((0 : Nat) + Int.toNat i * (3 : Nat) + (0 : Nat)) (1 : Nat) = u32 (a.t + b) ∧ True, (a.t != a.t || a.id != a.id) = false → i64 (IntKind.wrap IntKind.i64 (a.t + b)) = i64 (a.t + b) ∧ True, (a.t != a.t || a.id != a.id) = false → i64 (IntKind.wrap IntKind.i64 a.t) = i64 a.t ∧ True, (a.t != a.t || a.id != a.id) = false → i64 (IntKind.wrap IntKind.i64 b) = i64 b ∧ True, (a.t != a.t || a.id != a.id) = false → i64 (IntKind.wrap IntKind.i64 (a.t + b)) = i64 (a.t + b) ∧ True]) [(2, ⟨some (V.ptr 700003 (0 + Int.toNat i * 3)), none⟩), (4, ⟨some (u32 a.t), none⟩), (11, ⟨some (V.ptr 700003 (0 + Int.toNat i * 3)), none⟩), (13, ⟨some (u16 a.id), none⟩), (21, ⟨some (V.ptr 630003 (0 + Int.toNat i * 3)), none⟩), (23, ⟨some (u32 (a.t + b)), none⟩), (24, ⟨some (i64 (a.t + b)), none⟩), (27, ⟨some (i64 a.t), none⟩), (29, ⟨some (i64 b), none⟩), (30, ⟨some (i64 (a.t + b)), none⟩)] [1, 2, 3, 8, 9, 12, 14, 16, 76, 77, 78, 115] [250003, 570003, 630003, 700003, 250002, 250001] (by kernel_rfl) ⟨(by omega), rfl, (by first | omega | (simp [len_u8s]; done) | (simp [len_u8s]; omega)), (wg1 ), (by intro hc0; first | (cases hc0; done) | ((try simp only [Bool.or_false, Bool.false_or, Bool.true_and, Bool.and_true, decide_eq_true_eq, decide_eq_false_iff_not, Bool.and_eq_true, Bool.or_eq_true, Bool.or_eq_false_iff, Bool.not_eq_true', Bool.and_eq_false_iff, beq_iff_eq, bne_iff_ne, bne_eq_false_iff_eq, beq_eq_false_iff_ne, Bool.not_eq_false'] at hc0); exact ⟨(by omega), rfl, trivial⟩)), (by intro hc0; first | (cases hc0; done) | ((try simp only [Bool.or_false, Bool.false_or, Bool.true_and, Bool.and_true, decide_eq_true_eq, decide_eq_false_iff_not, Bool.and_eq_true, Bool.or_eq_true, Bool.or_eq_false_iff, Bool.not_eq_true', Bool.and_eq_false_iff, beq_iff_eq, bne_iff_ne, bne_eq_false_iff_eq, beq_eq_false_iff_ne, Bool.not_eq_false'] at hc0); exact ⟨(by first | omega | (simp [len_u8s]; done) | (simp [len_u8s]; omega)), (wg2 ), trivial⟩)), (by intro hc0; first | (cases hc0; done) | ((try simp only [Bool.or_false, Bool.false_or, Bool.true_and, Bool.and_true, decide_eq_true_eq, decide_eq_false_iff_not, Bool.and_eq_true, Bool.or_eq_true, Bool.or_eq_false_iff, Bool.not_eq_true', Bool.and_eq_false_iff, beq_iff_eq, bne_iff_ne, bne_eq_false_iff_eq, beq_eq_false_iff_ne, Bool.not_eq_false'] at hc0); exact ⟨(by omega), rfl, trivial⟩)), (by intro hc0; first | (cases hc0; done) | ((try simp only [Bool.or_false, Bool.false_or, Bool.true_and, Bool.and_true, decide_eq_true_eq, decide_eq_false_iff_not, Bool.and_eq_true, Bool.or_eq_true, Bool.or_eq_false_iff, Bool.not_eq_true', Bool.and_eq_false_iff, beq_iff_eq, bne_iff_ne, bne_eq_false_iff_eq, beq_eq_false_iff_ne, Bool.not_eq_false'] at hc0); exact ⟨(by first | omega | (simp [len_u8s]; done) | (simp [len_u8s]; omega)), (wg3 ), trivial⟩)), (by intro hc0; first | (cases hc0; done) | ((try simp only [Bool.or_false, Bool.false_or, Bool.true_and, Bool.and_true, decide_eq_true_eq, decide_eq_false_iff_not, Bool.and_eq_true, Bool.or_eq_true, Bool.or_eq_false_iff, Bool.not_eq_true', Bool.and_eq_false_iff, beq_iff_eq, bne_iff_ne, bne_eq_false_iff_eq, beq_eq_false_iff_ne, Bool.not_eq_false'] at hc0); exact ⟨(wr_i64 (by omega) (by omega)), trivial⟩)), (by intro hc0; first | (cases hc0; done) | ((try simp only [Bool.or_false, Bool.false_or, Bool.true_and, Bool.and_true, decide_eq_true_eq, decide_eq_false_iff_not, Bool.and_eq_true, Bool.or_eq_true, Bool.or_eq_false_iff, Bool.not_eq_true', Bool.and_eq_false_iff, beq_iff_eq, bne_iff_ne, bne_eq_false_iff_eq, beq_eq_false_iff_ne, Bool.not_eq_false'] at hc0); exact ⟨(wr_i64 (by omega) (by omega)), trivial⟩)), (by intro hc0; first | (cases hc0; done) | ((try simp only [Bool.or_false, Bool.false_or, Bool.true_and, Bool.and_true, decide_eq_true_eq, decide_eq_false_iff_not, Bool.and_eq_true, Bool.or_eq_true, Bool.or_eq_false_iff, Bool.not_eq_true', Bool.and_eq_false_iff, beq_iff_eq, bne_iff_ne, bne_eq_false_iff_eq, beq_eq_false_iff_ne, Bool.not_eq_false'] at hc0); exact ⟨(wr_i64 (by omega) (by omega)), trivial⟩)), (by intro hc0; first | (cases hc0; done) | ((try simp only [Bool.or_false, Bool.false_or, Bool.true_and, Bool.and_true, decide_eq_true_eq, decide_eq_false_iff_not, Bool.and_eq_true, Bool.or_eq_true, Bool.or_eq_false_iff, Bool.not_eq_true', Bool.and_eq_false_iff, beq_iff_eq, bne_iff_ne, bne_eq_false_iff_eq, beq_eq_false_iff_ne, Bool.not_eq_false'] at hc0); exact ⟨(wr_i64 (by omega) (by omega)), trivial⟩)), trivial⟩ ?_
      refine AWP.cond (b := a.t != a.t || a.id != a.id || a.t + b != a.t + b) (by kernel_rfl) (fun hq8 => ?_) (fun hq8 => ?_)
      · simp only [Bool.or_eq_true, bne_iff_ne] at hq8
        (exfalso; omega)
      simp only [Bool.or_eq_false_iff, bne_eq_false_iff_eq] at hq8
      refine AWP.skip ?_
      refine AWP.region tcok hmix [(0, ⟨some (i64 (i + 1)), none⟩)] (os := [i64 (IntKind.wrap IntKind.i64 (i + 1)) = i64 (i + 1)]) (sf := St.mk [(1, tp (V.val (Value.int IntKind.i16 b))), (2, tp (u32 fr)), (3, tp (u32 to_)), (8, tp (vb false)), (9, tp (V.ptr 250003 0)), (12, tp (V.sl 570003 0 k)), (14, tp (V.sl 630003 0 k)), (16, tp (V.sl 700003 0 k)), (76, tp (V.sl 570003 0 k)), (77, tp (i64 (↑k : Int))), (78, tp (i64 (i + 1))), (115, tp (vb (a.t != a.t || a.id != a.id || a.t + b != a.t + b))), (116, tp (i64 (i + 1)))] [(250001, Blk.mk (idsC K) true 0 (some (0, 0))), (250002, Blk.mk (rowsI L) true 0 (some (79, 3))), (250003, Blk.mk [V.sl 250002 0 k, V.mp 250001, vb false] false 3 none), (570003, Blk.mk (rowsI L) true 0 (some (79, 3))), (630003, Blk.mk (rowsI M) true 0 (some (79, 3))), (700003, Blk.mk (rowsI L) true 0 (some (79, 3)))]) (by kernel_rfl) ⟨(wr_i64 (by omega) (by omega)), trivial⟩ ?_
      refine ⟨St.mk [(1, tp (V.val (Value.int IntKind.i16 b))), (2, tp (u32 fr)), (3, tp (u32 to_)), (8, tp (vb false)), (9, tp (V.ptr 250003 0)), (12, tp (V.sl 570003 0 k)), (14, tp (V.sl 630003 0 k)), (16, tp (V.sl 700003 0 k)), (76, tp (V.sl 570003 0 k)), (77, tp (i64 (↑k : Int))), (78, tp (i64 (i + 1)))] [(250001, Blk.mk (idsC K) true 0 (some (0, 0))), (250002, Blk.mk (rowsI L) true 0 (some (79, 3))), (250003, Blk.mk [V.sl 250002 0 k, V.mp 250001, vb false] false 3 none), (570003, Blk.mk (rowsI L) true 0 (some (79, 3))), (630003, Blk.mk (rowsI M) true 0 (some (79, 3))), (700003, Blk.mk (rowsI L) true 0 (some (79, 3)))], by kernel_rfl, ?_⟩
      first | (exact ⟨(k - (i + 1)).toNat, (by omega), i + 1, rfl, (by omega), (by omega), (by omega)⟩) | (exfalso; simp at hq8; done) | (exfalso; omega)
    simp only [decide_eq_false_iff_not] at hq7
    (exfalso; omega)
  have hik2 : i = k := by omega
  subst hik2
  clear hN hlt hi hik
  obtain ⟨L5, hL5⟩ : ∃ L5, keepP (pBt (fr % 200000) (to_ % 200000)) L = L5 := ⟨_, rfl⟩
  obtain ⟨n5, hn5⟩ : ∃ n5, L5.length = n5 := ⟨_, rfl⟩
  have c5 := con_pbtw L k hLl (by omega) hT K false (fr % 200000) (to_ % 200000) L5 hL5 n5 hn5
  by_cases hft : to_ % 200000 < fr % 200000
  · have h5 := btw_none (fr % 200000) (to_ % 200000) hft L
    rw [hL5] at h5
    subst h5
    have hn0 : n5 = 0 := hn5.symm
    subst hn0
    refine AWP.seq ?_
    refine AWP.regionT tcok hmix [] [1, 2, 3, 8, 9, 12, 14, 16, 76, 77, 78, 79] [250001, 250002, 250003, 570003, 630003, 700003] (os := []) (s' := St.mk [(1, tp (V.val (Value.int IntKind.i16 b))), (2, tp (u32 fr)), (3, tp (u32 to_)), (8, tp (vb false)), (9, tp (V.ptr 250003 0)), (12, tp (V.sl 570003 0 k)), (14, tp (V.sl 630003 0 k)), (16, tp (V.sl 700003 0 k)), (76, tp (V.sl 570003 0 k)), (77, tp (i64 (↑k : Int))), (78, tp (i64 (↑k : Int))), (79, tp (vb (decide ((↑k : Int) < (↑k : Int)))))] [(250001, Blk.mk (idsC K) true 0 (some (0, 0))), (250002, Blk.mk (rowsI L) true 0 (some (79, 3))), (250003, Blk.mk [V.sl 250002 0 k, V.mp 250001, vb false] false 3 none), (570003, Blk.mk (rowsI L) true 0 (some (79, 3))), (630003, Blk.mk (rowsI M) true 0 (some (79, 3))), (700003, Blk.mk (rowsI L) true 0 (some (79, 3)))]) (by kernel_rfl) trivial ?_
    refine AWP.seq ?_
    refine AWP.cond (b := decide ((↑k : Int) < (↑k : Int))) (by kernel_rfl) (fun hq9 => ?_) (fun hq9 => ?_)
    · simp only [decide_eq_true_eq] at hq9
      (exfalso; omega)
    simp only [decide_eq_false_iff_not] at hq9
    refine AWP.exit ?_
    refine AWP.seq ?_
    refine AWP.regionT tcok hmix [(1, ⟨some (u32 (fr % 200000)), none⟩), (3, ⟨some (u32 (to_ % 200000)), none⟩)] [2, 3, 8, 9, 12] [250003, 570003, 250002, 250001] (os := [(200000 : Int) ≠ (0 : Int), u32 (Int.tmod fr 200000) = u32 (fr % 200000), (200000 : Int) ≠ (0 : Int), u32 (Int.tmod to_ 200000) = u32 (to_ % 200000)]) (s' := St.mk [(2, tp (u32 (fr % 200000))), (3, tp (u32 (to_ % 200000))), (8, tp (vb false)), (9, tp (V.ptr 250003 0)), (12, tp (V.sl 570003 0 k))] [(250001, Blk.mk (idsC K) true 0 (some (0, 0))), (250002, Blk.mk (rowsI L) true 0 (some (79, 3))), (250003, Blk.mk [V.sl 250002 0 k, V.mp 250001, vb false] false 3 none), (570003, Blk.mk (rowsI L) true 0 (some (79, 3)))]) (by kernel_rfl) ⟨(by omega), (tm_ (by omega)), (by omega), (tm_ (by omega)), trivial⟩ ?_
    refine xe1 (os := [Con Try.prog 32 [(2000000000, Blk.mk (rowsI L) true 0 (some (79, 3))), (2000000010, Blk.mk [V.sl 2000000000 0 k, V.mp 2000000011, vb false] false 3 none), (2000000011, Blk.mk (idsC K) true 0 (some (0, 0)))] [V.ptr 2000000010 0, u32 (fr % 200000), u32 (to_ % 200000)] [(190003, Blk.mk [] true 0 (some (79, 3))), (2000000000, Blk.mk (rowsI L) true 0 (some (79, 3))), (2000000010, Blk.mk [V.sl 2000000000 0 k, V.mp 2000000011, vb false] false 3 none), (2000000011, Blk.mk (idsC K) true 0 (some (0, 0)))] (V.sl 190003 0 0)]) [(3, ⟨some (V.tup [V.sl 2000000000 250002 0, V.sl 2000000010 250003 0, V.sl 2000000011 250001 0]), some ⟨V.sl 190003 0 0, [(190003, Blk.mk (rowsI []) true 0 (some (79, 3))), (2000000000, Blk.mk (rowsI L) true 0 (some (79, 3))), (2000000010, Blk.mk [V.sl 2000000000 0 k, V.mp 2000000011, vb false] false 3 none), (2000000011, Blk.mk (idsC K) true 0 (some (0, 0)))], []⟩⟩)] [2, 3, 8, 9, 12, 19] [250003, 570003, 1440003, 250002, 250001] (by kernel_rfl) ⟨(c5 ), trivial⟩ ?_
    refine AWP.seq ?_
    refine xe0 [2, 3, 8, 9, 12, 19, 127] [250003, 570003, 1440003, 250002, 250001] (by kernel_rfl) ?_
    refine AWP.cond (b := decide (fr % 200000 > to_ % 200000)) (by kernel_rfl) (fun hq10 => ?_) (fun hq10 => ?_)
    · simp only [decide_eq_true_eq] at hq10
      refine AWP.seq ?_
      refine AWP.regionT tcok hmix [] [2, 3, 8, 9, 12, 19] [250003, 570003, 1440003, 250002, 250001] (os := []) (s' := St.mk [(2, tp (u32 (fr % 200000))), (3, tp (u32 (to_ % 200000))), (8, tp (vb true)), (9, tp (V.ptr 250003 0)), (12, tp (V.sl 570003 0 k)), (19, tp (V.sl 1440003 0 0))] [(250001, Blk.mk (idsC K) true 0 (some (0, 0))), (250002, Blk.mk (rowsI L) true 0 (some (79, 3))), (250003, Blk.mk [V.sl 250002 0 k, V.mp 250001, vb false] false 3 none), (570003, Blk.mk (rowsI L) true 0 (some (79, 3))), (1440003, Blk.mk [] true 0 (some (79, 3)))]) (by kernel_rfl) trivial ?_
      refine AWP.ret ?_
      refine ⟨Or.inr rfl, Eq.trans (b := some ([], vb true)) (by kernel_rfl) ?_⟩
      first | rfl | (exfalso; omega)
    simp only [decide_eq_false_iff_not] at hq10
    (exfalso; omega)
  have hbl := btw_len (fr % 200000) (to_ % 200000) (by omega) L hLs
  rw [hL5, hn5] at hbl
  by_cases hf0 : 0 < fr % 200000
  · obtain ⟨e1, he1⟩ : ∃ e1, posI (fr % 200000 - 1) L = e1 := ⟨_, rfl⟩
    rw [he1] at hbl
    have hle := posI_le (fr % 200000 - 1) L
    rw [he1, hLl] at hle
    obtain ⟨L6, hL6⟩ : ∃ L6, L.drop e1 = L6 := ⟨_, rfl⟩
    obtain ⟨K6, hK6⟩ : ∃ K6, eraI K (L.take e1) = K6 := ⟨_, rfl⟩
    obtain ⟨n6, hn6⟩ : ∃ n6, k - e1 = n6 := ⟨_, rfl⟩
    have hl6 : L6.length = n6 := by rw [← hL6, List.length_drop, hLl, hn6]
    have c6 := con_due L k hLl (by omega) K (fr % 200000 - 1) e1 he1 n6 hn6 L6 hL6 K6 hK6
    obtain ⟨p2, hp2⟩ : ∃ p2, posI (to_ % 200000) L6 = p2 := ⟨_, rfl⟩
    obtain ⟨L7, hL7⟩ : ∃ L7, L6.drop p2 = L7 := ⟨_, rfl⟩
    obtain ⟨K7, hK7⟩ : ∃ K7, eraI K6 (L6.take p2) = K7 := ⟨_, rfl⟩
    obtain ⟨n7, hn7⟩ : ∃ n7, n6 - p2 = n7 := ⟨_, rfl⟩
    have hle2 := posI_le (to_ % 200000) L6
    rw [hp2, hl6] at hle2
    have c7 := con_due L6 n6 hl6 (by omega) K6 (to_ % 200000) p2 hp2 n7 hn7 L7 hL7 K7 hK7
    have c8 := con_plen L7 n7 K7 false
    have hmo := posI_mono (s := fr % 200000 - 1) (t := to_ % 200000) (by omega) L
    rw [he1] at hmo
    have hdr := posI_drop (to_ % 200000) L e1 hmo
    rw [hL6, hp2] at hdr
    have h25 : p2 = n5 := by omega
    have wb : ((p2 : Int) == (n5 : Int)) = true := by rw [h25]; exact beq_self_eq_true _
    have hsum : ((e1 : Int) + (p2 : Int) + (n7 : Int) == (k : Int)) = true := beq_iff_eq.2 (by omega)
    refine AWP.seq ?_
    refine AWP.regionT tcok hmix [] [1, 2, 3, 8, 9, 12, 14, 16, 76, 77, 78, 79] [250001, 250002, 250003, 570003, 630003, 700003] (os := []) (s' := St.mk [(1, tp (V.val (Value.int IntKind.i16 b))), (2, tp (u32 fr)), (3, tp (u32 to_)), (8, tp (vb false)), (9, tp (V.ptr 250003 0)), (12, tp (V.sl 570003 0 k)), (14, tp (V.sl 630003 0 k)), (16, tp (V.sl 700003 0 k)), (76, tp (V.sl 570003 0 k)), (77, tp (i64 (↑k : Int))), (78, tp (i64 (↑k : Int))), (79, tp (vb (decide ((↑k : Int) < (↑k : Int)))))] [(250001, Blk.mk (idsC K) true 0 (some (0, 0))), (250002, Blk.mk (rowsI L) true 0 (some (79, 3))), (250003, Blk.mk [V.sl 250002 0 k, V.mp 250001, vb false] false 3 none), (570003, Blk.mk (rowsI L) true 0 (some (79, 3))), (630003, Blk.mk (rowsI M) true 0 (some (79, 3))), (700003, Blk.mk (rowsI L) true 0 (some (79, 3)))]) (by kernel_rfl) trivial ?_
    refine AWP.seq ?_
    refine AWP.cond (b := decide ((↑k : Int) < (↑k : Int))) (by kernel_rfl) (fun hq11 => ?_) (fun hq11 => ?_)
    · simp only [decide_eq_true_eq] at hq11
      (exfalso; omega)
    simp only [decide_eq_false_iff_not] at hq11
    refine AWP.exit ?_
    refine AWP.seq ?_
    refine AWP.regionT tcok hmix [(1, ⟨some (u32 (fr % 200000)), none⟩), (3, ⟨some (u32 (to_ % 200000)), none⟩)] [2, 3, 8, 9, 12] [250003, 570003, 250002, 250001] (os := [(200000 : Int) ≠ (0 : Int), u32 (Int.tmod fr 200000) = u32 (fr % 200000), (200000 : Int) ≠ (0 : Int), u32 (Int.tmod to_ 200000) = u32 (to_ % 200000)]) (s' := St.mk [(2, tp (u32 (fr % 200000))), (3, tp (u32 (to_ % 200000))), (8, tp (vb false)), (9, tp (V.ptr 250003 0)), (12, tp (V.sl 570003 0 k))] [(250001, Blk.mk (idsC K) true 0 (some (0, 0))), (250002, Blk.mk (rowsI L) true 0 (some (79, 3))), (250003, Blk.mk [V.sl 250002 0 k, V.mp 250001, vb false] false 3 none), (570003, Blk.mk (rowsI L) true 0 (some (79, 3)))]) (by kernel_rfl) ⟨(by omega), (tm_ (by omega)), (by omega), (tm_ (by omega)), trivial⟩ ?_
    refine xe1 (os := [Con Try.prog 32 [(2000000000, Blk.mk (rowsI L) true 0 (some (79, 3))), (2000000010, Blk.mk [V.sl 2000000000 0 k, V.mp 2000000011, vb false] false 3 none), (2000000011, Blk.mk (idsC K) true 0 (some (0, 0)))] [V.ptr 2000000010 0, u32 (fr % 200000), u32 (to_ % 200000)] [(190003, Blk.mk (rowsI L5) true 0 (some (79, 3))), (2000000000, Blk.mk (rowsI L) true 0 (some (79, 3))), (2000000010, Blk.mk [V.sl 2000000000 0 k, V.mp 2000000011, vb false] false 3 none), (2000000011, Blk.mk (idsC K) true 0 (some (0, 0)))] (V.sl 190003 0 n5)]) [(3, ⟨some (V.tup [V.sl 2000000000 250002 0, V.sl 2000000010 250003 0, V.sl 2000000011 250001 0]), some ⟨V.sl 190003 0 n5, [(190003, Blk.mk (rowsI L5) true 0 (some (79, 3))), (2000000000, Blk.mk (rowsI L) true 0 (some (79, 3))), (2000000010, Blk.mk [V.sl 2000000000 0 k, V.mp 2000000011, vb false] false 3 none), (2000000011, Blk.mk (idsC K) true 0 (some (0, 0)))], []⟩⟩)] [2, 3, 8, 9, 12, 19] [250003, 570003, 1440003, 250002, 250001] (by kernel_rfl) ⟨(c5 ), trivial⟩ ?_
    refine AWP.seq ?_
    refine xe0 [2, 3, 8, 9, 12, 19, 127] [250003, 570003, 1440003, 250002, 250001] (by kernel_rfl) ?_
    refine AWP.cond (b := decide (fr % 200000 > to_ % 200000)) (by kernel_rfl) (fun hq12 => ?_) (fun hq12 => ?_)
    · simp only [decide_eq_true_eq] at hq12
      (exfalso; omega)
    simp only [decide_eq_false_iff_not] at hq12
    refine AWP.skip ?_
    refine AWP.seq ?_
    refine AWP.regionT tcok hmix [] [2, 3, 8, 9, 12, 19, 20] [250003, 570003, 1440003, 250002, 250001] (os := []) (s' := St.mk [(2, tp (u32 (fr % 200000))), (3, tp (u32 (to_ % 200000))), (8, tp (vb false)), (9, tp (V.ptr 250003 0)), (12, tp (V.sl 570003 0 k)), (19, tp (V.sl 1440003 0 n5)), (20, tp (i64 0))] [(250001, Blk.mk (idsC K) true 0 (some (0, 0))), (250002, Blk.mk (rowsI L) true 0 (some (79, 3))), (250003, Blk.mk [V.sl 250002 0 k, V.mp 250001, vb false] false 3 none), (570003, Blk.mk (rowsI L) true 0 (some (79, 3))), (1440003, Blk.mk (rowsI L5) true 0 (some (79, 3)))]) (by kernel_rfl) trivial ?_
    refine AWP.seq ?_
    refine xe0 [2, 3, 8, 9, 12, 19, 20, 132] [250003, 570003, 1440003, 250002, 250001] (by kernel_rfl) ?_
    refine AWP.cond (b := decide (fr % 200000 > 0)) (by kernel_rfl) (fun hq13 => ?_) (fun hq13 => ?_)
    · simp only [decide_eq_true_eq] at hq13
      refine AWP.regionT tcok hmix [(2, ⟨some (u32 (fr % 200000 - 1)), none⟩), (3, ⟨some (V.tup [V.sl 1000000000 250002 0, V.sl 2000000010 250003 0, V.sl 2000000011 250001 0]), some ⟨V.vs (tcC (List.take e1 L)) e1, [(1000000000, Blk.mk (rowsI L6) true 0 (some (79, 3))), (2000000010, Blk.mk [V.sl 1000000000 0 n6, V.mp 2000000011, vb false] false 3 none), (2000000011, Blk.mk (idsC K6) true 0 (some (0, 0)))], []⟩⟩)] [3, 8, 9, 12, 19, 20] [250003, 570003, 1440003, 250002, 250001] (os := [u32 (IntKind.wrap IntKind.u32 (fr % 200000 - 1)) = u32 (fr % 200000 - 1), Con Try.prog 25 [(1000000000, Blk.mk (rowsI L) true 0 (some (79, 3))), (2000000010, Blk.mk [V.sl 1000000000 0 k, V.mp 2000000011, vb false] false 3 none), (2000000011, Blk.mk (idsC K) true 0 (some (0, 0)))] [V.ptr 2000000010 0, u32 (fr % 200000 - 1)] [(1000000000, Blk.mk (rowsI L6) true 0 (some (79, 3))), (2000000010, Blk.mk [V.sl 1000000000 0 n6, V.mp 2000000011, vb false] false 3 none), (2000000011, Blk.mk (idsC K6) true 0 (some (0, 0)))] (V.vs (tcC (List.take e1 L)) e1)]) (s' := St.mk [(3, tp (u32 (to_ % 200000))), (8, tp (vb false)), (9, tp (V.ptr 250003 0)), (12, tp (V.sl 570003 0 k)), (19, tp (V.sl 1440003 0 n5)), (20, tp (i64 (↑e1 : Int)))] [(250001, Blk.mk (idsC K6) true 0 (some (0, 0))), (250002, Blk.mk (rowsI L6) true 0 (some (79, 3))), (250003, Blk.mk [V.sl 250002 0 n6, V.mp 250001, vb false] false 3 none), (570003, Blk.mk (rowsI L) true 0 (some (79, 3))), (1440003, Blk.mk (rowsI L5) true 0 (some (79, 3)))]) (by kernel_rfl) ⟨(wr_u32 (by omega) (by omega)), (c6 ), trivial⟩ ?_
      refine xe1 (os := [Con Try.prog 25 [(1000000000, Blk.mk (rowsI L6) true 0 (some (79, 3))), (2000000010, Blk.mk [V.sl 1000000000 0 n6, V.mp 2000000011, vb false] false 3 none), (2000000011, Blk.mk (idsC K6) true 0 (some (0, 0)))] [V.ptr 2000000010 0, u32 (to_ % 200000)] [(1000000000, Blk.mk (rowsI L7) true 0 (some (79, 3))), (2000000010, Blk.mk [V.sl 1000000000 0 n7, V.mp 2000000011, vb false] false 3 none), (2000000011, Blk.mk (idsC K7) true 0 (some (0, 0)))] (V.vs (tcC (List.take p2 L6)) p2)]) [(2, ⟨some (V.tup [V.sl 1000000000 250002 0, V.sl 2000000010 250003 0, V.sl 2000000011 250001 0]), some ⟨V.vs (tcC (List.take p2 L6)) p2, [(1000000000, Blk.mk (rowsI L7) true 0 (some (79, 3))), (2000000010, Blk.mk [V.sl 1000000000 0 n7, V.mp 2000000011, vb false] false 3 none), (2000000011, Blk.mk (idsC K7) true 0 (some (0, 0)))], []⟩⟩)] [8, 9, 12, 19, 20, 21] [250003, 570003, 1440003, 250002, 250001] (by kernel_rfl) ⟨(c7 ), trivial⟩ ?_
      refine xe1 (os := [vb ((↑p2 : Int) == (↑n5 : Int)) = vb true, true = true → i64 (IntKind.wrap IntKind.i64 ((↑e1 : Int) + (↑p2 : Int))) = i64 ((↑e1 : Int) + (↑p2 : Int)) ∧ True, Con Try.prog 26 [(2000000000, Blk.mk (rowsI L7) true 0 (some (79, 3))), (2000000010, Blk.mk [V.sl 2000000000 0 n7, V.mp 2000000011, vb false] false 3 none), (2000000011, Blk.mk (idsC K7) true 0 (some (0, 0)))] [V.ptr 2000000010 0] [(2000000000, Blk.mk (rowsI L7) true 0 (some (79, 3))), (2000000010, Blk.mk [V.sl 2000000000 0 n7, V.mp 2000000011, vb false] false 3 none), (2000000011, Blk.mk (idsC K7) true 0 (some (0, 0)))] (i64 (↑n7 : Int)), true = true → i64 (IntKind.wrap IntKind.i64 ((↑e1 : Int) + (↑p2 : Int) + (↑n7 : Int))) = i64 ((↑e1 : Int) + (↑p2 : Int) + (↑n7 : Int)) ∧ True]) [(4, ⟨some (vb true), none⟩), (9, ⟨some (i64 ((↑e1 : Int) + (↑p2 : Int))), none⟩), (11, ⟨some (V.tup [V.sl 2000000000 250002 0, V.sl 2000000010 250003 0, V.sl 2000000011 250001 0]), some ⟨i64 (↑n7 : Int), [(2000000000, Blk.mk (rowsI L7) true 0 (some (79, 3))), (2000000010, Blk.mk [V.sl 2000000000 0 n7, V.mp 2000000011, vb false] false 3 none), (2000000011, Blk.mk (idsC K7) true 0 (some (0, 0)))], []⟩⟩), (12, ⟨some (i64 ((↑e1 : Int) + (↑p2 : Int) + (↑n7 : Int))), none⟩)] [8] [] (by kernel_rfl) ⟨(congrArg (fun b => V.val (Value.bool b)) wb), (by intro hc0; first | (cases hc0; done) | ((try simp only [Bool.or_false, Bool.false_or, Bool.true_and, Bool.and_true, decide_eq_true_eq, decide_eq_false_iff_not, Bool.and_eq_true, Bool.or_eq_true, Bool.or_eq_false_iff, Bool.not_eq_true', Bool.and_eq_false_iff, beq_iff_eq, bne_iff_ne, bne_eq_false_iff_eq, beq_eq_false_iff_ne, Bool.not_eq_false'] at hc0); exact ⟨(wr_i64 (by omega) (by omega)), trivial⟩)), (c8 ), (by intro hc0; first | (cases hc0; done) | ((try simp only [Bool.or_false, Bool.false_or, Bool.true_and, Bool.and_true, decide_eq_true_eq, decide_eq_false_iff_not, Bool.and_eq_true, Bool.or_eq_true, Bool.or_eq_false_iff, Bool.not_eq_true', Bool.and_eq_false_iff, beq_iff_eq, bne_iff_ne, bne_eq_false_iff_eq, beq_eq_false_iff_ne, Bool.not_eq_false'] at hc0); exact ⟨(wr_i64 (by omega) (by omega)), trivial⟩)), trivial⟩ ?_
      refine AWP.ret ?_
      refine ⟨Or.inr rfl, Eq.trans (b := some ([], vb (true && (↑e1 : Int) + (↑p2 : Int) + (↑n7 : Int) == (↑k : Int)))) (by kernel_rfl) ?_⟩
      first | rfl | (rw [hsum]; rfl) | (exfalso; omega)
    simp only [decide_eq_false_iff_not] at hq13
    (exfalso; omega)
  · have h0 : posI (fr % 200000 - 1) L = 0 := posI_none fun a ha => by have := hLp a ha; omega
    rw [h0] at hbl
    obtain ⟨p2, hp2⟩ : ∃ p2, posI (to_ % 200000) L = p2 := ⟨_, rfl⟩
    obtain ⟨L7, hL7⟩ : ∃ L7, L.drop p2 = L7 := ⟨_, rfl⟩
    obtain ⟨K7, hK7⟩ : ∃ K7, eraI K (L.take p2) = K7 := ⟨_, rfl⟩
    obtain ⟨n7, hn7⟩ : ∃ n7, k - p2 = n7 := ⟨_, rfl⟩
    have hle2 := posI_le (to_ % 200000) L
    rw [hp2, hLl] at hle2
    have c7 := con_due L k hLl (by omega) K (to_ % 200000) p2 hp2 n7 hn7 L7 hL7 K7 hK7
    have c8 := con_plen L7 n7 K7 false
    have h25 : p2 = n5 := by omega
    have wb : ((p2 : Int) == (n5 : Int)) = true := by rw [h25]; exact beq_self_eq_true _
    have hsum : ((0 : Int) + (p2 : Int) + (n7 : Int) == (k : Int)) = true := beq_iff_eq.2 (by omega)
    have hsum2 : ((p2 : Int) + (n7 : Int) == (k : Int)) = true := beq_iff_eq.2 (by omega)
    refine AWP.seq ?_
    refine AWP.regionT tcok hmix [] [1, 2, 3, 8, 9, 12, 14, 16, 76, 77, 78, 79] [250001, 250002, 250003, 570003, 630003, 700003] (os := []) (s' := St.mk [(1, tp (V.val (Value.int IntKind.i16 b))), (2, tp (u32 fr)), (3, tp (u32 to_)), (8, tp (vb false)), (9, tp (V.ptr 250003 0)), (12, tp (V.sl 570003 0 k)), (14, tp (V.sl 630003 0 k)), (16, tp (V.sl 700003 0 k)), (76, tp (V.sl 570003 0 k)), (77, tp (i64 (↑k : Int))), (78, tp (i64 (↑k : Int))), (79, tp (vb (decide ((↑k : Int) < (↑k : Int)))))] [(250001, Blk.mk (idsC K) true 0 (some (0, 0))), (250002, Blk.mk (rowsI L) true 0 (some (79, 3))), (250003, Blk.mk [V.sl 250002 0 k, V.mp 250001, vb false] false 3 none), (570003, Blk.mk (rowsI L) true 0 (some (79, 3))), (630003, Blk.mk (rowsI M) true 0 (some (79, 3))), (700003, Blk.mk (rowsI L) true 0 (some (79, 3)))]) (by kernel_rfl) trivial ?_
    refine AWP.seq ?_
    refine AWP.cond (b := decide ((↑k : Int) < (↑k : Int))) (by kernel_rfl) (fun hq14 => ?_) (fun hq14 => ?_)
    · simp only [decide_eq_true_eq] at hq14
      (exfalso; omega)
    simp only [decide_eq_false_iff_not] at hq14
    refine AWP.exit ?_
    refine AWP.seq ?_
    refine AWP.regionT tcok hmix [(1, ⟨some (u32 (fr % 200000)), none⟩), (3, ⟨some (u32 (to_ % 200000)), none⟩)] [2, 3, 8, 9, 12] [250003, 570003, 250002, 250001] (os := [(200000 : Int) ≠ (0 : Int), u32 (Int.tmod fr 200000) = u32 (fr % 200000), (200000 : Int) ≠ (0 : Int), u32 (Int.tmod to_ 200000) = u32 (to_ % 200000)]) (s' := St.mk [(2, tp (u32 (fr % 200000))), (3, tp (u32 (to_ % 200000))), (8, tp (vb false)), (9, tp (V.ptr 250003 0)), (12, tp (V.sl 570003 0 k))] [(250001, Blk.mk (idsC K) true 0 (some (0, 0))), (250002, Blk.mk (rowsI L) true 0 (some (79, 3))), (250003, Blk.mk [V.sl 250002 0 k, V.mp 250001, vb false] false 3 none), (570003, Blk.mk (rowsI L) true 0 (some (79, 3)))]) (by kernel_rfl) ⟨(by omega), (tm_ (by omega)), (by omega), (tm_ (by omega)), trivial⟩ ?_
    refine xe1 (os := [Con Try.prog 32 [(2000000000, Blk.mk (rowsI L) true 0 (some (79, 3))), (2000000010, Blk.mk [V.sl 2000000000 0 k, V.mp 2000000011, vb false] false 3 none), (2000000011, Blk.mk (idsC K) true 0 (some (0, 0)))] [V.ptr 2000000010 0, u32 (fr % 200000), u32 (to_ % 200000)] [(190003, Blk.mk (rowsI L5) true 0 (some (79, 3))), (2000000000, Blk.mk (rowsI L) true 0 (some (79, 3))), (2000000010, Blk.mk [V.sl 2000000000 0 k, V.mp 2000000011, vb false] false 3 none), (2000000011, Blk.mk (idsC K) true 0 (some (0, 0)))] (V.sl 190003 0 n5)]) [(3, ⟨some (V.tup [V.sl 2000000000 250002 0, V.sl 2000000010 250003 0, V.sl 2000000011 250001 0]), some ⟨V.sl 190003 0 n5, [(190003, Blk.mk (rowsI L5) true 0 (some (79, 3))), (2000000000, Blk.mk (rowsI L) true 0 (some (79, 3))), (2000000010, Blk.mk [V.sl 2000000000 0 k, V.mp 2000000011, vb false] false 3 none), (2000000011, Blk.mk (idsC K) true 0 (some (0, 0)))], []⟩⟩)] [2, 3, 8, 9, 12, 19] [250003, 570003, 1440003, 250002, 250001] (by kernel_rfl) ⟨(c5 ), trivial⟩ ?_
    refine AWP.seq ?_
    refine xe0 [2, 3, 8, 9, 12, 19, 127] [250003, 570003, 1440003, 250002, 250001] (by kernel_rfl) ?_
    refine AWP.cond (b := decide (fr % 200000 > to_ % 200000)) (by kernel_rfl) (fun hq15 => ?_) (fun hq15 => ?_)
    · simp only [decide_eq_true_eq] at hq15
      (exfalso; omega)
    simp only [decide_eq_false_iff_not] at hq15
    refine AWP.skip ?_
    refine AWP.seq ?_
    refine AWP.regionT tcok hmix [] [2, 3, 8, 9, 12, 19, 20] [250003, 570003, 1440003, 250002, 250001] (os := []) (s' := St.mk [(2, tp (u32 (fr % 200000))), (3, tp (u32 (to_ % 200000))), (8, tp (vb false)), (9, tp (V.ptr 250003 0)), (12, tp (V.sl 570003 0 k)), (19, tp (V.sl 1440003 0 n5)), (20, tp (i64 0))] [(250001, Blk.mk (idsC K) true 0 (some (0, 0))), (250002, Blk.mk (rowsI L) true 0 (some (79, 3))), (250003, Blk.mk [V.sl 250002 0 k, V.mp 250001, vb false] false 3 none), (570003, Blk.mk (rowsI L) true 0 (some (79, 3))), (1440003, Blk.mk (rowsI L5) true 0 (some (79, 3)))]) (by kernel_rfl) trivial ?_
    refine AWP.seq ?_
    refine xe0 [2, 3, 8, 9, 12, 19, 20, 132] [250003, 570003, 1440003, 250002, 250001] (by kernel_rfl) ?_
    refine AWP.cond (b := decide (fr % 200000 > 0)) (by kernel_rfl) (fun hq16 => ?_) (fun hq16 => ?_)
    · simp only [decide_eq_true_eq] at hq16
      (exfalso; omega)
    simp only [decide_eq_false_iff_not] at hq16
    refine AWP.skip ?_
    refine AWP.seq ?_
    refine AWP.regionT tcok hmix [(2, ⟨some (V.tup [V.sl 1000000000 250002 0, V.sl 2000000010 250003 0, V.sl 2000000011 250001 0]), some ⟨V.vs (tcC (List.take p2 L)) p2, [(1000000000, Blk.mk (rowsI L7) true 0 (some (79, 3))), (2000000010, Blk.mk [V.sl 1000000000 0 n7, V.mp 2000000011, vb false] false 3 none), (2000000011, Blk.mk (idsC K7) true 0 (some (0, 0)))], []⟩⟩)] [8, 9, 12, 19, 20, 21] [250003, 570003, 1440003, 250002, 250001] (os := [Con Try.prog 25 [(1000000000, Blk.mk (rowsI L) true 0 (some (79, 3))), (2000000010, Blk.mk [V.sl 1000000000 0 k, V.mp 2000000011, vb false] false 3 none), (2000000011, Blk.mk (idsC K) true 0 (some (0, 0)))] [V.ptr 2000000010 0, u32 (to_ % 200000)] [(1000000000, Blk.mk (rowsI L7) true 0 (some (79, 3))), (2000000010, Blk.mk [V.sl 1000000000 0 n7, V.mp 2000000011, vb false] false 3 none), (2000000011, Blk.mk (idsC K7) true 0 (some (0, 0)))] (V.vs (tcC (List.take p2 L)) p2)]) (s' := St.mk [(8, tp (vb false)), (9, tp (V.ptr 250003 0)), (12, tp (V.sl 570003 0 k)), (19, tp (V.sl 1440003 0 n5)), (20, tp (i64 0)), (21, tp (V.vs (tcC (List.take p2 L)) p2))] [(250001, Blk.mk (idsC K7) true 0 (some (0, 0))), (250002, Blk.mk (rowsI L7) true 0 (some (79, 3))), (250003, Blk.mk [V.sl 250002 0 n7, V.mp 250001, vb false] false 3 none), (570003, Blk.mk (rowsI L) true 0 (some (79, 3))), (1440003, Blk.mk (rowsI L5) true 0 (some (79, 3)))]) (by kernel_rfl) ⟨(c7 ), trivial⟩ ?_
    refine xe1 (os := [vb ((↑p2 : Int) == (↑n5 : Int)) = vb true, true = true → i64 (IntKind.wrap IntKind.i64 ((0 : Int) + (↑p2 : Int))) = i64 ((0 : Int) + (↑p2 : Int)) ∧ True, Con Try.prog 26 [(2000000000, Blk.mk (rowsI L7) true 0 (some (79, 3))), (2000000010, Blk.mk [V.sl 2000000000 0 n7, V.mp 2000000011, vb false] false 3 none), (2000000011, Blk.mk (idsC K7) true 0 (some (0, 0)))] [V.ptr 2000000010 0] [(2000000000, Blk.mk (rowsI L7) true 0 (some (79, 3))), (2000000010, Blk.mk [V.sl 2000000000 0 n7, V.mp 2000000011, vb false] false 3 none), (2000000011, Blk.mk (idsC K7) true 0 (some (0, 0)))] (i64 (↑n7 : Int)), true = true → i64 (IntKind.wrap IntKind.i64 ((0 : Int) + (↑p2 : Int) + (↑n7 : Int))) = i64 ((0 : Int) + (↑p2 : Int) + (↑n7 : Int)) ∧ True]) [(4, ⟨some (vb true), none⟩), (9, ⟨some (i64 (0 + (↑p2 : Int))), none⟩), (11, ⟨some (V.tup [V.sl 2000000000 250002 0, V.sl 2000000010 250003 0, V.sl 2000000011 250001 0]), some ⟨i64 (↑n7 : Int), [(2000000000, Blk.mk (rowsI L7) true 0 (some (79, 3))), (2000000010, Blk.mk [V.sl 2000000000 0 n7, V.mp 2000000011, vb false] false 3 none), (2000000011, Blk.mk (idsC K7) true 0 (some (0, 0)))], []⟩⟩), (12, ⟨some (i64 (0 + (↑p2 : Int) + (↑n7 : Int))), none⟩)] [8] [] (by kernel_rfl) ⟨(congrArg (fun b => V.val (Value.bool b)) wb), (by intro hc0; first | (cases hc0; done) | ((try simp only [Bool.or_false, Bool.false_or, Bool.true_and, Bool.and_true, decide_eq_true_eq, decide_eq_false_iff_not, Bool.and_eq_true, Bool.or_eq_true, Bool.or_eq_false_iff, Bool.not_eq_true', Bool.and_eq_false_iff, beq_iff_eq, bne_iff_ne, bne_eq_false_iff_eq, beq_eq_false_iff_ne, Bool.not_eq_false'] at hc0); exact ⟨(wr_i64 (by omega) (by omega)), trivial⟩)), (c8 ), (by intro hc0; first | (cases hc0; done) | ((try simp only [Bool.or_false, Bool.false_or, Bool.true_and, Bool.and_true, decide_eq_true_eq, decide_eq_false_iff_not, Bool.and_eq_true, Bool.or_eq_true, Bool.or_eq_false_iff, Bool.not_eq_true', Bool.and_eq_false_iff, beq_iff_eq, bne_iff_ne, bne_eq_false_iff_eq, beq_eq_false_iff_ne, Bool.not_eq_false'] at hc0); exact ⟨(wr_i64 (by omega) (by omega)), trivial⟩)), trivial⟩ ?_
    refine AWP.ret ?_
    refine ⟨Or.inr rfl, Eq.trans (b := some ([], vb (true && 0 + (↑p2 : Int) + (↑n7 : Int) == (↑k : Int)))) (by kernel_rfl) ?_⟩
    first | rfl | (rw [hsum]; rfl) | (rw [hsum2]; rfl) | (exfalso; omega)
theorem law_PlanShifts (x y z w : V) (hx : TyV tc 9 73 x) (hy : TyV tc 9 74 y) (hz : TyV tc 9 23 z) (hw : TyV tc 9 23 w) : Con Try.prog 8 [] [x, y, z, w] [] (vb true) := by
  obtain ⟨cs, n, e, hn, rows, h1, h2, h3⟩ := hx
  cases e
  obtain ⟨b, e1, p1, p2⟩ := hy
  cases e1
  obtain ⟨f, e2, q1, q2⟩ := hz
  cases e2
  obtain ⟨t, e3, r1, r2⟩ := hw
  cases e3
  have key : ∀ rows : List (List V), (∀ r ∈ rows, ∃ a : Int, r = [u16 a] ∧ 0 ≤ a ∧ a < 65536) → ∃ L : List Int, L.length = rows.length ∧ u16sI L = rows.flatten ∧ ∀ a ∈ L, 0 ≤ a ∧ a < 65536 := by
    intro rows
    induction rows with
    | nil => intro _; exact ⟨[], rfl, rfl, fun a h => by cases h⟩
    | cons r t ih =>
      intro h
      obtain ⟨L, g1, g2, g3⟩ := ih fun r hr => h r (List.mem_cons_of_mem _ hr)
      obtain ⟨a, rfl, ha⟩ := h r (List.mem_cons_self ..)
      refine ⟨a :: L, by simp [g1], by rw [List.flatten_cons, ← g2]; rfl, fun b hb => ?_⟩
      rcases List.mem_cons.1 hb with rfl | hb
      · exact ha
      · exact g3 b hb
  obtain ⟨L, g1, g2, g3⟩ := key rows fun r hr => by
    obtain ⟨a, rfl, a1, a2⟩ := h3 r hr
    exact ⟨a, rfl, a1, Int.lt_add_one_of_le a2⟩
  rw [h2, ← g2]
  exact law_shifts L n (by omega) (by omega) g3 b f t ⟨p1, Int.lt_add_one_of_le p2⟩ ⟨q1, Int.lt_add_one_of_le q2⟩ ⟨r1, Int.lt_add_one_of_le r2⟩
end Go.Proofs.Ytlfjnkobnkfioaa
