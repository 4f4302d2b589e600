/- PlanPlays. -/
import Derived.Test.YtlfjnkobnkfioaaRg
import Derived.Test.YtlfjnkobnkfioaaPlnYe
namespace Go.Proofs.Ytlfjnkobnkfioaa
open Go.Ab
set_option maxRecDepth 100000
set_option maxHeartbeats 8000000
set_option linter.unusedSimpArgs false
set_option linter.unusedVariables false
def Ac.row (a : Ac) : List V := [u8 a.d, u32 a.t, u16 a.id, .vs (u8s a.c) a.k, i32 a.b, vb a.on]
def actC : List Ac → List V
  | [] => []
  | a :: r => Ac.row a ++ actC r
theorem actC_dr {R : List Ac} {i : Nat} {a : Ac} (h : R[i]? = some a) : List.drop (i * 6) (actC R) = u8 a.d :: u32 a.t :: u16 a.id :: .vs (u8s a.c) a.k :: i32 a.b :: vb a.on :: actC (R.drop (i + 1)) := by
  induction R generalizing i with
  | nil => simp at h
  | cons x r ih =>
    cases i with
    | zero =>
      simp at h
      subst h
      rfl
    | succ i =>
      rw [show (i + 1) * 6 = i * 6 + 6 by omega]
      show List.drop (i * 6) (actC r) = _
      rw [ih (by simpa using h)]
      simp
theorem keep_next (p : It → Bool) {L : List It} {i : Nat} {a : It} (h : L[i]? = some a) : keepP p (L.take (i + 1)) = keepP p (L.take i) ++ if p a = true then [] else [a] := by
  unfold keepP
  rw [List.take_add_one, h, List.filter_append]
  congr 1
  cases hp : p a <;> simp [hp]
theorem law_plays (X : List Ac) (m : Nat) (hm : X.length = m) (hmm : m ≤ 9223372036854775807) (hX : ∀ a ∈ X, (0 ≤ a.d ∧ a.d < 256) ∧ (0 ≤ a.t ∧ a.t ≤ 4294967295) ∧ (-2147483648 ≤ a.b ∧ a.b ≤ 2147483647) ∧ a.c.length = a.k ∧ a.k ≤ 9223372036854775807) (fr to_ : Int) : Con Try.prog 9 [] [.vs (actC X) m, u32 fr, u32 to_] [] (vb true) := by
  refine Con.of (C := ⟨Try.prog, tc, Try.f9.ntmps⟩) [] tcok Try.func9 rfl rfl (by kernel_rfl) (by kernel_rfl) ?_
  refine xe0 [0, 1, 2, 6] [] (by kernel_rfl) ?_
  refine AWP.seq ?_
  refine xe1 [(0, ⟨none, some ⟨vb true, [], []⟩⟩)] [0, 1, 2, 6, 21] [] (by kernel_rfl) (AllP.c (con_awake27 ) AllP.n) ?_
  refine AWP.condF (by kernel_rfl) ?_
  refine AWP.skip ?_
  refine xe1 [(0, ⟨none, some ⟨V.ptr 3 0, [(1, Blk.mk [] true 0 (some (0, 0))), (2, Blk.mk [] true 0 (some (79, 3))), (3, Blk.mk [V.sl 2 0 0, V.mp 1, vb false] false 3 none)], []⟩⟩)] [0, 1, 2, 6, 7, 8] [230003, 24, 230002, 230001] (by kernel_rfl) (AllP.c (con_pnew ) AllP.n) ?_
  refine AWP.seq ?_
  refine xe0 [1, 2, 6, 7, 8, 25, 26, 27] [230003, 24, 230002, 230001] (by kernel_rfl) ?_
  refine AWP.block ?_
  refine AWP.nb 24 0 240 96 3 (s' := St.mk [(1, T.plain (u32 fr)), (2, T.plain (u32 to_)), (6, T.plain (vb false)), (7, T.plain (V.ptr 230003 0)), (8, T.plain (V.ptr 24 0)), (25, T.plain (V.vs (actC X) m)), (26, T.plain (i64 (m : Int))), (27, T.plain (i64 0))] [(24, Blk.mk [V.sl 240 0 0, vb false] false 2 none), (240, Blk.mk [] true 0 (some (96, 3))), (230001, Blk.mk [] true 0 (some (0, 0))), (230002, Blk.mk [] true 0 (some (79, 3))), (230003, Blk.mk [V.sl 230002 0 0, V.mp 230001, vb false] false 3 none)]) (by kernel_rfl) ?_
  refine AWP.loopI [27, 26, 25, 8, 7, 1, 2, 6] [24, 240, 230001, 230002, 230003] (fun N s' => ∃ (i : Int) (n : Nat) (L : List It) (K : List Int) (off : Bool), s' = St.mk [(1, T.plain (u32 fr)), (2, T.plain (u32 to_)), (6, T.plain (vb false)), (7, T.plain (V.ptr 230003 0)), (8, T.plain (V.ptr 24 0)), (25, T.plain (V.vs (actC X) m)), (26, T.plain (i64 (m : Int))), (27, T.plain (i64 i))] [(24, Blk.mk [V.sl 240 0 n, vb off] false 2 none), (240, Blk.mk (rowsI L) true 0 (some (96, 3))), (230001, Blk.mk (idsC K) true 0 (some (0, 0))), (230002, Blk.mk (rowsI L) true 0 (some (79, 3))), (230003, Blk.mk [V.sl 230002 0 n, V.mp 230001, vb off] false 3 none)] ∧ 0 ≤ i ∧ i ≤ m ∧ L.length = n ∧ PlOk L ∧ KOk K L ∧ (N : Int) = m - i) m (s0 := St.mk [(1, T.plain (u32 fr)), (2, T.plain (u32 to_)), (6, T.plain (vb false)), (7, T.plain (V.ptr 230003 0)), (8, T.plain (V.ptr 24 0)), (25, T.plain (V.vs (actC X) m)), (26, T.plain (i64 (m : Int))), (27, T.plain (i64 0))] [(24, Blk.mk [V.sl 240 0 0, vb false] false 2 none), (240, Blk.mk [] true 0 (some (96, 3))), (230001, Blk.mk [] true 0 (some (0, 0))), (230002, Blk.mk [] true 0 (some (79, 3))), (230003, Blk.mk [V.sl 230002 0 0, V.mp 230001, vb false] false 3 none)]) (by kernel_rfl) ?_ ?_
  · exact ⟨0, 0, [], [], false, rfl, by omega, by omega, rfl, .nil, List.Perm.nil, by omega⟩
  rintro N s' ⟨i, n, L, K, off, rfl, hi, him, hn, hL, hK, hN⟩
  have hn32 := hL.n
  by_cases hlt : i < m
  · obtain ⟨x, hx⟩ : ∃ x, X[i.toNat]? = some x := ⟨_, List.getElem?_eq_getElem (by omega)⟩
    have hd := actC_dr hx
    by_cases h60 : i < 60
    · skip
      obtain ⟨x1, x2, x3, x4, x5⟩ := hX x (List.mem_of_getElem? hx)
      obtain ⟨c', hc'⟩ : ∃ c', x.c.take 230 = c' := ⟨_, rfl⟩
      obtain ⟨k', hk'⟩ : ∃ k', c'.length = k' := ⟨_, rfl⟩
      have hk230 : k' ≤ 230 := by rw [← hk', ← hc', List.length_take]; omega
      have c0 := con_cutF x.c c' x.k k' x4 230 (by omega) (by omega) x5 hc' hk'
      have ha : AcOk ⟨x.d, x.t, x.id, c', k', x.b, x.on⟩ := ⟨x1, x2, x3, hk', hk230⟩
      obtain ⟨K', hK', c2⟩ := con_dop L hL off K hK _ ha
      have c1 := con_dor L hL off _ ha
      have hz := nx_ok hL off ha
      generalize nx L off ⟨x.d, x.t, x.id, c', k', x.b, x.on⟩ = z at c1 c2 hz hK'
      obtain ⟨L', off', code, out⟩ := z
      obtain ⟨hL', ho, ho32⟩ := hz
      dsimp only [hP, hR] at c1 c2 hL' ho ho32 hK'
      rw [hn] at c1 c2
      have hn32' := hL'.n
      generalize hn' : L'.length = n' at c1 c2
      generalize hno : out.length = no at c1 c2
      have c3 := con_same_eq out no hno (by omega) ho
      have c4 := con_pall L' n' hn' (by omega) hL'.c K' off'
      have c5 := con_like_eq L' n' hn' (by omega) hL'.c
      have c6 := con_plen L' n' K' off'
      have c7 := con_pon L' n' K' off'
      have hrl := rowsI_len L'
      have wb1 : ((!off') == off') = false := by cases off' <;> rfl
      have wb0 : (code != code) = false := by simp
      have wb2 : ((n' : Int) != (n' : Int)) = false := by simp
      by_cases h0 : n' = 0
      · subst h0
        have c8 := con_pnext0 L' K' off'
        refine xe0 [1, 2, 6, 7, 8, 25, 26, 27, 28] [24, 240, 230001, 230002, 230003] (by kernel_rfl) ?_
        refine AWP.seq ?_
        refine AWP.cond (b := decide (i < (↑m : Int))) (by kernel_rfl) (fun hq1 => ?_) (fun hq1 => ?_)
        · simp only [decide_eq_true_eq] at hq1
          refine AWP.skip ?_
          refine AWP.seq ?_
          refine AWP.block ?_
          refine xe1 (os := [(0 : Int) ≤ i ∧ i < (↑m : Int), V.vp (List.drop (Int.toNat i * 6) (actC X)) = V.vp (u8 x.d :: u32 x.t :: u16 x.id :: V.vs (u8s x.c) x.k :: i32 x.b :: vb x.on :: actC (List.drop (Int.toNat i + 1) X))]) [(1, ⟨some (V.vp (u8 x.d :: u32 x.t :: u16 x.id :: V.vs (u8s x.c) x.k :: i32 x.b :: vb x.on :: actC (List.drop (Int.toNat i + 1) X))), none⟩)] [1, 2, 6, 7, 8, 9, 10, 25, 26, 27] [230003, 24, 10, 240, 230002, 230001] (by kernel_rfl) ⟨(by omega), (congrArg V.vp hd), trivial⟩ ?_
          refine AWP.seq ?_
          refine xe0 [1, 2, 6, 7, 8, 10, 25, 26, 27, 33] [230003, 24, 10, 240, 230002, 230001] (by kernel_rfl) ?_
          refine AWP.cond (b := decide (i ≥ 60)) (by kernel_rfl) (fun hq2 => ?_) (fun hq2 => ?_)
          · simp only [decide_eq_true_eq] at hq2
            (exfalso; omega)
          simp only [decide_eq_false_iff_not] at hq2
          refine AWP.skip ?_
          refine xe1 (os := [Con Try.prog 27 [] [V.vs (u8s x.c) x.k, i64 230] [] (V.vs (u8s c') k')]) [(2, ⟨none, some ⟨V.vs (u8s c') k', [], []⟩⟩)] [1, 2, 6, 7, 8, 10, 25, 26, 27] [230003, 24, 10, 240, 230002, 230001] (by kernel_rfl) ⟨(c0 ), trivial⟩ ?_
          refine xe1 (os := [Con Try.prog 33 [(1000000000, Blk.mk (rowsI L) true 0 (some (96, 3))), (2000000030, Blk.mk [V.sl 1000000000 0 n, vb off] false 2 none)] [V.ptr 2000000030 0, V.agg true [u8 x.d, u32 x.t, u16 x.id, V.vs (u8s c') k', i32 x.b, vb x.on]] [(1000000000, Blk.mk (rowsI L') true 0 (some (96, 3))), (2000000030, Blk.mk [V.sl 1000000000 0 0, vb off'] false 2 none)] (V.tup [i64 code, V.vs (tcC out) no])]) [(2, ⟨some (V.tup [V.sl 1000000000 240 0, V.sl 2000000030 24 0]), some ⟨V.tup [i64 code, V.vs (tcC out) no], [(1000000000, Blk.mk (rowsI L') true 0 (some (96, 3))), (2000000030, Blk.mk [V.sl 1000000000 0 0, vb off'] false 2 none)], []⟩⟩)] [1, 2, 6, 7, 8, 10, 11, 12, 25, 26, 27] [230003, 24, 10, 240, 230002, 230001] (by kernel_rfl) ⟨(c1 ), trivial⟩ ?_
          refine xe1 (os := [Con Try.prog 34 [(1000000000, Blk.mk (rowsI L) true 0 (some (79, 3))), (2000000010, Blk.mk [V.sl 1000000000 0 n, V.mp 2000000011, vb off] false 3 none), (2000000011, Blk.mk (idsC K) true 0 (some (0, 0)))] [V.ptr 2000000010 0, V.agg true [u8 x.d, u32 x.t, u16 x.id, V.vs (u8s c') k', i32 x.b, vb x.on]] [(1000000000, Blk.mk (rowsI L') true 0 (some (79, 3))), (2000000010, Blk.mk [V.sl 1000000000 0 0, V.mp 2000000011, vb off'] false 3 none), (2000000011, Blk.mk (idsC K') true 0 (some (0, 0)))] (V.tup [i64 code, V.vs (tcC out) no])]) [(2, ⟨some (V.tup [V.sl 1000000000 230002 0, V.sl 2000000010 230003 0, V.sl 2000000011 230001 0]), some ⟨V.tup [i64 code, V.vs (tcC out) no], [(1000000000, Blk.mk (rowsI L') true 0 (some (79, 3))), (2000000010, Blk.mk [V.sl 1000000000 0 0, V.mp 2000000011, vb off'] false 3 none), (2000000011, Blk.mk (idsC K') true 0 (some (0, 0)))], []⟩⟩)] [1, 2, 6, 7, 8, 11, 12, 13, 14, 25, 26, 27] [230003, 24, 240, 230002, 230001] (by kernel_rfl) ⟨(c2 ), trivial⟩ ?_
          refine xe1 (os := [Con Try.prog 35 [(2000000000, Blk.mk (rowsI L') true 0 (some (79, 3))), (2000000010, Blk.mk [V.sl 2000000000 0 0, V.mp 2000000011, vb off'] false 3 none), (2000000011, Blk.mk (idsC K') true 0 (some (0, 0)))] [V.ptr 2000000010 0] [(2000000000, Blk.mk (rowsI L') true 0 (some (79, 3))), (2000000010, Blk.mk [V.sl 2000000000 0 0, V.mp 2000000011, vb off'] false 3 none), (2000000011, Blk.mk (idsC K') true 0 (some (0, 0)))] (V.tup [u32 0, vb false])]) [(1, ⟨some (V.tup [V.sl 2000000000 230002 0, V.sl 2000000010 230003 0, V.sl 2000000011 230001 0]), some ⟨V.tup [u32 0, vb false], [(2000000000, Blk.mk (rowsI L') true 0 (some (79, 3))), (2000000010, Blk.mk [V.sl 2000000000 0 0, V.mp 2000000011, vb off'] false 3 none), (2000000011, Blk.mk (idsC K') true 0 (some (0, 0)))], []⟩⟩)] [1, 2, 6, 7, 8, 11, 12, 13, 14, 15, 16, 25, 26, 27] [230003, 24, 240, 230002, 230001] (by kernel_rfl) ⟨(c8 ), trivial⟩ ?_
          refine AWP.seq ?_
          refine AWP.regionNP tcok hmix [0, 1, 2, 3, 4, 5, 6, 7, 8, 9, 10, 12, 13, 14, 15, 11, 16, 17, 18, 19, 20, 22, 23, 24, 25, 26, 21, 27, 28, 29, 30, 32, 33, 34, 35, 31, 36, 37, 38, 39, 40, 41, 42, 43, 44, 45, 46, 47, 48, 49, 50, 51, 52, 53, 54, 55, 56, 57, 58, 59, 60, 61] [0, 1, 2, 3, 4, 5, 6, 7, 8, 9, 10, 15, 11, 12, 13, 14, 16, 17, 18, 19, 20, 26, 21, 22, 23, 24, 25, 27, 28, 29, 30, 35, 31, 32, 33, 34, 36, 37, 38, 39, 40, 41, 42, 43, 44, 45, 46, 47, 48, 49, 50, 51, 52, 53, 54, 55, 56, 57, 58, 59, 60, 61] (by kernel_rfl) [(2, ⟨some (vb false), none⟩), (6, ⟨none, some ⟨vb true, [], []⟩⟩), (11, ⟨none, some ⟨V.bo, [], []⟩⟩), (12, ⟨none, some ⟨V.bo, [], []⟩⟩), (13, ⟨none, some ⟨V.bo, [], []⟩⟩), (14, ⟨none, some ⟨V.bo, [], []⟩⟩), (15, ⟨some (V.tup [V.sl 2000000000 230002 0, V.sl 2000000010 230003 0, V.sl 2000000011 230001 0]), some ⟨V.sl 100003 0 0, [(100003, Blk.mk (rowsI L') true 0 (some (79, 3))), (2000000000, Blk.mk (rowsI L') true 0 (some (79, 3))), (2000000010, Blk.mk [V.sl 2000000000 0 0, V.mp 2000000011, vb off'] false 3 none), (2000000011, Blk.mk (idsC K') true 0 (some (0, 0)))], []⟩⟩), (16, ⟨none, some ⟨vb true, [], [(240, true), (770003, true)]⟩⟩), (21, ⟨none, some ⟨V.bo, [], []⟩⟩), (22, ⟨none, some ⟨V.bo, [], []⟩⟩), (23, ⟨none, some ⟨V.bo, [], []⟩⟩), (24, ⟨none, some ⟨V.bo, [], []⟩⟩), (25, ⟨none, some ⟨V.bo, [], []⟩⟩), (26, ⟨some (V.tup [V.sl 2000000000 230002 0, V.sl 2000000010 230003 0, V.sl 2000000011 230001 0]), some ⟨i64 (↑0 : Int), [(2000000000, Blk.mk (rowsI L') true 0 (some (79, 3))), (2000000010, Blk.mk [V.sl 2000000000 0 0, V.mp 2000000011, vb off'] false 3 none), (2000000011, Blk.mk (idsC K') true 0 (some (0, 0)))], []⟩⟩), (31, ⟨none, some ⟨V.bo, [], []⟩⟩), (32, ⟨none, some ⟨V.bo, [], []⟩⟩), (33, ⟨none, some ⟨V.bo, [], []⟩⟩), (34, ⟨none, some ⟨V.bo, [], []⟩⟩), (35, ⟨some (V.tup [V.sl 2000000000 230002 0, V.sl 2000000010 230003 0, V.sl 2000000011 230001 0]), some ⟨vb !off', [(2000000000, Blk.mk (rowsI L') true 0 (some (79, 3))), (2000000010, Blk.mk [V.sl 2000000000 0 0, V.mp 2000000011, vb off'] false 3 none), (2000000011, Blk.mk (idsC K') true 0 (some (0, 0)))], []⟩⟩), (56, ⟨some (V.ptr 240 0), none⟩), (58, ⟨some (u32 0), none⟩)] [1, 2, 6, 7, 8, 25, 26, 27, 116] [230003, 24, 240, 230002, 230001] (os := [vb (code != code) = vb false, false = ((3 : Nat), false).snd → Con Try.prog (36 : Nat) [] [V.vs (tcC out) no, V.vs (tcC out) no] [] (vb true) ∧ True, Con Try.prog 30 [(2000000000, Blk.mk (rowsI L') true 0 (some (79, 3))), (2000000010, Blk.mk [V.sl 2000000000 0 0, V.mp 2000000011, vb off'] false 3 none), (2000000011, Blk.mk (idsC K') true 0 (some (0, 0)))] [V.ptr 2000000010 0] [(100003, Blk.mk (rowsI L') true 0 (some (79, 3))), (2000000000, Blk.mk (rowsI L') true 0 (some (79, 3))), (2000000010, Blk.mk [V.sl 2000000000 0 0, V.mp 2000000011, vb off'] false 3 none), (2000000011, Blk.mk (idsC K') true 0 (some (0, 0)))] (V.sl 100003 0 0), false = ((9 : Nat), false).snd → VO (vb true) ∧ VOH [] ∧ Con Try.prog (37 : Nat) [] [V.vs (rowsI L') (0 : Nat), V.vs (rowsI L') (0 : Nat)] [] (vb true) ∧ (0 : Nat) = (0 : Nat) ∧ (0 : Nat) = List.length (rowsI L') ∧ (0 : Nat) = (0 : Nat) ∧ (0 : Nat) = List.length (rowsI L') ∧ True, Con Try.prog 26 [(2000000000, Blk.mk (rowsI L') true 0 (some (79, 3))), (2000000010, Blk.mk [V.sl 2000000000 0 0, V.mp 2000000011, vb off'] false 3 none), (2000000011, Blk.mk (idsC K') true 0 (some (0, 0)))] [V.ptr 2000000010 0] [(2000000000, Blk.mk (rowsI L') true 0 (some (79, 3))), (2000000010, Blk.mk [V.sl 2000000000 0 0, V.mp 2000000011, vb off'] false 3 none), (2000000011, Blk.mk (idsC K') true 0 (some (0, 0)))] (i64 0), Con Try.prog 38 [(2000000000, Blk.mk (rowsI L') true 0 (some (79, 3))), (2000000010, Blk.mk [V.sl 2000000000 0 0, V.mp 2000000011, vb off'] false 3 none), (2000000011, Blk.mk (idsC K') true 0 (some (0, 0)))] [V.ptr 2000000010 0] [(2000000000, Blk.mk (rowsI L') true 0 (some (79, 3))), (2000000010, Blk.mk [V.sl 2000000000 0 0, V.mp 2000000011, vb off'] false 3 none), (2000000011, Blk.mk (idsC K') true 0 (some (0, 0)))] (vb !off'), false = ((50 : Nat), true).snd → (false || bl true ((!off') == off') || false) = false → ((0 : Int) ≤ (0 : Int) ∧ (0 : Int) < (↑(0 : Nat) : Int)) ∧ V.ptr (240 : Nat) (0 : Nat) = V.ptr (240 : Nat) (0 : Nat) ∧ True, false = ((50 : Nat), true).snd → (false || bl true ((!off') == off') || false) = false → (1 : Nat) ≤ List.length (rowsI L') ∧ part_ true (isRow (TypeDesc.int IntKind.u32)) (rowsI L') (0 : Nat) (1 : Nat) = u32 (0 : Int) ∧ True]) (by kernel_rfl) ⟨(congrArg (fun b => V.val (Value.bool b)) wb0), (fun _ => ⟨(c3 ), trivial⟩), (c4 ), (by intro hc0; first | (cases hc0; done) | ((try simp only [Bool.or_false, Bool.false_or, Bool.true_and, Bool.and_true, decide_eq_true_eq, decide_eq_false_iff_not, Bool.and_eq_true, Bool.or_eq_true, Bool.or_eq_false_iff, Bool.not_eq_true', Bool.and_eq_false_iff, beq_iff_eq, bne_iff_ne, bne_eq_false_iff_eq, beq_eq_false_iff_ne, Bool.not_eq_false'] at hc0); exact ⟨(VO.val _), trivial, (c5 ), (by omega), (by first | omega | (simp [len_u8s]; done) | (simp [len_u8s]; omega)), (by omega), (by first | omega | (simp [len_u8s]; done) | (simp [len_u8s]; omega)), trivial⟩)), (c6 ), (c7 ), (by intro hc0 hc1; first | (cases hc0; done) | ((try simp only [Bool.or_false, Bool.false_or, Bool.true_and, Bool.and_true, decide_eq_true_eq, decide_eq_false_iff_not, Bool.and_eq_true, Bool.or_eq_true, Bool.or_eq_false_iff, Bool.not_eq_true', Bool.and_eq_false_iff, beq_iff_eq, bne_iff_ne, bne_eq_false_iff_eq, beq_eq_false_iff_ne, Bool.not_eq_false'] at hc0 hc1); exact ⟨(by first | omega | (simp [len_u8s]; omega) | (simp [len_u8s]; done)), rfl, trivial⟩)), (by intro hc0 hc1; first | (cases hc0; done) | ((try simp only [Bool.or_false, Bool.false_or, Bool.true_and, Bool.and_true, decide_eq_true_eq, decide_eq_false_iff_not, Bool.and_eq_true, Bool.or_eq_true, Bool.or_eq_false_iff, Bool.not_eq_true', Bool.and_eq_false_iff, beq_iff_eq, bne_iff_ne, bne_eq_false_iff_eq, beq_eq_false_iff_ne, Bool.not_eq_false'] at hc0 hc1); exact ⟨(by first | omega | (simp [len_u8s]; omega) | (simp [len_u8s]; done)), (by exfalso; omega), trivial⟩)), trivial⟩ ?_
          refine AWP.cond (b := false || bl true ((!off') == off') || false || false) (by kernel_rfl) (fun hq3 => ?_) (fun hq3 => ?_)
          · simp only [Bool.or_false, Bool.false_or] at hq3
            (simp [bl] at hq3; done)
          simp only [Bool.or_false, Bool.false_or] at hq3
          refine AWP.skip ?_
          refine AWP.region tcok hmix [(0, ⟨some (i64 (i + 1)), none⟩)] (os := [i64 (IntKind.wrap IntKind.i64 (i + 1)) = i64 (i + 1)]) (sf := St.mk [(1, tp (u32 fr)), (2, tp (u32 to_)), (6, tp (vb false)), (7, tp (V.ptr 230003 0)), (8, tp (V.ptr 24 0)), (25, tp (V.vs (actC X) m)), (26, tp (i64 (↑m : Int))), (27, tp (i64 (i + 1))), (116, tp (vb (false || bl true ((!off') == off') || false || false))), (117, tp (i64 (i + 1)))] [(24, Blk.mk [V.sl 240 0 0, vb off'] false 2 none), (240, Blk.mk (rowsI L') true 0 (some (96, 3))), (230001, Blk.mk (idsC K') true 0 (some (0, 0))), (230002, Blk.mk (rowsI L') true 0 (some (79, 3))), (230003, Blk.mk [V.sl 230002 0 0, V.mp 230001, vb off'] false 3 none)]) (by kernel_rfl) ⟨(wr_i64 (by omega) (by omega)), trivial⟩ ?_
          refine ⟨St.mk [(1, tp (u32 fr)), (2, tp (u32 to_)), (6, tp (vb false)), (7, tp (V.ptr 230003 0)), (8, tp (V.ptr 24 0)), (25, tp (V.vs (actC X) m)), (26, tp (i64 (↑m : Int))), (27, tp (i64 (i + 1)))] [(24, Blk.mk [V.sl 240 0 0, vb off'] false 2 none), (240, Blk.mk (rowsI L') true 0 (some (96, 3))), (230001, Blk.mk (idsC K') true 0 (some (0, 0))), (230002, Blk.mk (rowsI L') true 0 (some (79, 3))), (230003, Blk.mk [V.sl 230002 0 0, V.mp 230001, vb off'] false 3 none)], by kernel_rfl, ?_⟩
          first | (exact ⟨(m - (i + 1)).toNat, (by omega), i + 1, 0, L', K', off', rfl, (by omega), (by omega), hn', hL', hK', (by omega)⟩) | (exfalso; simp at hq3; done) | (exfalso; omega)
        simp only [decide_eq_false_iff_not] at hq1
        (exfalso; omega)
      · obtain ⟨y, hy⟩ : ∃ y, L'[0]? = some y := ⟨_, List.getElem?_eq_getElem (by omega)⟩
        have c8 := con_pnext y L' hy n' hn' (by omega) K' off'
        have wr := rowsI_at hy
        have wg := rowsI_t hy
        have wb3 : decide ((n' : Int) > 0) = true := decide_eq_true (by omega)
        have wb4 : (y.t != y.t) = false := by simp
        refine xe0 [1, 2, 6, 7, 8, 25, 26, 27, 28] [24, 240, 230001, 230002, 230003] (by kernel_rfl) ?_
        refine AWP.seq ?_
        refine AWP.cond (b := decide (i < (↑m : Int))) (by kernel_rfl) (fun hq4 => ?_) (fun hq4 => ?_)
        · simp only [decide_eq_true_eq] at hq4
          refine AWP.skip ?_
          refine AWP.seq ?_
          refine AWP.block ?_
          refine xe1 (os := [(0 : Int) ≤ i ∧ i < (↑m : Int), V.vp (List.drop (Int.toNat i * 6) (actC X)) = V.vp (u8 x.d :: u32 x.t :: u16 x.id :: V.vs (u8s x.c) x.k :: i32 x.b :: vb x.on :: actC (List.drop (Int.toNat i + 1) X))]) [(1, ⟨some (V.vp (u8 x.d :: u32 x.t :: u16 x.id :: V.vs (u8s x.c) x.k :: i32 x.b :: vb x.on :: actC (List.drop (Int.toNat i + 1) X))), none⟩)] [1, 2, 6, 7, 8, 9, 10, 25, 26, 27] [230003, 24, 10, 240, 230002, 230001] (by kernel_rfl) ⟨(by omega), (congrArg V.vp hd), trivial⟩ ?_
          refine AWP.seq ?_
          refine xe0 [1, 2, 6, 7, 8, 10, 25, 26, 27, 33] [230003, 24, 10, 240, 230002, 230001] (by kernel_rfl) ?_
          refine AWP.cond (b := decide (i ≥ 60)) (by kernel_rfl) (fun hq5 => ?_) (fun hq5 => ?_)
          · simp only [decide_eq_true_eq] at hq5
            (exfalso; omega)
          simp only [decide_eq_false_iff_not] at hq5
          refine AWP.skip ?_
          refine xe1 (os := [Con Try.prog 27 [] [V.vs (u8s x.c) x.k, i64 230] [] (V.vs (u8s c') k')]) [(2, ⟨none, some ⟨V.vs (u8s c') k', [], []⟩⟩)] [1, 2, 6, 7, 8, 10, 25, 26, 27] [230003, 24, 10, 240, 230002, 230001] (by kernel_rfl) ⟨(c0 ), trivial⟩ ?_
          refine xe1 (os := [Con Try.prog 33 [(1000000000, Blk.mk (rowsI L) true 0 (some (96, 3))), (2000000030, Blk.mk [V.sl 1000000000 0 n, vb off] false 2 none)] [V.ptr 2000000030 0, V.agg true [u8 x.d, u32 x.t, u16 x.id, V.vs (u8s c') k', i32 x.b, vb x.on]] [(1000000000, Blk.mk (rowsI L') true 0 (some (96, 3))), (2000000030, Blk.mk [V.sl 1000000000 0 n', vb off'] false 2 none)] (V.tup [i64 code, V.vs (tcC out) no])]) [(2, ⟨some (V.tup [V.sl 1000000000 240 0, V.sl 2000000030 24 0]), some ⟨V.tup [i64 code, V.vs (tcC out) no], [(1000000000, Blk.mk (rowsI L') true 0 (some (96, 3))), (2000000030, Blk.mk [V.sl 1000000000 0 n', vb off'] false 2 none)], []⟩⟩)] [1, 2, 6, 7, 8, 10, 11, 12, 25, 26, 27] [230003, 24, 10, 240, 230002, 230001] (by kernel_rfl) ⟨(c1 ), trivial⟩ ?_
          refine xe1 (os := [Con Try.prog 34 [(1000000000, Blk.mk (rowsI L) true 0 (some (79, 3))), (2000000010, Blk.mk [V.sl 1000000000 0 n, V.mp 2000000011, vb off] false 3 none), (2000000011, Blk.mk (idsC K) true 0 (some (0, 0)))] [V.ptr 2000000010 0, V.agg true [u8 x.d, u32 x.t, u16 x.id, V.vs (u8s c') k', i32 x.b, vb x.on]] [(1000000000, Blk.mk (rowsI L') true 0 (some (79, 3))), (2000000010, Blk.mk [V.sl 1000000000 0 n', V.mp 2000000011, vb off'] false 3 none), (2000000011, Blk.mk (idsC K') true 0 (some (0, 0)))] (V.tup [i64 code, V.vs (tcC out) no])]) [(2, ⟨some (V.tup [V.sl 1000000000 230002 0, V.sl 2000000010 230003 0, V.sl 2000000011 230001 0]), some ⟨V.tup [i64 code, V.vs (tcC out) no], [(1000000000, Blk.mk (rowsI L') true 0 (some (79, 3))), (2000000010, Blk.mk [V.sl 1000000000 0 n', V.mp 2000000011, vb off'] false 3 none), (2000000011, Blk.mk (idsC K') true 0 (some (0, 0)))], []⟩⟩)] [1, 2, 6, 7, 8, 11, 12, 13, 14, 25, 26, 27] [230003, 24, 240, 230002, 230001] (by kernel_rfl) ⟨(c2 ), trivial⟩ ?_
          refine xe1 (os := [Con Try.prog 35 [(2000000000, Blk.mk (rowsI L') true 0 (some (79, 3))), (2000000010, Blk.mk [V.sl 2000000000 0 n', V.mp 2000000011, vb off'] false 3 none), (2000000011, Blk.mk (idsC K') true 0 (some (0, 0)))] [V.ptr 2000000010 0] [(2000000000, Blk.mk (rowsI L') true 0 (some (79, 3))), (2000000010, Blk.mk [V.sl 2000000000 0 n', V.mp 2000000011, vb off'] false 3 none), (2000000011, Blk.mk (idsC K') true 0 (some (0, 0)))] (V.tup [u32 y.t, vb true])]) [(1, ⟨some (V.tup [V.sl 2000000000 230002 0, V.sl 2000000010 230003 0, V.sl 2000000011 230001 0]), some ⟨V.tup [u32 y.t, vb true], [(2000000000, Blk.mk (rowsI L') true 0 (some (79, 3))), (2000000010, Blk.mk [V.sl 2000000000 0 n', V.mp 2000000011, vb off'] false 3 none), (2000000011, Blk.mk (idsC K') true 0 (some (0, 0)))], []⟩⟩)] [1, 2, 6, 7, 8, 11, 12, 13, 14, 15, 16, 25, 26, 27] [230003, 24, 240, 230002, 230001] (by kernel_rfl) ⟨(c8 ), trivial⟩ ?_
          refine AWP.seq ?_
          refine AWP.regionNP tcok hmix [0, 1, 2, 3, 4, 5, 6, 7, 8, 9, 10, 12, 13, 14, 15, 11, 16, 17, 18, 19, 20, 22, 23, 24, 25, 26, 21, 27, 28, 29, 30, 32, 33, 34, 35, 31, 36, 37, 38, 39, 40, 41, 42, 43, 44, 45, 46, 47, 48, 49, 50, 51, 52, 53, 54, 55, 56, 57, 58, 59, 60, 61] [0, 1, 2, 3, 4, 5, 6, 7, 8, 9, 10, 15, 11, 12, 13, 14, 16, 17, 18, 19, 20, 26, 21, 22, 23, 24, 25, 27, 28, 29, 30, 35, 31, 32, 33, 34, 36, 37, 38, 39, 40, 41, 42, 43, 44, 45, 46, 47, 48, 49, 50, 51, 52, 53, 54, 55, 56, 57, 58, 59, 60, 61] (by kernel_rfl) [(2, ⟨some (vb false), none⟩), (6, ⟨none, some ⟨vb true, [], []⟩⟩), (11, ⟨none, some ⟨V.bo, [], []⟩⟩), (12, ⟨none, some ⟨V.bo, [], []⟩⟩), (13, ⟨none, some ⟨V.bo, [], []⟩⟩), (14, ⟨none, some ⟨V.bo, [], []⟩⟩), (15, ⟨some (V.tup [V.sl 2000000000 230002 0, V.sl 2000000010 230003 0, V.sl 2000000011 230001 0]), some ⟨V.sl 100003 0 n', [(100003, Blk.mk (rowsI L') true 0 (some (79, 3))), (2000000000, Blk.mk (rowsI L') true 0 (some (79, 3))), (2000000010, Blk.mk [V.sl 2000000000 0 n', V.mp 2000000011, vb off'] false 3 none), (2000000011, Blk.mk (idsC K') true 0 (some (0, 0)))], []⟩⟩), (16, ⟨none, some ⟨vb true, [], [(240, true), (770003, true)]⟩⟩), (21, ⟨none, some ⟨V.bo, [], []⟩⟩), (22, ⟨none, some ⟨V.bo, [], []⟩⟩), (23, ⟨none, some ⟨V.bo, [], []⟩⟩), (24, ⟨none, some ⟨V.bo, [], []⟩⟩), (25, ⟨none, some ⟨V.bo, [], []⟩⟩), (26, ⟨some (V.tup [V.sl 2000000000 230002 0, V.sl 2000000010 230003 0, V.sl 2000000011 230001 0]), some ⟨i64 (↑n' : Int), [(2000000000, Blk.mk (rowsI L') true 0 (some (79, 3))), (2000000010, Blk.mk [V.sl 2000000000 0 n', V.mp 2000000011, vb off'] false 3 none), (2000000011, Blk.mk (idsC K') true 0 (some (0, 0)))], []⟩⟩), (27, ⟨some (vb false), none⟩), (31, ⟨none, some ⟨V.bo, [], []⟩⟩), (32, ⟨none, some ⟨V.bo, [], []⟩⟩), (33, ⟨none, some ⟨V.bo, [], []⟩⟩), (34, ⟨none, some ⟨V.bo, [], []⟩⟩), (35, ⟨some (V.tup [V.sl 2000000000 230002 0, V.sl 2000000010 230003 0, V.sl 2000000011 230001 0]), some ⟨vb !off', [(2000000000, Blk.mk (rowsI L') true 0 (some (79, 3))), (2000000010, Blk.mk [V.sl 2000000000 0 n', V.mp 2000000011, vb off'] false 3 none), (2000000011, Blk.mk (idsC K') true 0 (some (0, 0)))], []⟩⟩), (45, ⟨some (vb true), none⟩), (56, ⟨some (V.ptr 240 0), none⟩), (58, ⟨some (u32 y.t), none⟩), (59, ⟨some (vb false), none⟩)] [1, 2, 6, 7, 8, 25, 26, 27, 116] [230003, 24, 240, 230002, 230001] (os := [vb (code != code) = vb false, false = ((3 : Nat), false).snd → Con Try.prog (36 : Nat) [] [V.vs (tcC out) no, V.vs (tcC out) no] [] (vb true) ∧ True, Con Try.prog 30 [(2000000000, Blk.mk (rowsI L') true 0 (some (79, 3))), (2000000010, Blk.mk [V.sl 2000000000 0 n', V.mp 2000000011, vb off'] false 3 none), (2000000011, Blk.mk (idsC K') true 0 (some (0, 0)))] [V.ptr 2000000010 0] [(100003, Blk.mk (rowsI L') true 0 (some (79, 3))), (2000000000, Blk.mk (rowsI L') true 0 (some (79, 3))), (2000000010, Blk.mk [V.sl 2000000000 0 n', V.mp 2000000011, vb off'] false 3 none), (2000000011, Blk.mk (idsC K') true 0 (some (0, 0)))] (V.sl 100003 0 n'), false = ((9 : Nat), false).snd → VO (vb true) ∧ VOH [] ∧ Con Try.prog (37 : Nat) [] [V.vs (rowsI L') n', V.vs (rowsI L') n'] [] (vb true) ∧ (0 : Nat) = (0 : Nat) ∧ n' * (3 : Nat) = List.length (rowsI L') ∧ (0 : Nat) = (0 : Nat) ∧ n' * (3 : Nat) = List.length (rowsI L') ∧ True, Con Try.prog 26 [(2000000000, Blk.mk (rowsI L') true 0 (some (79, 3))), (2000000010, Blk.mk [V.sl 2000000000 0 n', V.mp 2000000011, vb off'] false 3 none), (2000000011, Blk.mk (idsC K') true 0 (some (0, 0)))] [V.ptr 2000000010 0] [(2000000000, Blk.mk (rowsI L') true 0 (some (79, 3))), (2000000010, Blk.mk [V.sl 2000000000 0 n', V.mp 2000000011, vb off'] false 3 none), (2000000011, Blk.mk (idsC K') true 0 (some (0, 0)))] (i64 (↑n' : Int)), false = ((19 : Nat), false).snd → vb ((↑n' : Int) != (↑n' : Int)) = vb false ∧ True, Con Try.prog 38 [(2000000000, Blk.mk (rowsI L') true 0 (some (79, 3))), (2000000010, Blk.mk [V.sl 2000000000 0 n', V.mp 2000000011, vb off'] false 3 none), (2000000011, Blk.mk (idsC K') true 0 (some (0, 0)))] [V.ptr 2000000010 0] [(2000000000, Blk.mk (rowsI L') true 0 (some (79, 3))), (2000000010, Blk.mk [V.sl 2000000000 0 n', V.mp 2000000011, vb off'] false 3 none), (2000000011, Blk.mk (idsC K') true 0 (some (0, 0)))] (vb !off'), (false || bl true ((!off') == off')) = ((38 : Nat), false).snd → vb (decide ((↑n' : Int) > (0 : Int))) = vb true ∧ True, true = ((50 : Nat), true).snd → (false || bl true ((!off') == off') || false) = false → ((0 : Int) ≤ (0 : Int) ∧ (0 : Int) < (↑n' : Int)) ∧ V.ptr (240 : Nat) (0 : Nat) = V.ptr (240 : Nat) (0 : Nat) ∧ True, true = ((50 : Nat), true).snd → (false || bl true ((!off') == off') || false) = false → (1 : Nat) ≤ List.length (rowsI L') ∧ part_ true (isRow (TypeDesc.int IntKind.u32)) (rowsI L') (0 : Nat) (1 : Nat) = u32 y.t ∧ True, true = ((50 : Nat), true).snd → (false || bl true ((!off') == off') || false) = false → vb (y.t != y.t) = vb false ∧ True]) (by kernel_rfl) ⟨(congrArg (fun b => V.val (Value.bool b)) wb0), (fun _ => ⟨(c3 ), trivial⟩), (c4 ), (by intro hc0; first | (cases hc0; done) | ((try simp only [Bool.or_false, Bool.false_or, Bool.true_and, Bool.and_true, decide_eq_true_eq, decide_eq_false_iff_not, Bool.and_eq_true, Bool.or_eq_true, Bool.or_eq_false_iff, Bool.not_eq_true', Bool.and_eq_false_iff, beq_iff_eq, bne_iff_ne, bne_eq_false_iff_eq, beq_eq_false_iff_ne, Bool.not_eq_false'] at hc0); exact ⟨(VO.val _), trivial, (c5 ), (by omega), (by first | omega | (simp [len_u8s]; done) | (simp [len_u8s]; omega)), (by omega), (by first | omega | (simp [len_u8s]; done) | (simp [len_u8s]; omega)), trivial⟩)), (c6 ), (fun _ => ⟨(congrArg (fun b => V.val (Value.bool b)) wb2), trivial⟩), (c7 ), (fun _ => ⟨(congrArg (fun b => V.val (Value.bool b)) wb3), trivial⟩), (by intro hc0 hc1; first | (cases hc0; done) | ((try simp only [Bool.or_false, Bool.false_or, Bool.true_and, Bool.and_true, decide_eq_true_eq, decide_eq_false_iff_not, Bool.and_eq_true, Bool.or_eq_true, Bool.or_eq_false_iff, Bool.not_eq_true', Bool.and_eq_false_iff, beq_iff_eq, bne_iff_ne, bne_eq_false_iff_eq, beq_eq_false_iff_ne, Bool.not_eq_false'] at hc0 hc1); exact ⟨(by omega), rfl, trivial⟩)), (by intro hc0 hc1; first | (cases hc0; done) | ((try simp only [Bool.or_false, Bool.false_or, Bool.true_and, Bool.and_true, decide_eq_true_eq, decide_eq_false_iff_not, Bool.and_eq_true, Bool.or_eq_true, Bool.or_eq_false_iff, Bool.not_eq_true', Bool.and_eq_false_iff, beq_iff_eq, bne_iff_ne, bne_eq_false_iff_eq, beq_eq_false_iff_ne, Bool.not_eq_false'] at hc0 hc1); exact ⟨(by first | omega | (simp [len_u8s]; done) | (simp [len_u8s]; omega)), (wg ), trivial⟩)), (fun _ _ => ⟨(congrArg (fun b => V.val (Value.bool b)) wb4), trivial⟩), trivial⟩ ?_
          refine AWP.cond (b := false || bl true ((!off') == off') || false || false) (by kernel_rfl) (fun hq6 => ?_) (fun hq6 => ?_)
          · simp only [Bool.or_false, Bool.false_or] at hq6
            (simp [bl] at hq6; done)
          simp only [Bool.or_false, Bool.false_or] at hq6
          refine AWP.skip ?_
          refine AWP.region tcok hmix [(0, ⟨some (i64 (i + 1)), none⟩)] (os := [i64 (IntKind.wrap IntKind.i64 (i + 1)) = i64 (i + 1)]) (sf := St.mk [(1, tp (u32 fr)), (2, tp (u32 to_)), (6, tp (vb false)), (7, tp (V.ptr 230003 0)), (8, tp (V.ptr 24 0)), (25, tp (V.vs (actC X) m)), (26, tp (i64 (↑m : Int))), (27, tp (i64 (i + 1))), (116, tp (vb (false || bl true ((!off') == off') || false || false))), (117, tp (i64 (i + 1)))] [(24, Blk.mk [V.sl 240 0 n', vb off'] false 2 none), (240, Blk.mk (rowsI L') true 0 (some (96, 3))), (230001, Blk.mk (idsC K') true 0 (some (0, 0))), (230002, Blk.mk (rowsI L') true 0 (some (79, 3))), (230003, Blk.mk [V.sl 230002 0 n', V.mp 230001, vb off'] false 3 none)]) (by kernel_rfl) ⟨(wr_i64 (by omega) (by omega)), trivial⟩ ?_
          refine ⟨St.mk [(1, tp (u32 fr)), (2, tp (u32 to_)), (6, tp (vb false)), (7, tp (V.ptr 230003 0)), (8, tp (V.ptr 24 0)), (25, tp (V.vs (actC X) m)), (26, tp (i64 (↑m : Int))), (27, tp (i64 (i + 1)))] [(24, Blk.mk [V.sl 240 0 n', vb off'] false 2 none), (240, Blk.mk (rowsI L') true 0 (some (96, 3))), (230001, Blk.mk (idsC K') true 0 (some (0, 0))), (230002, Blk.mk (rowsI L') true 0 (some (79, 3))), (230003, Blk.mk [V.sl 230002 0 n', V.mp 230001, vb off'] false 3 none)], by kernel_rfl, ?_⟩
          first | (exact ⟨(m - (i + 1)).toNat, (by omega), i + 1, n', L', K', off', rfl, (by omega), (by omega), hn', hL', hK', (by omega)⟩) | (exfalso; simp at hq6; done) | (exfalso; omega)
        simp only [decide_eq_false_iff_not] at hq4
        (exfalso; omega)
    · refine AWP.seq ?_
      refine xg0 [1, 2, 6, 7, 8, 25, 26, 27, 28] [24, 240, 230001, 230002, 230003] (by kernel_rfl) ?_
      refine AWP.seq ?_
      refine AWP.cond (b := decide (i < (↑m : Int))) (by kernel_rfl) (fun hq7 => ?_) (fun hq7 => ?_)
      rotate_left
      · simp only [decide_eq_false_iff_not] at hq7
        (exfalso; omega)
      simp only [decide_eq_true_eq] at hq7
      refine AWP.skip ?_
      refine AWP.seq ?_
      refine AWP.block ?_
      refine xe1 (os := [(0 : Int) ≤ i ∧ i < (↑m : Int), V.vp (List.drop (Int.toNat i * 6) (actC X)) = V.vp (u8 x.d :: u32 x.t :: u16 x.id :: V.vs (u8s x.c) x.k :: i32 x.b :: vb x.on :: actC (List.drop (Int.toNat i + 1) X))]) [(1, ⟨some (V.vp (u8 x.d :: u32 x.t :: u16 x.id :: V.vs (u8s x.c) x.k :: i32 x.b :: vb x.on :: actC (List.drop (Int.toNat i + 1) X))), none⟩)] [1, 2, 6, 7, 8, 9, 10, 25, 26, 27] [230003, 24, 10, 240, 230002, 230001] (by kernel_rfl) ⟨(by omega), (congrArg V.vp hd), trivial⟩ ?_
      refine AWP.seq ?_
      refine xe0 [1, 2, 6, 7, 8, 10, 25, 26, 27, 33] [230003, 24, 10, 240, 230002, 230001] (by kernel_rfl) ?_
      refine AWP.cond (b := decide (i ≥ 60)) (by kernel_rfl) (fun hq8 => ?_) (fun hq8 => ?_)
      rotate_left
      · simp only [decide_eq_false_iff_not] at hq8
        (exfalso; omega)
      simp only [decide_eq_true_eq] at hq8
      refine AWP.exit ?_
      refine xe0 [1, 2, 6, 7, 8, 17] [230003, 24, 17, 240, 230002, 230001] (by kernel_rfl) ?_
      refine AWP.seq ?_
      refine xe0 [1, 2, 6, 7, 17, 121, 122, 123] [230003, 17, 240, 230002, 230001] (by kernel_rfl) ?_
      refine AWP.block ?_
      refine AWP.loopI [123, 122, 121, 1, 2, 17, 7, 6] [17, 240, 230001, 230002, 230003] (fun N s' => ∃ (i : Int) (j : Nat) (M : List It), s' = St.mk [(1, T.plain (u32 fr)), (2, T.plain (u32 to_)), (6, T.plain (vb false)), (7, T.plain (V.ptr 230003 0)), (17, T.plain (V.sl 17 0 j)), (121, T.plain (V.sl 240 0 n)), (122, T.plain (i64 (n : Int))), (123, T.plain (i64 i))] [(17, Blk.mk (rowsI M) true 0 (some (96, 3))), (240, Blk.mk (rowsI L) true 0 (some (96, 3))), (230001, Blk.mk (idsC K) true 0 (some (0, 0))), (230002, Blk.mk (rowsI L) true 0 (some (79, 3))), (230003, Blk.mk [V.sl 230002 0 n, V.mp 230001, vb off] false 3 none)] ∧ 0 ≤ i ∧ i ≤ n ∧ M = keepP (pBt fr to_) (L.take i.toNat) ∧ M.length = j ∧ (N : Int) = n - i) n (s0 := St.mk [(1, T.plain (u32 fr)), (2, T.plain (u32 to_)), (6, T.plain (vb false)), (7, T.plain (V.ptr 230003 0)), (17, T.plain (V.sl 17 0 0)), (121, T.plain (V.sl 240 0 n)), (122, T.plain (i64 (n : Int))), (123, T.plain (i64 0))] [(17, Blk.mk [] true 0 (some (96, 3))), (240, Blk.mk (rowsI L) true 0 (some (96, 3))), (230001, Blk.mk (idsC K) true 0 (some (0, 0))), (230002, Blk.mk (rowsI L) true 0 (some (79, 3))), (230003, Blk.mk [V.sl 230002 0 n, V.mp 230001, vb off] false 3 none)]) (by kernel_rfl) ?_ ?_
      · exact ⟨0, 0, [], rfl, by omega, by omega, rfl, rfl, by omega⟩
      clear hN hi him
      rintro N s' ⟨i, j, M, rfl, hi, hin, hM, hj, hN⟩
      have hj32 : j ≤ 32 := by rw [← hj, hM]; exact Nat.le_trans (List.filter_sublist.length_le) (by rw [List.length_take]; omega)
      have hrl := rowsI_len L
      have hrm := rowsI_len M
      by_cases hlt2 : i < n
      · obtain ⟨y, hy⟩ : ∃ y, L[i.toNat]? = some y := ⟨_, List.getElem?_eq_getElem (by omega)⟩
        have wr := rowsI_at hy
        have e := keep_next (pBt fr to_) hy
        rw [show i.toNat + 1 = (i + 1).toNat by omega, ← hM] at e
        by_cases hb : y.t < fr ∨ y.t > to_
        · have hp : pBt fr to_ y = true := by unfold pBt; simpa using hb
          rw [if_pos hp, List.append_nil] at e
          refine xe0 [1, 2, 6, 7, 17, 121, 122, 123, 124] [17, 240, 230001, 230002, 230003] (by kernel_rfl) ?_
          refine AWP.seq ?_
          refine AWP.cond (b := decide (i < (↑n : Int))) (by kernel_rfl) (fun hq9 => ?_) (fun hq9 => ?_)
          · simp only [decide_eq_true_eq] at hq9
            refine AWP.skip ?_
            refine AWP.seq ?_
            refine AWP.block ?_
            refine xe1 (os := [(0 : Int) ≤ i ∧ i < (↑n : Int), V.ptr 240 (0 + Int.toNat i * 3) = V.ptr 240 (0 + Int.toNat i * 3), (0 : Nat) + Int.toNat i * (3 : Nat) + (3 : Nat) ≤ List.length (rowsI L), V.agg true (List.take 3 (List.drop (0 + Int.toNat i * 3) (rowsI L))) = V.agg true [u32 y.t, u16 y.id, V.vs (u8s y.c) y.k]]) [(0, ⟨some (V.ptr 240 (0 + Int.toNat i * 3)), none⟩), (1, ⟨some (V.agg true (It.row y)), none⟩)] [1, 2, 6, 7, 17, 19, 121, 122, 123] [230003, 17, 19, 240, 230002, 230001] (by kernel_rfl) ⟨(by omega), rfl, (by first | omega | (simp [len_u8s]; done) | (simp [len_u8s]; omega)), (congrArg (V.agg true) (wr )), trivial⟩ ?_
            refine xe0 [1, 2, 6, 7, 17, 19, 121, 122, 123, 136] [230003, 17, 19, 240, 230002, 230001] (by kernel_rfl) ?_
            refine AWP.cond (b := decide (y.t ≥ fr) && decide (y.t ≤ to_)) (by kernel_rfl) (fun hq10 => ?_) (fun hq10 => ?_)
            · simp only [decide_eq_true_eq, Bool.and_eq_true] at hq10
              (exfalso; omega)
            simp only [decide_eq_false_iff_not, Bool.and_eq_false_iff] at hq10
            refine AWP.skip ?_
            refine AWP.region tcok hmix [(0, ⟨some (i64 (i + 1)), none⟩)] (os := [i64 (IntKind.wrap IntKind.i64 (i + 1)) = i64 (i + 1)]) (sf := St.mk [(1, tp (u32 fr)), (2, tp (u32 to_)), (6, tp (vb false)), (7, tp (V.ptr 230003 0)), (17, tp (V.sl 17 0 j)), (19, tp (V.ptr 19 0)), (121, tp (V.sl 240 0 n)), (122, tp (i64 (↑n : Int))), (123, tp (i64 (i + 1))), (136, tp (vb (decide (y.t ≥ fr) && decide (y.t ≤ to_)))), (141, tp (i64 (i + 1)))] [(17, Blk.mk (rowsI M) true 0 (some (96, 3))), (19, Blk.mk [u32 y.t, u16 y.id, V.vs (u8s y.c) y.k] true 3 none), (240, Blk.mk (rowsI L) true 0 (some (96, 3))), (230001, Blk.mk (idsC K) true 0 (some (0, 0))), (230002, Blk.mk (rowsI L) true 0 (some (79, 3))), (230003, Blk.mk [V.sl 230002 0 n, V.mp 230001, vb off] false 3 none)]) (by kernel_rfl) ⟨(wr_i64 (by omega) (by omega)), trivial⟩ ?_
            refine ⟨St.mk [(1, tp (u32 fr)), (2, tp (u32 to_)), (6, tp (vb false)), (7, tp (V.ptr 230003 0)), (17, tp (V.sl 17 0 j)), (121, tp (V.sl 240 0 n)), (122, tp (i64 (↑n : Int))), (123, tp (i64 (i + 1)))] [(17, Blk.mk (rowsI M) true 0 (some (96, 3))), (240, Blk.mk (rowsI L) true 0 (some (96, 3))), (230001, Blk.mk (idsC K) true 0 (some (0, 0))), (230002, Blk.mk (rowsI L) true 0 (some (79, 3))), (230003, Blk.mk [V.sl 230002 0 n, V.mp 230001, vb off] false 3 none)], by kernel_rfl, ?_⟩
            first | (exact ⟨(n - (i + 1)).toNat, (by omega), i + 1, j, M, rfl, (by omega), (by omega), e.symm, hj, (by omega)⟩) | (exfalso; omega)
          simp only [decide_eq_false_iff_not] at hq9
          (exfalso; omega)
        · have hp : ¬pBt fr to_ y = true := by unfold pBt; simp only [Bool.or_eq_true, decide_eq_true_eq]; exact hb
          rw [if_neg hp] at e
          obtain ⟨M', hM'⟩ : ∃ M', M ++ [y] = M' := ⟨_, rfl⟩
          have hr' : rowsI M ++ [u32 y.t, u16 y.id, V.vs (u8s y.c) y.k] = rowsI M' := by rw [← hM', rowsI_app]; rfl
          have hl' : M'.length = j + 1 := by rw [← hM', List.length_append, hj]; rfl
          rw [hM'] at e
          refine xe0 [1, 2, 6, 7, 17, 121, 122, 123, 124] [17, 240, 230001, 230002, 230003] (by kernel_rfl) ?_
          refine AWP.seq ?_
          refine AWP.cond (b := decide (i < (↑n : Int))) (by kernel_rfl) (fun hq11 => ?_) (fun hq11 => ?_)
          · simp only [decide_eq_true_eq] at hq11
            refine AWP.skip ?_
            refine AWP.seq ?_
            refine AWP.block ?_
            refine xe1 (os := [(0 : Int) ≤ i ∧ i < (↑n : Int), V.ptr 240 (0 + Int.toNat i * 3) = V.ptr 240 (0 + Int.toNat i * 3), (0 : Nat) + Int.toNat i * (3 : Nat) + (3 : Nat) ≤ List.length (rowsI L), V.agg true (List.take 3 (List.drop (0 + Int.toNat i * 3) (rowsI L))) = V.agg true [u32 y.t, u16 y.id, V.vs (u8s y.c) y.k]]) [(0, ⟨some (V.ptr 240 (0 + Int.toNat i * 3)), none⟩), (1, ⟨some (V.agg true (It.row y)), none⟩)] [1, 2, 6, 7, 17, 19, 121, 122, 123] [230003, 17, 19, 240, 230002, 230001] (by kernel_rfl) ⟨(by omega), rfl, (by first | omega | (simp [len_u8s]; done) | (simp [len_u8s]; omega)), (congrArg (V.agg true) (wr )), trivial⟩ ?_
            refine xe0 [1, 2, 6, 7, 17, 19, 121, 122, 123, 136] [230003, 17, 19, 240, 230002, 230001] (by kernel_rfl) ?_
            refine AWP.cond (b := decide (y.t ≥ fr) && decide (y.t ≤ to_)) (by kernel_rfl) (fun hq12 => ?_) (fun hq12 => ?_)
            · simp only [decide_eq_true_eq, Bool.and_eq_true] at hq12
              refine AWP.region tcok hmix [(3, ⟨some (V.tup [V.agg true (rowsI M ++ [u32 y.t, u16 y.id, V.vs (u8s y.c) y.k]), V.sl 0 0 (j + 1)]), none⟩)] (os := [(3 : Nat) ≤ (3 : Nat), j * (3 : Nat) = List.length (rowsI M), j + (1 : Nat) ≤ (9223372036854775807 : Nat), (j + (1 : Nat)) * (32 : Nat) ≤ (140737488355328 : Nat), rowsI M ++ List.take ((1 : Nat) * (3 : Nat)) (List.drop (0 : Nat) [u32 y.t, u16 y.id, V.vs (u8s y.c) y.k]) = rowsI M ++ [u32 y.t, u16 y.id, V.vs (u8s y.c) y.k], j + (1 : Nat) = j + (1 : Nat)]) (sf := St.mk [(1, tp (u32 fr)), (2, tp (u32 to_)), (6, tp (vb false)), (7, tp (V.ptr 230003 0)), (17, tp (V.sl 17 0 (j + 1))), (19, tp (V.ptr 19 0)), (121, tp (V.sl 240 0 n)), (122, tp (i64 (↑n : Int))), (123, tp (i64 i)), (136, tp (vb (decide (y.t ≥ fr) && decide (y.t ≤ to_)))), (137, tp V.top), (138, tp (V.agg true [u32 y.t, u16 y.id, V.vs (u8s y.c) y.k])), (139, tp (V.sl 139 0 1)), (140, tp (V.sl 17 0 (j + 1)))] [(17, Blk.mk (rowsI M ++ [u32 y.t, u16 y.id, V.vs (u8s y.c) y.k]) true 0 (some (96, 3))), (19, Blk.mk [u32 y.t, u16 y.id, V.vs (u8s y.c) y.k] true 3 none), (139, Blk.mk [u32 y.t, u16 y.id, V.vs (u8s y.c) y.k] true 0 (some (96, 3))), (240, Blk.mk (rowsI L) true 0 (some (96, 3))), (230001, Blk.mk (idsC K) true 0 (some (0, 0))), (230002, Blk.mk (rowsI L) true 0 (some (79, 3))), (230003, Blk.mk [V.sl 230002 0 n, V.mp 230001, vb off] false 3 none)]) (by kernel_rfl) ⟨(by omega), (by first | omega | (simp [len_u8s]; done) | (simp [len_u8s]; omega)), (by omega), (by omega), (by first | rfl | (simp only [u8s_drop, u8s_take, List.drop_zero, Nat.mul_one, Nat.one_mul, u8s_app, List.take_length, List.nil_append, List.append_nil]; done) | (simp [u8s]; done) | (simp [u8s]; omega)), (by omega), trivial⟩ ?_
              refine AWP.keep' [1, 2, 6, 7, 17, 121, 122, 123] [230003, 17, 240, 230002, 230001] (sf := St.mk [(1, tp (u32 fr)), (2, tp (u32 to_)), (6, tp (vb false)), (7, tp (V.ptr 230003 0)), (17, tp (V.sl 17 0 (j + 1))), (121, tp (V.sl 240 0 n)), (122, tp (i64 (↑n : Int))), (123, tp (i64 i))] [(17, Blk.mk (rowsI M ++ [u32 y.t, u16 y.id, V.vs (u8s y.c) y.k]) true 0 (some (96, 3))), (240, Blk.mk (rowsI L) true 0 (some (96, 3))), (230001, Blk.mk (idsC K) true 0 (some (0, 0))), (230002, Blk.mk (rowsI L) true 0 (some (79, 3))), (230003, Blk.mk [V.sl 230002 0 n, V.mp 230001, vb off] false 3 none)]) (by kernel_rfl) ?_
              refine AWP.region tcok hmix [(0, ⟨some (i64 (i + 1)), none⟩)] (os := [i64 (IntKind.wrap IntKind.i64 (i + 1)) = i64 (i + 1)]) (sf := St.mk [(1, tp (u32 fr)), (2, tp (u32 to_)), (6, tp (vb false)), (7, tp (V.ptr 230003 0)), (17, tp (V.sl 17 0 (j + 1))), (121, tp (V.sl 240 0 n)), (122, tp (i64 (↑n : Int))), (123, tp (i64 (i + 1))), (141, tp (i64 (i + 1)))] [(17, Blk.mk (rowsI M ++ [u32 y.t, u16 y.id, V.vs (u8s y.c) y.k]) true 0 (some (96, 3))), (240, Blk.mk (rowsI L) true 0 (some (96, 3))), (230001, Blk.mk (idsC K) true 0 (some (0, 0))), (230002, Blk.mk (rowsI L) true 0 (some (79, 3))), (230003, Blk.mk [V.sl 230002 0 n, V.mp 230001, vb off] false 3 none)]) (by kernel_rfl) ⟨(wr_i64 (by omega) (by omega)), trivial⟩ ?_
              refine ⟨St.mk [(1, tp (u32 fr)), (2, tp (u32 to_)), (6, tp (vb false)), (7, tp (V.ptr 230003 0)), (17, tp (V.sl 17 0 (j + 1))), (121, tp (V.sl 240 0 n)), (122, tp (i64 (↑n : Int))), (123, tp (i64 (i + 1)))] [(17, Blk.mk (rowsI M ++ [u32 y.t, u16 y.id, V.vs (u8s y.c) y.k]) true 0 (some (96, 3))), (240, Blk.mk (rowsI L) true 0 (some (96, 3))), (230001, Blk.mk (idsC K) true 0 (some (0, 0))), (230002, Blk.mk (rowsI L) true 0 (some (79, 3))), (230003, Blk.mk [V.sl 230002 0 n, V.mp 230001, vb off] false 3 none)], by kernel_rfl, ?_⟩
              first | (rw [hr']; exact ⟨(n - (i + 1)).toNat, (by omega), i + 1, j + 1, M', rfl, (by omega), (by omega), e.symm, hl', (by omega)⟩) | (exfalso; omega)
            simp only [decide_eq_false_iff_not, Bool.and_eq_false_iff] at hq12
            (exfalso; omega)
          simp only [decide_eq_false_iff_not] at hq11
          (exfalso; omega)
      have hin2 : i = n := by omega
      subst hin2
      rw [Int.toNat_natCast, List.take_of_length_le (Nat.le_of_eq hn)] at hM
      have c1 := con_pbtw L n hn (by omega) hL.c K off fr to_ M hM.symm j hj
      have c2 := con_like_eq M j hj (by omega) (fun a ha => hL.c a (by rw [hM] at ha; exact List.filter_sublist.subset ha))
      refine xe0 [1, 2, 6, 7, 17, 121, 122, 123, 124] [17, 240, 230001, 230002, 230003] (by kernel_rfl) ?_
      refine AWP.seq ?_
      refine AWP.cond (b := decide ((↑n : Int) < (↑n : Int))) (by kernel_rfl) (fun hq13 => ?_) (fun hq13 => ?_)
      · simp only [decide_eq_true_eq] at hq13
        (exfalso; omega)
      simp only [decide_eq_false_iff_not] at hq13
      refine AWP.exit ?_
      refine xe1 (os := [Con Try.prog 32 [(2000000000, Blk.mk (rowsI L) true 0 (some (79, 3))), (2000000010, Blk.mk [V.sl 2000000000 0 n, V.mp 2000000011, vb off] false 3 none), (2000000011, Blk.mk (idsC K) true 0 (some (0, 0)))] [V.ptr 2000000010 0, u32 fr, u32 to_] [(190003, Blk.mk (rowsI M) true 0 (some (79, 3))), (2000000000, Blk.mk (rowsI L) true 0 (some (79, 3))), (2000000010, Blk.mk [V.sl 2000000000 0 n, V.mp 2000000011, vb off] false 3 none), (2000000011, Blk.mk (idsC K) true 0 (some (0, 0)))] (V.sl 190003 0 j), VO (vb true), VOH [], Con Try.prog 37 [] [V.vs (rowsI M) j, V.vs (rowsI M) j] [] (vb true), (0 : Nat) = (0 : Nat), j * (3 : Nat) = List.length (rowsI M), (0 : Nat) = (0 : Nat), j * (3 : Nat) = List.length (rowsI M)]) [(3, ⟨some (V.tup [V.sl 2000000000 230002 0, V.sl 2000000010 230003 0, V.sl 2000000011 230001 0]), some ⟨V.sl 190003 0 j, [(190003, Blk.mk (rowsI M) true 0 (some (79, 3))), (2000000000, Blk.mk (rowsI L) true 0 (some (79, 3))), (2000000010, Blk.mk [V.sl 2000000000 0 n, V.mp 2000000011, vb off] false 3 none), (2000000011, Blk.mk (idsC K) true 0 (some (0, 0)))], []⟩⟩), (5, ⟨none, some ⟨vb true, [], [(17, true), (1650003, true)]⟩⟩)] [6] [] (by kernel_rfl) ⟨(c1 ), (VO.val _), trivial, (c2 ), (by omega), (by first | omega | (simp [len_u8s]; done) | (simp [len_u8s]; omega)), (by omega), (by first | omega | (simp [len_u8s]; done) | (simp [len_u8s]; omega)), trivial⟩ ?_
      refine AWP.ret ?_
      refine ⟨Or.inr rfl, Eq.trans (b := some ([], vb true)) (by kernel_rfl) ?_⟩
      first | rfl | (exfalso; omega)
  refine xe0 [1, 2, 6, 7, 8, 25, 26, 27, 28] [24, 240, 230001, 230002, 230003] (by kernel_rfl) ?_
  refine AWP.seq ?_
  refine AWP.cond (b := decide (i < (↑m : Int))) (by kernel_rfl) (fun hq14 => ?_) (fun hq14 => ?_)
  · simp only [decide_eq_true_eq] at hq14
    (exfalso; omega)
  simp only [decide_eq_false_iff_not] at hq14
  refine AWP.exit ?_
  refine xe0 [1, 2, 6, 7, 8, 17] [230003, 24, 17, 240, 230002, 230001] (by kernel_rfl) ?_
  refine AWP.seq ?_
  refine xe0 [1, 2, 6, 7, 17, 121, 122, 123] [230003, 17, 240, 230002, 230001] (by kernel_rfl) ?_
  refine AWP.block ?_
  refine AWP.loopI [123, 122, 121, 1, 2, 17, 7, 6] [17, 240, 230001, 230002, 230003] (fun N s' => ∃ (i : Int) (j : Nat) (M : List It), s' = St.mk [(1, T.plain (u32 fr)), (2, T.plain (u32 to_)), (6, T.plain (vb false)), (7, T.plain (V.ptr 230003 0)), (17, T.plain (V.sl 17 0 j)), (121, T.plain (V.sl 240 0 n)), (122, T.plain (i64 (n : Int))), (123, T.plain (i64 i))] [(17, Blk.mk (rowsI M) true 0 (some (96, 3))), (240, Blk.mk (rowsI L) true 0 (some (96, 3))), (230001, Blk.mk (idsC K) true 0 (some (0, 0))), (230002, Blk.mk (rowsI L) true 0 (some (79, 3))), (230003, Blk.mk [V.sl 230002 0 n, V.mp 230001, vb off] false 3 none)] ∧ 0 ≤ i ∧ i ≤ n ∧ M = keepP (pBt fr to_) (L.take i.toNat) ∧ M.length = j ∧ (N : Int) = n - i) n (s0 := St.mk [(1, T.plain (u32 fr)), (2, T.plain (u32 to_)), (6, T.plain (vb false)), (7, T.plain (V.ptr 230003 0)), (17, T.plain (V.sl 17 0 0)), (121, T.plain (V.sl 240 0 n)), (122, T.plain (i64 (n : Int))), (123, T.plain (i64 0))] [(17, Blk.mk [] true 0 (some (96, 3))), (240, Blk.mk (rowsI L) true 0 (some (96, 3))), (230001, Blk.mk (idsC K) true 0 (some (0, 0))), (230002, Blk.mk (rowsI L) true 0 (some (79, 3))), (230003, Blk.mk [V.sl 230002 0 n, V.mp 230001, vb off] false 3 none)]) (by kernel_rfl) ?_ ?_
  · exact ⟨0, 0, [], rfl, by omega, by omega, rfl, rfl, by omega⟩
  clear hN hi him
  rintro N s' ⟨i, j, M, rfl, hi, hin, hM, hj, hN⟩
  have hj32 : j ≤ 32 := by rw [← hj, hM]; exact Nat.le_trans (List.filter_sublist.length_le) (by rw [List.length_take]; omega)
  have hrl := rowsI_len L
  have hrm := rowsI_len M
  by_cases hlt2 : i < n
  · obtain ⟨y, hy⟩ : ∃ y, L[i.toNat]? = some y := ⟨_, List.getElem?_eq_getElem (by omega)⟩
    have wr := rowsI_at hy
    have e := keep_next (pBt fr to_) hy
    rw [show i.toNat + 1 = (i + 1).toNat by omega, ← hM] at e
    by_cases hb : y.t < fr ∨ y.t > to_
    · have hp : pBt fr to_ y = true := by unfold pBt; simpa using hb
      rw [if_pos hp, List.append_nil] at e
      refine xe0 [1, 2, 6, 7, 17, 121, 122, 123, 124] [17, 240, 230001, 230002, 230003] (by kernel_rfl) ?_
      refine AWP.seq ?_
      refine AWP.cond (b := decide (i < (↑n : Int))) (by kernel_rfl) (fun hq15 => ?_) (fun hq15 => ?_)
      · simp only [decide_eq_true_eq] at hq15
        refine AWP.skip ?_
        refine AWP.seq ?_
        refine AWP.block ?_
        refine xe1 (os := [(0 : Int) ≤ i ∧ i < (↑n : Int), V.ptr 240 (0 + Int.toNat i * 3) = V.ptr 240 (0 + Int.toNat i * 3), (0 : Nat) + Int.toNat i * (3 : Nat) + (3 : Nat) ≤ List.length (rowsI L), V.agg true (List.take 3 (List.drop (0 + Int.toNat i * 3) (rowsI L))) = V.agg true [u32 y.t, u16 y.id, V.vs (u8s y.c) y.k]]) [(0, ⟨some (V.ptr 240 (0 + Int.toNat i * 3)), none⟩), (1, ⟨some (V.agg true (It.row y)), none⟩)] [1, 2, 6, 7, 17, 19, 121, 122, 123] [230003, 17, 19, 240, 230002, 230001] (by kernel_rfl) ⟨(by omega), rfl, (by first | omega | (simp [len_u8s]; done) | (simp [len_u8s]; omega)), (congrArg (V.agg true) (wr )), trivial⟩ ?_
        refine xe0 [1, 2, 6, 7, 17, 19, 121, 122, 123, 136] [230003, 17, 19, 240, 230002, 230001] (by kernel_rfl) ?_
        refine AWP.cond (b := decide (y.t ≥ fr) && decide (y.t ≤ to_)) (by kernel_rfl) (fun hq16 => ?_) (fun hq16 => ?_)
        · simp only [decide_eq_true_eq, Bool.and_eq_true] at hq16
          (exfalso; omega)
        simp only [decide_eq_false_iff_not, Bool.and_eq_false_iff] at hq16
        refine AWP.skip ?_
        refine AWP.region tcok hmix [(0, ⟨some (i64 (i + 1)), none⟩)] (os := [i64 (IntKind.wrap IntKind.i64 (i + 1)) = i64 (i + 1)]) (sf := St.mk [(1, tp (u32 fr)), (2, tp (u32 to_)), (6, tp (vb false)), (7, tp (V.ptr 230003 0)), (17, tp (V.sl 17 0 j)), (19, tp (V.ptr 19 0)), (121, tp (V.sl 240 0 n)), (122, tp (i64 (↑n : Int))), (123, tp (i64 (i + 1))), (136, tp (vb (decide (y.t ≥ fr) && decide (y.t ≤ to_)))), (141, tp (i64 (i + 1)))] [(17, Blk.mk (rowsI M) true 0 (some (96, 3))), (19, Blk.mk [u32 y.t, u16 y.id, V.vs (u8s y.c) y.k] true 3 none), (240, Blk.mk (rowsI L) true 0 (some (96, 3))), (230001, Blk.mk (idsC K) true 0 (some (0, 0))), (230002, Blk.mk (rowsI L) true 0 (some (79, 3))), (230003, Blk.mk [V.sl 230002 0 n, V.mp 230001, vb off] false 3 none)]) (by kernel_rfl) ⟨(wr_i64 (by omega) (by omega)), trivial⟩ ?_
        refine ⟨St.mk [(1, tp (u32 fr)), (2, tp (u32 to_)), (6, tp (vb false)), (7, tp (V.ptr 230003 0)), (17, tp (V.sl 17 0 j)), (121, tp (V.sl 240 0 n)), (122, tp (i64 (↑n : Int))), (123, tp (i64 (i + 1)))] [(17, Blk.mk (rowsI M) true 0 (some (96, 3))), (240, Blk.mk (rowsI L) true 0 (some (96, 3))), (230001, Blk.mk (idsC K) true 0 (some (0, 0))), (230002, Blk.mk (rowsI L) true 0 (some (79, 3))), (230003, Blk.mk [V.sl 230002 0 n, V.mp 230001, vb off] false 3 none)], by kernel_rfl, ?_⟩
        first | (exact ⟨(n - (i + 1)).toNat, (by omega), i + 1, j, M, rfl, (by omega), (by omega), e.symm, hj, (by omega)⟩) | (exfalso; omega)
      simp only [decide_eq_false_iff_not] at hq15
      (exfalso; omega)
    · have hp : ¬pBt fr to_ y = true := by unfold pBt; simp only [Bool.or_eq_true, decide_eq_true_eq]; exact hb
      rw [if_neg hp] at e
      obtain ⟨M', hM'⟩ : ∃ M', M ++ [y] = M' := ⟨_, rfl⟩
      have hr' : rowsI M ++ [u32 y.t, u16 y.id, V.vs (u8s y.c) y.k] = rowsI M' := by rw [← hM', rowsI_app]; rfl
      have hl' : M'.length = j + 1 := by rw [← hM', List.length_append, hj]; rfl
      rw [hM'] at e
      refine xe0 [1, 2, 6, 7, 17, 121, 122, 123, 124] [17, 240, 230001, 230002, 230003] (by kernel_rfl) ?_
      refine AWP.seq ?_
      refine AWP.cond (b := decide (i < (↑n : Int))) (by kernel_rfl) (fun hq17 => ?_) (fun hq17 => ?_)
      · simp only [decide_eq_true_eq] at hq17
        refine AWP.skip ?_
        refine AWP.seq ?_
        refine AWP.block ?_
        refine xe1 (os := [(0 : Int) ≤ i ∧ i < (↑n : Int), V.ptr 240 (0 + Int.toNat i * 3) = V.ptr 240 (0 + Int.toNat i * 3), (0 : Nat) + Int.toNat i * (3 : Nat) + (3 : Nat) ≤ List.length (rowsI L), V.agg true (List.take 3 (List.drop (0 + Int.toNat i * 3) (rowsI L))) = V.agg true [u32 y.t, u16 y.id, V.vs (u8s y.c) y.k]]) [(0, ⟨some (V.ptr 240 (0 + Int.toNat i * 3)), none⟩), (1, ⟨some (V.agg true (It.row y)), none⟩)] [1, 2, 6, 7, 17, 19, 121, 122, 123] [230003, 17, 19, 240, 230002, 230001] (by kernel_rfl) ⟨(by omega), rfl, (by first | omega | (simp [len_u8s]; done) | (simp [len_u8s]; omega)), (congrArg (V.agg true) (wr )), trivial⟩ ?_
        refine xe0 [1, 2, 6, 7, 17, 19, 121, 122, 123, 136] [230003, 17, 19, 240, 230002, 230001] (by kernel_rfl) ?_
        refine AWP.cond (b := decide (y.t ≥ fr) && decide (y.t ≤ to_)) (by kernel_rfl) (fun hq18 => ?_) (fun hq18 => ?_)
        · simp only [decide_eq_true_eq, Bool.and_eq_true] at hq18
          refine AWP.region tcok hmix [(3, ⟨some (V.tup [V.agg true (rowsI M ++ [u32 y.t, u16 y.id, V.vs (u8s y.c) y.k]), V.sl 0 0 (j + 1)]), none⟩)] (os := [(3 : Nat) ≤ (3 : Nat), j * (3 : Nat) = List.length (rowsI M), j + (1 : Nat) ≤ (9223372036854775807 : Nat), (j + (1 : Nat)) * (32 : Nat) ≤ (140737488355328 : Nat), rowsI M ++ List.take ((1 : Nat) * (3 : Nat)) (List.drop (0 : Nat) [u32 y.t, u16 y.id, V.vs (u8s y.c) y.k]) = rowsI M ++ [u32 y.t, u16 y.id, V.vs (u8s y.c) y.k], j + (1 : Nat) = j + (1 : Nat)]) (sf := St.mk [(1, tp (u32 fr)), (2, tp (u32 to_)), (6, tp (vb false)), (7, tp (V.ptr 230003 0)), (17, tp (V.sl 17 0 (j + 1))), (19, tp (V.ptr 19 0)), (121, tp (V.sl 240 0 n)), (122, tp (i64 (↑n : Int))), (123, tp (i64 i)), (136, tp (vb (decide (y.t ≥ fr) && decide (y.t ≤ to_)))), (137, tp V.top), (138, tp (V.agg true [u32 y.t, u16 y.id, V.vs (u8s y.c) y.k])), (139, tp (V.sl 139 0 1)), (140, tp (V.sl 17 0 (j + 1)))] [(17, Blk.mk (rowsI M ++ [u32 y.t, u16 y.id, V.vs (u8s y.c) y.k]) true 0 (some (96, 3))), (19, Blk.mk [u32 y.t, u16 y.id, V.vs (u8s y.c) y.k] true 3 none), (139, Blk.mk [u32 y.t, u16 y.id, V.vs (u8s y.c) y.k] true 0 (some (96, 3))), (240, Blk.mk (rowsI L) true 0 (some (96, 3))), (230001, Blk.mk (idsC K) true 0 (some (0, 0))), (230002, Blk.mk (rowsI L) true 0 (some (79, 3))), (230003, Blk.mk [V.sl 230002 0 n, V.mp 230001, vb off] false 3 none)]) (by kernel_rfl) ⟨(by omega), (by first | omega | (simp [len_u8s]; done) | (simp [len_u8s]; omega)), (by omega), (by omega), (by first | rfl | (simp only [u8s_drop, u8s_take, List.drop_zero, Nat.mul_one, Nat.one_mul, u8s_app, List.take_length, List.nil_append, List.append_nil]; done) | (simp [u8s]; done) | (simp [u8s]; omega)), (by omega), trivial⟩ ?_
          refine AWP.keep' [1, 2, 6, 7, 17, 121, 122, 123] [230003, 17, 240, 230002, 230001] (sf := St.mk [(1, tp (u32 fr)), (2, tp (u32 to_)), (6, tp (vb false)), (7, tp (V.ptr 230003 0)), (17, tp (V.sl 17 0 (j + 1))), (121, tp (V.sl 240 0 n)), (122, tp (i64 (↑n : Int))), (123, tp (i64 i))] [(17, Blk.mk (rowsI M ++ [u32 y.t, u16 y.id, V.vs (u8s y.c) y.k]) true 0 (some (96, 3))), (240, Blk.mk (rowsI L) true 0 (some (96, 3))), (230001, Blk.mk (idsC K) true 0 (some (0, 0))), (230002, Blk.mk (rowsI L) true 0 (some (79, 3))), (230003, Blk.mk [V.sl 230002 0 n, V.mp 230001, vb off] false 3 none)]) (by kernel_rfl) ?_
          refine AWP.region tcok hmix [(0, ⟨some (i64 (i + 1)), none⟩)] (os := [i64 (IntKind.wrap IntKind.i64 (i + 1)) = i64 (i + 1)]) (sf := St.mk [(1, tp (u32 fr)), (2, tp (u32 to_)), (6, tp (vb false)), (7, tp (V.ptr 230003 0)), (17, tp (V.sl 17 0 (j + 1))), (121, tp (V.sl 240 0 n)), (122, tp (i64 (↑n : Int))), (123, tp (i64 (i + 1))), (141, tp (i64 (i + 1)))] [(17, Blk.mk (rowsI M ++ [u32 y.t, u16 y.id, V.vs (u8s y.c) y.k]) true 0 (some (96, 3))), (240, Blk.mk (rowsI L) true 0 (some (96, 3))), (230001, Blk.mk (idsC K) true 0 (some (0, 0))), (230002, Blk.mk (rowsI L) true 0 (some (79, 3))), (230003, Blk.mk [V.sl 230002 0 n, V.mp 230001, vb off] false 3 none)]) (by kernel_rfl) ⟨(wr_i64 (by omega) (by omega)), trivial⟩ ?_
          refine ⟨St.mk [(1, tp (u32 fr)), (2, tp (u32 to_)), (6, tp (vb false)), (7, tp (V.ptr 230003 0)), (17, tp (V.sl 17 0 (j + 1))), (121, tp (V.sl 240 0 n)), (122, tp (i64 (↑n : Int))), (123, tp (i64 (i + 1)))] [(17, Blk.mk (rowsI M ++ [u32 y.t, u16 y.id, V.vs (u8s y.c) y.k]) true 0 (some (96, 3))), (240, Blk.mk (rowsI L) true 0 (some (96, 3))), (230001, Blk.mk (idsC K) true 0 (some (0, 0))), (230002, Blk.mk (rowsI L) true 0 (some (79, 3))), (230003, Blk.mk [V.sl 230002 0 n, V.mp 230001, vb off] false 3 none)], by kernel_rfl, ?_⟩
          first | (rw [hr']; exact ⟨(n - (i + 1)).toNat, (by omega), i + 1, j + 1, M', rfl, (by omega), (by omega), e.symm, hl', (by omega)⟩) | (exfalso; omega)
        simp only [decide_eq_false_iff_not, Bool.and_eq_false_iff] at hq18
        (exfalso; omega)
      simp only [decide_eq_false_iff_not] at hq17
      (exfalso; omega)
  have hin2 : i = n := by omega
  subst hin2
  rw [Int.toNat_natCast, List.take_of_length_le (Nat.le_of_eq hn)] at hM
  have c1 := con_pbtw L n hn (by omega) hL.c K off fr to_ M hM.symm j hj
  have c2 := con_like_eq M j hj (by omega) (fun a ha => hL.c a (by rw [hM] at ha; exact List.filter_sublist.subset ha))
  refine xe0 [1, 2, 6, 7, 17, 121, 122, 123, 124] [17, 240, 230001, 230002, 230003] (by kernel_rfl) ?_
  refine AWP.seq ?_
  refine AWP.cond (b := decide ((↑n : Int) < (↑n : Int))) (by kernel_rfl) (fun hq19 => ?_) (fun hq19 => ?_)
  · simp only [decide_eq_true_eq] at hq19
    (exfalso; omega)
  simp only [decide_eq_false_iff_not] at hq19
  refine AWP.exit ?_
  refine xe1 (os := [Con Try.prog 32 [(2000000000, Blk.mk (rowsI L) true 0 (some (79, 3))), (2000000010, Blk.mk [V.sl 2000000000 0 n, V.mp 2000000011, vb off] false 3 none), (2000000011, Blk.mk (idsC K) true 0 (some (0, 0)))] [V.ptr 2000000010 0, u32 fr, u32 to_] [(190003, Blk.mk (rowsI M) true 0 (some (79, 3))), (2000000000, Blk.mk (rowsI L) true 0 (some (79, 3))), (2000000010, Blk.mk [V.sl 2000000000 0 n, V.mp 2000000011, vb off] false 3 none), (2000000011, Blk.mk (idsC K) true 0 (some (0, 0)))] (V.sl 190003 0 j), VO (vb true), VOH [], Con Try.prog 37 [] [V.vs (rowsI M) j, V.vs (rowsI M) j] [] (vb true), (0 : Nat) = (0 : Nat), j * (3 : Nat) = List.length (rowsI M), (0 : Nat) = (0 : Nat), j * (3 : Nat) = List.length (rowsI M)]) [(3, ⟨some (V.tup [V.sl 2000000000 230002 0, V.sl 2000000010 230003 0, V.sl 2000000011 230001 0]), some ⟨V.sl 190003 0 j, [(190003, Blk.mk (rowsI M) true 0 (some (79, 3))), (2000000000, Blk.mk (rowsI L) true 0 (some (79, 3))), (2000000010, Blk.mk [V.sl 2000000000 0 n, V.mp 2000000011, vb off] false 3 none), (2000000011, Blk.mk (idsC K) true 0 (some (0, 0)))], []⟩⟩), (5, ⟨none, some ⟨vb true, [], [(17, true), (1650003, true)]⟩⟩)] [6] [] (by kernel_rfl) ⟨(c1 ), (VO.val _), trivial, (c2 ), (by omega), (by first | omega | (simp [len_u8s]; done) | (simp [len_u8s]; omega)), (by omega), (by first | omega | (simp [len_u8s]; done) | (simp [len_u8s]; omega)), trivial⟩ ?_
  refine AWP.ret ?_
  refine ⟨Or.inr rfl, Eq.trans (b := some ([], vb true)) (by kernel_rfl) ?_⟩
  first | rfl | (exfalso; omega)
end Go.Proofs.Ytlfjnkobnkfioaa
