/- Chapter 04: BitsAsks. -/
import Derived.Test.YtmeiemdnhjnpcaaDoorRg
import Derived.Test.YtmeiemdnhjnpcaaDoorBitG
import Derived.Test.YtmeiemdnhjnpcaaDoorBitF
namespace Go.Proofs.YtmeiemdnhjnpcaaDoor
open Go.Ab
set_option linter.unusedSimpArgs false
set_option linter.unusedVariables false
set_option maxHeartbeats 4000000
set_option maxRecDepth 100000
theorem nxt_at {s : Int} {n k : Nat} (hk : k < 16) (hn : n ≤ k) (hb : bitB s k = true) (h : ∀ j, n ≤ j → j < k → bitB s j = false) : nxt s n = (k : Int) := by
  unfold nxt
  rcases ups_find (s := s) (16 - n) n (by omega) with ⟨h1, h2⟩ | ⟨q, h1, h2, h3, h4, h5⟩
  · rw [h2 k hn hk] at hb
    cases hb
  · rw [h5]
    have : q = k := by
      rcases Nat.lt_trichotomy q k with hlt | heq | hgt
      · rw [h q h1 hlt] at h3; cases h3
      · exact heq
      · rw [h4 k hn hgt] at hb; cases hb
    rw [this]
theorem nxt_none {s : Int} {n : Nat} (h : ∀ j, n ≤ j → j < 16 → bitB s j = false) : nxt s n = -1 := by
  unfold nxt
  by_cases hn : n < 16
  · rcases ups_find (s := s) (16 - n) n (by omega) with ⟨h1, h2⟩ | ⟨q, h1, h2, h3, h4, h5⟩
    · rw [h1]
    · rw [h q h1 h2] at h3; cases h3
  · rw [ups_end (by omega)]
theorem bit_mem {s : Int} {j : Nat} (hj : j < 16) (hb : bitB s j = true) : (⟨j, hj⟩ : Fin 16) ∈ upsF s 0 := by
  have h : j ∈ ups s 0 := by
    unfold ups
    rw [List.mem_filter, List.mem_range'_1]
    exact ⟨by omega, hb⟩
  rw [← upsF_val s 16 0 rfl, List.mem_map] at h
  obtain ⟨x, hx, e⟩ := h
  have : x = ⟨j, hj⟩ := Fin.ext e
  rw [← this]
  exact hx
theorem mem_bit {s : Int} {x : Fin 16} (h : x ∈ upsF s 0) : bitB s x.val = true := by
  have h2 : x.val ∈ ups s 0 := by
    rw [← upsF_val s 16 0 rfl, List.mem_map]
    exact ⟨x, h, rfl⟩
  unfold ups at h2
  exact (List.mem_filter.1 h2).2
/-- The first p units are less than i. -/
def lessI (s i : Int) (p : Nat) : Prop := ∀ x ∈ (upsF s 0).take p, ((x.val : Nat) : Int) < i
theorem lessI_next {s i : Int} {p : Nat} {x : Fin 16} (h : lessI s i p) (e : (upsF s 0).take (p + 1) = (upsF s 0).take p ++ [x]) (hx : ((x.val : Nat) : Int) < i) : lessI s i (p + 1) := by
  intro y hy
  rw [e] at hy
  rcases List.mem_append.1 hy with hy | hy
  · exact h y hy
  · rw [List.mem_singleton.1 hy]; exact hx
theorem rise_F (s : Int) : (upsF s 0).Pairwise (fun a b => a.val < b.val) := by
  have hp : (ups s 0).Pairwise (· < ·) := by
    unfold ups
    exact List.Pairwise.filter _ List.pairwise_lt_range'
  rw [← upsF_val s 16 0 rfl, List.pairwise_map] at hp
  exact hp
theorem lessI_found {s i : Int} {p : Nat} {x : Fin 16} (h : lessI s i p) (hx : (upsF s 0)[p]? = some x) (hi : ¬ ((x.val : Nat) : Int) < i) : nxt s i.toNat = ((x.val : Nat) : Int) := by
  obtain ⟨hp, e⟩ := List.getElem?_eq_some_iff.1 hx
  have hxm : x ∈ upsF s 0 := by rw [← e]; exact List.getElem_mem hp
  refine nxt_at x.isLt (by omega) (mem_bit hxm) fun j h1 h2 => ?_
  cases hb : bitB s j with
  | false => rfl
  | true =>
    exfalso
    obtain ⟨q, hq, eq⟩ := List.mem_iff_getElem.1 (bit_mem (by omega : j < 16) hb)
    have hqp : q < p := by
      rcases Nat.lt_or_ge q p with h3 | h3
      · exact h3
      · exfalso
        rcases Nat.lt_or_ge p q with h4 | h4
        · have := List.pairwise_iff_getElem.1 (rise_F s) p q hp hq h4
          rw [e, eq] at this
          simp at this
          omega
        · have : q = p := by omega
          subst this
          rw [e] at eq
          rw [eq] at h2
          simp at h2
    have hm : (upsF s 0)[q] ∈ (upsF s 0).take p := by
      rw [List.mem_take_iff_getElem]
      exact ⟨q, by omega, rfl⟩
    have := h _ hm
    rw [eq] at this
    simp at this
    omega
theorem lessI_none {s i : Int} (h : lessI s i (upsF s 0).length) : nxt s i.toNat = -1 := by
  refine nxt_none fun j h1 h2 => ?_
  cases hb : bitB s j with
  | false => rfl
  | true =>
    exfalso
    have := h _ (by rw [List.take_length]; exact bit_mem h2 hb)
    simp at this
    omega
theorem law_asks (s i st : Int) (A : List V) (k : Nat) (hs : 0 ≤ s ∧ s < 65536) (hst : 0 ≤ st ∧ st < 256) (hi : -9223372036854775808 ≤ i ∧ i ≤ 9223372036854775807) (hA : lst s 16 = A) (hk : A.length = k) :
    Con Tryd.prog 4 [] [u16 s, i64 i, u8 st] [] (vb true) := by
  have iA : I64L A := hA ▸ lst_i64 s 16 (by omega)
  have hl : (upsF s 0).length = k := by rw [← hk, ← hA, lst_upsF, List.length_map]
  have hk16 : k ≤ 16 := by rw [← hl]; exact upsF_len s
  have c1 := con_list s hs A k hA hk
  refine Con.of (C := ⟨Tryd.prog, tc, Tryd.f4.ntmps⟩) [] tcok Tryd.func4 rfl rfl (by kernel_rfl) (by kernel_rfl) ?_
  refine xe0 [0, 1, 2, 6] [] (by kernel_rfl) ?_
  refine AWP.seq ?_
  refine xe1 [(0, ⟨none, some ⟨vb true, [], []⟩⟩)] [0, 1, 2, 6, 14] [] (by kernel_rfl) (AllP.c (con_awake04 ) AllP.n) ?_
  refine AWP.condF (by kernel_rfl) ?_
  refine AWP.skip ?_
  refine xe1 (os := [Con Tryd.prog 9 [] [u16 s] [(3, Blk.mk A true 0 (some (3, 1)))] (V.sl 3 0 k)]) [(1, ⟨none, some ⟨V.sl 3 0 k, [(3, Blk.mk A true 0 (some (3, 1)))], []⟩⟩)] [0, 1, 2, 6, 7] [170003] (by kernel_rfl) ⟨(c1 ), trivial⟩ ?_
  refine xe0 [0, 1, 2, 6, 7, 8] [170003] (by kernel_rfl) ?_
  refine AWP.seq ?_
  refine xe0 [0, 1, 2, 6, 7, 8, 17, 18, 19] [170003] (by kernel_rfl) ?_
  refine AWP.block ?_
  refine AWP.frz 170003 (s' := St.mk [(0, T.plain (u16 s)), (1, T.plain (i64 i)), (2, T.plain (u8 st)), (6, T.plain (vb false)), (7, T.plain (V.vs A k)), (8, T.plain (i64 (-1))), (17, T.plain (V.vs A k)), (18, T.plain (i64 (k : Int))), (19, T.plain (i64 0))] []) (by kernel_rfl) ?_
  refine AWP.loopI [0, 1, 2, 6, 7, 8, 17, 18, 19] [] (fun N st' => ∃ p : Int, st' = St.mk [(0, T.plain (u16 s)), (1, T.plain (i64 i)), (2, T.plain (u8 st)), (6, T.plain (vb false)), (7, T.plain (V.vs A k)), (8, T.plain (i64 (-1))), (17, T.plain (V.vs A k)), (18, T.plain (i64 (k : Int))), (19, T.plain (i64 p))] [] ∧ lessI s i p.toNat ∧ 0 ≤ p ∧ p ≤ k ∧ (N : Int) = k - p) k (s0 := St.mk [(0, T.plain (u16 s)), (1, T.plain (i64 i)), (2, T.plain (u8 st)), (6, T.plain (vb false)), (7, T.plain (V.vs A k)), (8, T.plain (i64 (-1))), (17, T.plain (V.vs A k)), (18, T.plain (i64 (k : Int))), (19, T.plain (i64 0))] []) (by kernel_rfl) ?_ ?_
  · exact ⟨0, rfl, fun x hx => (by cases hx), by omega, by omega, by omega⟩
  rintro N st' ⟨p, rfl, hp0, hp, hp2, hN⟩
  have ht : st.tmod 5 = st % 5 := Int.tmod_eq_emod_of_nonneg (by omega)
  have d1 := con_has s i
  rw [has_lst, hA] at d1
  have d0 := con_in A k i iA hk (by omega)
  generalize inV A i = bi at *
  have d2 := con_count s hs
  rw [pop_len hs, hA, hk] at d2
  have d3 := con_next s i hs
  have d4 := con_first s hs
  have d5 := con_text s hs
  have d6 := con_rtext s A k hA hk
  have d7 := told_all s hs A k hA hk
  have hAu : A = (ups s 0).map fun (j : Nat) => i64 (j : Int) := by rw [← hA, lst_ups]
  have at_ : ∀ q : Nat, q < k → ∃ (u : Int) (r : List V), A.drop (q * 1) = i64 u :: r := fun q hq => by
    obtain ⟨u, r, _, h⟩ := i64_at iA q
    exact ⟨u, r, (h (by omega)).1⟩
  have d8 := con_same A A k (by omega) (fun q hq => by obtain ⟨u, r, h⟩ := at_ q hq; exact ⟨u, r, r, h, h⟩)
  obtain ⟨m, hm⟩ : ∃ m : Nat, min (1 + st % 5).toNat k = m := ⟨_, rfl⟩
  have wf1 : imin (1 + st % 5) (k : Int) = (m : Int) := by unfold imin; split <;> omega
  have d9 := con_told s (1 + st % 5) hs (by omega) (A.take m) m (by rw [List.map_take, ← hAu, ← hm, List.take_eq_take_iff]; omega) (by rw [List.length_take]; omega)
  have d10 := con_same (A.take m) (A.take m) m (by omega) (fun q hq => by
    obtain ⟨u, r, h⟩ := at_ q (by omega)
    refine ⟨u, r.take (m - (q + 1)), r.take (m - (q + 1)), ?_, ?_⟩ <;> (rw [Nat.mul_one] at h ⊢; rw [List.drop_take, h, show m - q = (m - (q + 1)) + 1 by omega, List.take_succ_cons]))
  have d11 : Con Tryd.prog 20 [] [.vs (A.take m) m, .vs (subV A none (some (.val (.int .i64 (m : Int)))) (((0 : Nat) : Int).toNat * 1) ((m : Int).toNat * 1) (((m : Int).toNat - ((0 : Nat) : Int).toNat) * 1)) ((m : Int).toNat - 0)] [] (vb true) := Con.args (by simp [subV]) d10
  by_cases hlt : p < k
  · obtain ⟨x, r, kx, hn, hat⟩ := upsF_at s p.toNat (by omega)
    rw [hA] at kx
    have hx := x.isLt
    by_cases hxi : ((x.val : Nat) : Int) < i
    · refine AWP.seq ?_
      refine xg0 [0, 1, 2, 6, 7, 8, 17, 18, 19, 20] [] (by kernel_rfl) ?_
      refine AWP.seq ?_
      refine AWP.cond (b := decide (p < (↑k : Int))) (by kernel_rfl) (fun hq1 => ?_) (fun hq1 => ?_)
      · simp only [decide_eq_true_eq] at hq1
        refine AWP.skip ?_
        refine AWP.seq ?_
        refine AWP.block ?_
        refine xe1 (os := [(0 : Int) ≤ p ∧ p < (↑k : Int), V.vp (List.drop (Int.toNat p * 1) A) = V.vp (i64 (↑(↑x : Nat) : Int) :: r)]) [(0, ⟨some (V.vp (i64 (↑(↑x : Nat) : Int) :: r)), none⟩)] [0, 1, 2, 6, 7, 8, 10, 17, 18, 19] [] (by kernel_rfl) ⟨(by omega), (congrArg V.vp kx), trivial⟩ ?_
        refine xe0 [0, 1, 2, 6, 7, 8, 10, 17, 18, 19, 25] [] (by kernel_rfl) ?_
        refine AWP.cond (b := decide ((↑(↑x : Nat) : Int) ≥ i)) (by kernel_rfl) (fun hq2 => ?_) (fun hq2 => ?_)
        · simp only [decide_eq_true_eq] at hq2
          (exfalso; omega)
        simp only [decide_eq_false_iff_not] at hq2
        refine AWP.skip ?_
        refine AWP.region tcok hmix [(0, ⟨some (i64 (p + 1)), none⟩)] (os := [i64 (IntKind.wrap IntKind.i64 (p + 1)) = i64 (p + 1)]) (sf := St.mk [(0, tp (u16 s)), (1, tp (i64 i)), (2, tp (u8 st)), (6, tp (vb false)), (7, tp (V.vs A k)), (8, tp (i64 (-1))), (10, tp (i64 (↑(↑x : Nat) : Int))), (17, tp (V.vs A k)), (18, tp (i64 (↑k : Int))), (19, tp (i64 (p + 1))), (25, tp (vb (decide ((↑(↑x : Nat) : Int) ≥ i)))), (27, tp (i64 (p + 1)))] []) (by kernel_rfl) ⟨(wr_i64 (by omega) (by omega)), trivial⟩ ?_
        refine ⟨St.mk [(0, tp (u16 s)), (1, tp (i64 i)), (2, tp (u8 st)), (6, tp (vb false)), (7, tp (V.vs A k)), (8, tp (i64 (-1))), (17, tp (V.vs A k)), (18, tp (i64 (↑k : Int))), (19, tp (i64 (p + 1)))] [], by kernel_rfl, ?_⟩
        first | (exact ⟨(k - (p + 1)).toNat, (by omega), p + 1, rfl, (by rw [show (p + 1).toNat = p.toNat + 1 by omega]; exact lessI_next hp0 hn hxi), (by omega), (by omega), (by omega)⟩) | (exfalso; omega)
      simp only [decide_eq_false_iff_not] at hq1
      (exfalso; omega)
    · rw [lessI_found hp0 hat hxi] at d3
      obtain ⟨x0, r0, kz, _, hat0⟩ := upsF_at s 0 (by omega)
      rw [hA] at kz
      have e0 : nxt s 0 = ((x0.val : Nat) : Int) := lessI_found (i := 0) (p := 0) (fun x hx => by cases hx) hat0 (by omega)
      rw [e0] at d4
      refine xe0 [0, 1, 2, 6, 7, 8, 17, 18, 19, 20] [] (by kernel_rfl) ?_
      refine AWP.seq ?_
      refine AWP.cond (b := decide (p < (↑k : Int))) (by kernel_rfl) (fun hq3 => ?_) (fun hq3 => ?_)
      · simp only [decide_eq_true_eq] at hq3
        refine AWP.skip ?_
        refine AWP.seq ?_
        refine AWP.block ?_
        refine xe1 (os := [(0 : Int) ≤ p ∧ p < (↑k : Int), V.vp (List.drop (Int.toNat p * 1) A) = V.vp (i64 (↑(↑x : Nat) : Int) :: r)]) [(0, ⟨some (V.vp (i64 (↑(↑x : Nat) : Int) :: r)), none⟩)] [0, 1, 2, 6, 7, 8, 10, 17, 18, 19] [] (by kernel_rfl) ⟨(by omega), (congrArg V.vp kx), trivial⟩ ?_
        refine xe0 [0, 1, 2, 6, 7, 8, 10, 17, 18, 19, 25] [] (by kernel_rfl) ?_
        refine AWP.cond (b := decide ((↑(↑x : Nat) : Int) ≥ i)) (by kernel_rfl) (fun hq4 => ?_) (fun hq4 => ?_)
        · simp only [decide_eq_true_eq] at hq4
          refine xe0 [0, 1, 2, 6, 7, 8, 17, 18, 19] [] (by kernel_rfl) ?_
          refine AWP.exit ?_
          refine xe0 [0, 1, 2, 6, 7, 8, 11] [] (by kernel_rfl) ?_
          refine AWP.seq ?_
          refine xe0 [0, 1, 2, 6, 7, 8, 11, 30] [] (by kernel_rfl) ?_
          refine AWP.cond (b := decide ((↑k : Int) > 0)) (by kernel_rfl) (fun hq5 => ?_) (fun hq5 => ?_)
          · simp only [decide_eq_true_eq] at hq5
            refine xg1 (os := [(0 : Int) ≤ (0 : Int) ∧ (0 : Int) < (↑k : Int), V.vp (List.drop (Int.toNat 0 * 1) A) = V.vp (i64 (↑(↑x0 : Nat) : Int) :: r0)]) [(1, ⟨some (V.vp (i64 (↑(↑x0 : Nat) : Int) :: r0)), none⟩)] [0, 1, 2, 6, 7, 8, 11] [] (by kernel_rfl) ⟨(by omega), (congrArg V.vp kz), trivial⟩ ?_
            refine xe1 (os := [(5 : Int) ≠ (0 : Int), u8 (Int.tmod st 5) = u8 (st % 5), i64 (IntKind.wrap IntKind.i64 (st % 5)) = i64 (st % 5), i64 (IntKind.wrap IntKind.i64 (1 + st % 5)) = i64 (1 + st % 5)]) [(1, ⟨some (u8 (st % 5)), none⟩), (2, ⟨some (i64 (st % 5)), none⟩), (3, ⟨some (i64 (1 + st % 5)), none⟩)] [0, 1, 6, 7, 8, 11, 12] [] (by kernel_rfl) ⟨(by omega), (tm_ (by omega)), (wr_i64 (by omega) (by omega)), (wr_i64 (by omega) (by omega)), trivial⟩ ?_
            refine xe1 (os := [Con Tryd.prog 11 [] [u16 s, i64 i] [] (vb bi), Con Tryd.prog 12 [] [V.vs A k, i64 i] [] (vb bi), bl true (bi == bi) = true → Con Tryd.prog (15 : Nat) [] [u16 s] [] (i64 (↑k : Int)) ∧ True, (bl true (bi == bi) && (↑k : Int) == (↑k : Int)) = true → Con Tryd.prog (16 : Nat) [] [u16 s, i64 i] [] (i64 (↑(↑x : Nat) : Int)) ∧ True, (bl true (bi == bi) && (↑k : Int) == (↑k : Int) && (↑(↑x : Nat) : Int) == (↑(↑x : Nat) : Int)) = true → Con Tryd.prog (17 : Nat) [] [u16 s] [] (i64 (↑(↑x0 : Nat) : Int)) ∧ True, (bl true (bi == bi) && (↑k : Int) == (↑k : Int) && (↑(↑x : Nat) : Int) == (↑(↑x : Nat) : Int) && (↑(↑x0 : Nat) : Int) == (↑(↑x0 : Nat) : Int)) = true → Con Tryd.prog (18 : Nat) [] [u16 s] [] (V.val (Value.string (txt (upsF s (0 : Nat))))) ∧ True, (bl true (bi == bi) && (↑k : Int) == (↑k : Int) && (↑(↑x : Nat) : Int) == (↑(↑x : Nat) : Int) && (↑(↑x0 : Nat) : Int) == (↑(↑x0 : Nat) : Int)) = true → Con Tryd.prog (19 : Nat) [] [V.vs A k] [] (V.val (Value.string (txt (upsF s (0 : Nat))))) ∧ True, (bl true (bi == bi) && (↑k : Int) == (↑k : Int) && (↑(↑x : Nat) : Int) == (↑(↑x : Nat) : Int) && (↑(↑x0 : Nat) : Int) == (↑(↑x0 : Nat) : Int) && (txt (upsF s (0 : Nat))).data.toList == (txt (upsF s (0 : Nat))).data.toList) = true → Con Tryd.prog (21 : Nat) [] [u16 s, i64 (99 : Int)] [((5 : Nat), Blk.mk A true (0 : Nat) (some ((3 : Nat), (1 : Nat))))] (V.sl (5 : Nat) (0 : Nat) k) ∧ True, (bl true (bi == bi) && (↑k : Int) == (↑k : Int) && (↑(↑x : Nat) : Int) == (↑(↑x : Nat) : Int) && (↑(↑x0 : Nat) : Int) == (↑(↑x0 : Nat) : Int) && (txt (upsF s (0 : Nat))).data.toList == (txt (upsF s (0 : Nat))).data.toList) = true → VO (vb true) ∧ VOH [] ∧ Con Tryd.prog (20 : Nat) [] [V.vs A k, V.vs A k] [] (vb true) ∧ (0 : Nat) = (0 : Nat) ∧ k * (1 : Nat) = List.length A ∧ True, (bl true (bi == bi) && (↑k : Int) == (↑k : Int) && (↑(↑x : Nat) : Int) == (↑(↑x : Nat) : Int) && (↑(↑x0 : Nat) : Int) == (↑(↑x0 : Nat) : Int) && (txt (upsF s (0 : Nat))).data.toList == (txt (upsF s (0 : Nat))).data.toList && true) = true → Con Tryd.prog (21 : Nat) [] [u16 s, i64 ((1 : Int) + st % (5 : Int))] [((5 : Nat), Blk.mk (List.take m A) true (0 : Nat) (some ((3 : Nat), (1 : Nat))))] (V.sl (5 : Nat) (0 : Nat) m) ∧ True, (bl true (bi == bi) && (↑k : Int) == (↑k : Int) && (↑(↑x : Nat) : Int) == (↑(↑x : Nat) : Int) && (↑(↑x0 : Nat) : Int) == (↑(↑x0 : Nat) : Int) && (txt (upsF s (0 : Nat))).data.toList == (txt (upsF s (0 : Nat))).data.toList && true) = true → i64 (imin ((1 : Int) + st % (5 : Int)) (↑k : Int)) = i64 (↑m : Int) ∧ True, (bl true (bi == bi) && (↑k : Int) == (↑k : Int) && (↑(↑x : Nat) : Int) == (↑(↑x : Nat) : Int) && (↑(↑x0 : Nat) : Int) == (↑(↑x0 : Nat) : Int) && (txt (upsF s (0 : Nat))).data.toList == (txt (upsF s (0 : Nat))).data.toList && true) = true → ((0 : Int) ≤ (↑(0 : Nat) : Int) ∧ (↑(0 : Nat) : Int) ≤ (↑m : Int) ∧ (↑m : Int) ≤ (↑k : Int)) ∧ V.vs (subV A none (some (i64 (↑m : Int))) (Int.toNat (↑(0 : Nat) : Int) * (1 : Nat)) (Int.toNat (↑m : Int) * (1 : Nat)) ((Int.toNat (↑m : Int) - Int.toNat (↑(0 : Nat) : Int)) * (1 : Nat))) (Int.toNat (↑m : Int) - (0 : Nat)) = V.vs (subV A none (some (i64 (↑m : Int))) (Int.toNat (↑(0 : Nat) : Int) * (1 : Nat)) (Int.toNat (↑m : Int) * (1 : Nat)) ((Int.toNat (↑m : Int) - Int.toNat (↑(0 : Nat) : Int)) * (1 : Nat))) (Int.toNat (↑m : Int) - (0 : Nat)) ∧ True, (bl true (bi == bi) && (↑k : Int) == (↑k : Int) && (↑(↑x : Nat) : Int) == (↑(↑x : Nat) : Int) && (↑(↑x0 : Nat) : Int) == (↑(↑x0 : Nat) : Int) && (txt (upsF s (0 : Nat))).data.toList == (txt (upsF s (0 : Nat))).data.toList && true) = true → VO (vb true) ∧ VOH [] ∧ Con Tryd.prog (20 : Nat) [] [V.vs (List.take m A) m, V.vs (subV A none (some (i64 (↑m : Int))) (Int.toNat (↑(0 : Nat) : Int) * (1 : Nat)) (Int.toNat (↑m : Int) * (1 : Nat)) ((Int.toNat (↑m : Int) - Int.toNat (↑(0 : Nat) : Int)) * (1 : Nat))) (Int.toNat (↑m : Int) - (0 : Nat))] [] (vb true) ∧ (0 : Nat) = (0 : Nat) ∧ m * (1 : Nat) = List.length (List.take m A) ∧ True]) [(2, ⟨none, some ⟨vb bi, [], []⟩⟩), (5, ⟨none, some ⟨vb bi, [], []⟩⟩), (9, ⟨none, some ⟨i64 (↑k : Int), [], []⟩⟩), (17, ⟨none, some ⟨i64 (↑(↑x : Nat) : Int), [], []⟩⟩), (23, ⟨none, some ⟨i64 (↑(↑x0 : Nat) : Int), [], []⟩⟩), (29, ⟨none, some ⟨V.val (Value.string (txt (upsF s 0))), [], []⟩⟩), (31, ⟨none, some ⟨V.val (Value.string (txt (upsF s 0))), [], []⟩⟩), (36, ⟨none, some ⟨V.sl 5 0 k, [(5, Blk.mk A true 0 (some (3, 1)))], []⟩⟩), (38, ⟨none, some ⟨vb true, [], [(750005, true)]⟩⟩), (43, ⟨none, some ⟨V.sl 5 0 m, [(5, Blk.mk (List.take m A) true 0 (some (3, 1)))], []⟩⟩), (48, ⟨some (i64 (↑m : Int)), none⟩), (49, ⟨some (V.vs (subV A none (some (i64 (↑m : Int))) (Int.toNat (↑0 : Int) * 1) (Int.toNat (↑m : Int) * 1) ((Int.toNat (↑m : Int) - Int.toNat (↑0 : Int)) * 1)) (Int.toNat (↑m : Int) - 0)), none⟩), (50, ⟨none, some ⟨vb true, [], [(820005, true)]⟩⟩)] [6] [] (by kernel_rfl) ⟨(d1 ), (d0 ), (fun _ => ⟨(d2 ), trivial⟩), (fun _ => ⟨(d3 ), trivial⟩), (fun _ => ⟨(d4 ), trivial⟩), (fun _ => ⟨(d5 ), trivial⟩), (fun _ => ⟨(d6 ), trivial⟩), (fun _ => ⟨(d7 ), trivial⟩), (by intro hc0; first | (cases hc0; done) | ((try simp only [Bool.or_false, Bool.false_or, Bool.true_and, Bool.and_true, decide_eq_true_eq, decide_eq_false_iff_not, Bool.and_eq_true, Bool.or_eq_true, Bool.or_eq_false_iff, Bool.not_eq_true', Bool.and_eq_false_iff, beq_iff_eq, bne_iff_ne, bne_eq_false_iff_eq, beq_eq_false_iff_ne, Bool.not_eq_false'] at hc0); exact ⟨(VO.val _), trivial, (d8 ), (by omega), (by omega), trivial⟩)), (fun _ => ⟨(d9 ), trivial⟩), (fun _ => ⟨(in_eq wf1), trivial⟩), (by intro hc0; first | (cases hc0; done) | ((try simp only [Bool.or_false, Bool.false_or, Bool.true_and, Bool.and_true, decide_eq_true_eq, decide_eq_false_iff_not, Bool.and_eq_true, Bool.or_eq_true, Bool.or_eq_false_iff, Bool.not_eq_true', Bool.and_eq_false_iff, beq_iff_eq, bne_iff_ne, bne_eq_false_iff_eq, beq_eq_false_iff_ne, Bool.not_eq_false'] at hc0); exact ⟨(by omega), rfl, trivial⟩)), (by intro hc0; first | (cases hc0; done) | ((try simp only [Bool.or_false, Bool.false_or, Bool.true_and, Bool.and_true, decide_eq_true_eq, decide_eq_false_iff_not, Bool.and_eq_true, Bool.or_eq_true, Bool.or_eq_false_iff, Bool.not_eq_true', Bool.and_eq_false_iff, beq_iff_eq, bne_iff_ne, bne_eq_false_iff_eq, beq_eq_false_iff_ne, Bool.not_eq_false'] at hc0); exact ⟨(VO.val _), trivial, (d11 ), (by omega), (by (simp [len_u8s]; omega)), trivial⟩)), trivial⟩ ?_
            refine AWP.ret ?_
            refine ⟨Or.inr rfl, Eq.trans (b := some ([], vb (bl true (bi == bi) && (↑k : Int) == (↑k : Int) && (↑(↑x : Nat) : Int) == (↑(↑x : Nat) : Int) && (↑(↑x0 : Nat) : Int) == (↑(↑x0 : Nat) : Int) && (txt (upsF s 0)).data.toList == (txt (upsF s 0)).data.toList && true && true))) (by kernel_rfl) ?_⟩
            first | rfl | (simp; done) | (simp only [bl]; simp; done) | (exfalso; omega)
          simp only [decide_eq_false_iff_not] at hq5
          (exfalso; omega)
        simp only [decide_eq_false_iff_not] at hq4
        (exfalso; omega)
      simp only [decide_eq_false_iff_not] at hq3
      (exfalso; omega)
  have hpk : p = k := by omega
  subst hpk
  rw [Int.toNat_natCast, ← hl] at hp0
  rw [lessI_none hp0] at d3
  by_cases hk0 : k = 0
  · have hA0 : A = [] := List.length_eq_zero_iff.1 (by omega)
    have e0 : nxt s 0 = -1 := by
      unfold nxt
      have hu : ups s 0 = [] := by
        have := congrArg List.length hAu
        rw [hA0, List.length_map, List.length_nil] at this
        exact List.length_eq_zero_iff.1 this.symm
      rw [hu]
    rw [e0] at d4
    refine xe0 [0, 1, 2, 6, 7, 8, 17, 18, 19, 20] [] (by kernel_rfl) ?_
    refine AWP.seq ?_
    refine AWP.cond (b := decide ((↑k : Int) < (↑k : Int))) (by kernel_rfl) (fun hq6 => ?_) (fun hq6 => ?_)
    · simp only [decide_eq_true_eq] at hq6
      (exfalso; omega)
    simp only [decide_eq_false_iff_not] at hq6
    refine AWP.exit ?_
    refine xe0 [0, 1, 2, 6, 7, 8, 11] [] (by kernel_rfl) ?_
    refine AWP.seq ?_
    refine xe0 [0, 1, 2, 6, 7, 8, 11, 30] [] (by kernel_rfl) ?_
    refine AWP.cond (b := decide ((↑k : Int) > 0)) (by kernel_rfl) (fun hq7 => ?_) (fun hq7 => ?_)
    · simp only [decide_eq_true_eq] at hq7
      (exfalso; omega)
    simp only [decide_eq_false_iff_not] at hq7
    refine AWP.skip ?_
    refine xe1 (os := [(5 : Int) ≠ (0 : Int), u8 (Int.tmod st 5) = u8 (st % 5), i64 (IntKind.wrap IntKind.i64 (st % 5)) = i64 (st % 5), i64 (IntKind.wrap IntKind.i64 (1 + st % 5)) = i64 (1 + st % 5)]) [(1, ⟨some (u8 (st % 5)), none⟩), (2, ⟨some (i64 (st % 5)), none⟩), (3, ⟨some (i64 (1 + st % 5)), none⟩)] [0, 1, 6, 7, 8, 11, 12] [] (by kernel_rfl) ⟨(by omega), (tm_ (by omega)), (wr_i64 (by omega) (by omega)), (wr_i64 (by omega) (by omega)), trivial⟩ ?_
    refine xe1 (os := [Con Tryd.prog 11 [] [u16 s, i64 i] [] (vb bi), Con Tryd.prog 12 [] [V.vs A k, i64 i] [] (vb bi), bl true (bi == bi) = true → Con Tryd.prog (15 : Nat) [] [u16 s] [] (i64 (↑k : Int)) ∧ True, (bl true (bi == bi) && (↑k : Int) == (↑k : Int)) = true → Con Tryd.prog (16 : Nat) [] [u16 s, i64 i] [] (i64 (-1 : Int)) ∧ True, (bl true (bi == bi) && (↑k : Int) == (↑k : Int) && true) = true → Con Tryd.prog (17 : Nat) [] [u16 s] [] (i64 (-1 : Int)) ∧ True, (bl true (bi == bi) && (↑k : Int) == (↑k : Int) && true && true) = true → Con Tryd.prog (18 : Nat) [] [u16 s] [] (V.val (Value.string (txt (upsF s (0 : Nat))))) ∧ True, (bl true (bi == bi) && (↑k : Int) == (↑k : Int) && true && true) = true → Con Tryd.prog (19 : Nat) [] [V.vs A k] [] (V.val (Value.string (txt (upsF s (0 : Nat))))) ∧ True, (bl true (bi == bi) && (↑k : Int) == (↑k : Int) && true && true && (txt (upsF s (0 : Nat))).data.toList == (txt (upsF s (0 : Nat))).data.toList) = true → Con Tryd.prog (21 : Nat) [] [u16 s, i64 (99 : Int)] [((5 : Nat), Blk.mk A true (0 : Nat) (some ((3 : Nat), (1 : Nat))))] (V.sl (5 : Nat) (0 : Nat) k) ∧ True, (bl true (bi == bi) && (↑k : Int) == (↑k : Int) && true && true && (txt (upsF s (0 : Nat))).data.toList == (txt (upsF s (0 : Nat))).data.toList) = true → VO (vb true) ∧ VOH [] ∧ Con Tryd.prog (20 : Nat) [] [V.vs A k, V.vs A k] [] (vb true) ∧ (0 : Nat) = (0 : Nat) ∧ k * (1 : Nat) = List.length A ∧ True, (bl true (bi == bi) && (↑k : Int) == (↑k : Int) && true && true && (txt (upsF s (0 : Nat))).data.toList == (txt (upsF s (0 : Nat))).data.toList && true) = true → Con Tryd.prog (21 : Nat) [] [u16 s, i64 ((1 : Int) + st % (5 : Int))] [((5 : Nat), Blk.mk (List.take m A) true (0 : Nat) (some ((3 : Nat), (1 : Nat))))] (V.sl (5 : Nat) (0 : Nat) m) ∧ True, (bl true (bi == bi) && (↑k : Int) == (↑k : Int) && true && true && (txt (upsF s (0 : Nat))).data.toList == (txt (upsF s (0 : Nat))).data.toList && true) = true → i64 (imin ((1 : Int) + st % (5 : Int)) (↑k : Int)) = i64 (↑m : Int) ∧ True, (bl true (bi == bi) && (↑k : Int) == (↑k : Int) && true && true && (txt (upsF s (0 : Nat))).data.toList == (txt (upsF s (0 : Nat))).data.toList && true) = true → ((0 : Int) ≤ (↑(0 : Nat) : Int) ∧ (↑(0 : Nat) : Int) ≤ (↑m : Int) ∧ (↑m : Int) ≤ (↑k : Int)) ∧ V.vs (subV A none (some (i64 (↑m : Int))) (Int.toNat (↑(0 : Nat) : Int) * (1 : Nat)) (Int.toNat (↑m : Int) * (1 : Nat)) ((Int.toNat (↑m : Int) - Int.toNat (↑(0 : Nat) : Int)) * (1 : Nat))) (Int.toNat (↑m : Int) - (0 : Nat)) = V.vs (subV A none (some (i64 (↑m : Int))) (Int.toNat (↑(0 : Nat) : Int) * (1 : Nat)) (Int.toNat (↑m : Int) * (1 : Nat)) ((Int.toNat (↑m : Int) - Int.toNat (↑(0 : Nat) : Int)) * (1 : Nat))) (Int.toNat (↑m : Int) - (0 : Nat)) ∧ True, (bl true (bi == bi) && (↑k : Int) == (↑k : Int) && true && true && (txt (upsF s (0 : Nat))).data.toList == (txt (upsF s (0 : Nat))).data.toList && true) = true → VO (vb true) ∧ VOH [] ∧ Con Tryd.prog (20 : Nat) [] [V.vs (List.take m A) m, V.vs (subV A none (some (i64 (↑m : Int))) (Int.toNat (↑(0 : Nat) : Int) * (1 : Nat)) (Int.toNat (↑m : Int) * (1 : Nat)) ((Int.toNat (↑m : Int) - Int.toNat (↑(0 : Nat) : Int)) * (1 : Nat))) (Int.toNat (↑m : Int) - (0 : Nat))] [] (vb true) ∧ (0 : Nat) = (0 : Nat) ∧ m * (1 : Nat) = List.length (List.take m A) ∧ True]) [(2, ⟨none, some ⟨vb bi, [], []⟩⟩), (5, ⟨none, some ⟨vb bi, [], []⟩⟩), (9, ⟨none, some ⟨i64 (↑k : Int), [], []⟩⟩), (17, ⟨none, some ⟨i64 (-1), [], []⟩⟩), (23, ⟨none, some ⟨i64 (-1), [], []⟩⟩), (29, ⟨none, some ⟨V.val (Value.string (txt (upsF s 0))), [], []⟩⟩), (31, ⟨none, some ⟨V.val (Value.string (txt (upsF s 0))), [], []⟩⟩), (36, ⟨none, some ⟨V.sl 5 0 k, [(5, Blk.mk A true 0 (some (3, 1)))], []⟩⟩), (38, ⟨none, some ⟨vb true, [], [(750005, true)]⟩⟩), (43, ⟨none, some ⟨V.sl 5 0 m, [(5, Blk.mk (List.take m A) true 0 (some (3, 1)))], []⟩⟩), (48, ⟨some (i64 (↑m : Int)), none⟩), (49, ⟨some (V.vs (subV A none (some (i64 (↑m : Int))) (Int.toNat (↑0 : Int) * 1) (Int.toNat (↑m : Int) * 1) ((Int.toNat (↑m : Int) - Int.toNat (↑0 : Int)) * 1)) (Int.toNat (↑m : Int) - 0)), none⟩), (50, ⟨none, some ⟨vb true, [], [(820005, true)]⟩⟩)] [6] [] (by kernel_rfl) ⟨(d1 ), (d0 ), (fun _ => ⟨(d2 ), trivial⟩), (fun _ => ⟨(d3 ), trivial⟩), (fun _ => ⟨(d4 ), trivial⟩), (fun _ => ⟨(d5 ), trivial⟩), (fun _ => ⟨(d6 ), trivial⟩), (fun _ => ⟨(d7 ), trivial⟩), (by intro hc0; first | (cases hc0; done) | ((try simp only [Bool.or_false, Bool.false_or, Bool.true_and, Bool.and_true, decide_eq_true_eq, decide_eq_false_iff_not, Bool.and_eq_true, Bool.or_eq_true, Bool.or_eq_false_iff, Bool.not_eq_true', Bool.and_eq_false_iff, beq_iff_eq, bne_iff_ne, bne_eq_false_iff_eq, beq_eq_false_iff_ne, Bool.not_eq_false'] at hc0); exact ⟨(VO.val _), trivial, (d8 ), (by omega), (by omega), trivial⟩)), (fun _ => ⟨(d9 ), trivial⟩), (fun _ => ⟨(in_eq wf1), trivial⟩), (by intro hc0; first | (cases hc0; done) | ((try simp only [Bool.or_false, Bool.false_or, Bool.true_and, Bool.and_true, decide_eq_true_eq, decide_eq_false_iff_not, Bool.and_eq_true, Bool.or_eq_true, Bool.or_eq_false_iff, Bool.not_eq_true', Bool.and_eq_false_iff, beq_iff_eq, bne_iff_ne, bne_eq_false_iff_eq, beq_eq_false_iff_ne, Bool.not_eq_false'] at hc0); exact ⟨(by omega), rfl, trivial⟩)), (by intro hc0; first | (cases hc0; done) | ((try simp only [Bool.or_false, Bool.false_or, Bool.true_and, Bool.and_true, decide_eq_true_eq, decide_eq_false_iff_not, Bool.and_eq_true, Bool.or_eq_true, Bool.or_eq_false_iff, Bool.not_eq_true', Bool.and_eq_false_iff, beq_iff_eq, bne_iff_ne, bne_eq_false_iff_eq, beq_eq_false_iff_ne, Bool.not_eq_false'] at hc0); exact ⟨(VO.val _), trivial, (d11 ), (by omega), (by (simp [len_u8s]; omega)), trivial⟩)), trivial⟩ ?_
    refine AWP.ret ?_
    refine ⟨Or.inr rfl, Eq.trans (b := some ([], vb (bl true (bi == bi) && (↑k : Int) == (↑k : Int) && true && true && (txt (upsF s 0)).data.toList == (txt (upsF s 0)).data.toList && true && true))) (by kernel_rfl) ?_⟩
    first | rfl | (simp; done) | (simp only [bl]; simp; done) | (exfalso; omega)
  · obtain ⟨x0, r0, kz, _, hat0⟩ := upsF_at s 0 (by omega)
    rw [hA] at kz
    have e0 : nxt s 0 = ((x0.val : Nat) : Int) := lessI_found (i := 0) (p := 0) (fun x hx => by cases hx) hat0 (by omega)
    rw [e0] at d4
    refine xe0 [0, 1, 2, 6, 7, 8, 17, 18, 19, 20] [] (by kernel_rfl) ?_
    refine AWP.seq ?_
    refine AWP.cond (b := decide ((↑k : Int) < (↑k : Int))) (by kernel_rfl) (fun hq8 => ?_) (fun hq8 => ?_)
    · simp only [decide_eq_true_eq] at hq8
      (exfalso; omega)
    simp only [decide_eq_false_iff_not] at hq8
    refine AWP.exit ?_
    refine xe0 [0, 1, 2, 6, 7, 8, 11] [] (by kernel_rfl) ?_
    refine AWP.seq ?_
    refine xe0 [0, 1, 2, 6, 7, 8, 11, 30] [] (by kernel_rfl) ?_
    refine AWP.cond (b := decide ((↑k : Int) > 0)) (by kernel_rfl) (fun hq9 => ?_) (fun hq9 => ?_)
    · simp only [decide_eq_true_eq] at hq9
      refine xg1 (os := [(0 : Int) ≤ (0 : Int) ∧ (0 : Int) < (↑k : Int), V.vp (List.drop (Int.toNat 0 * 1) A) = V.vp (i64 (↑(↑x0 : Nat) : Int) :: r0)]) [(1, ⟨some (V.vp (i64 (↑(↑x0 : Nat) : Int) :: r0)), none⟩)] [0, 1, 2, 6, 7, 8, 11] [] (by kernel_rfl) ⟨(by omega), (congrArg V.vp kz), trivial⟩ ?_
      refine xe1 (os := [(5 : Int) ≠ (0 : Int), u8 (Int.tmod st 5) = u8 (st % 5), i64 (IntKind.wrap IntKind.i64 (st % 5)) = i64 (st % 5), i64 (IntKind.wrap IntKind.i64 (1 + st % 5)) = i64 (1 + st % 5)]) [(1, ⟨some (u8 (st % 5)), none⟩), (2, ⟨some (i64 (st % 5)), none⟩), (3, ⟨some (i64 (1 + st % 5)), none⟩)] [0, 1, 6, 7, 8, 11, 12] [] (by kernel_rfl) ⟨(by omega), (tm_ (by omega)), (wr_i64 (by omega) (by omega)), (wr_i64 (by omega) (by omega)), trivial⟩ ?_
      refine xe1 (os := [Con Tryd.prog 11 [] [u16 s, i64 i] [] (vb bi), Con Tryd.prog 12 [] [V.vs A k, i64 i] [] (vb bi), bl true (bi == bi) = true → Con Tryd.prog (15 : Nat) [] [u16 s] [] (i64 (↑k : Int)) ∧ True, (bl true (bi == bi) && (↑k : Int) == (↑k : Int)) = true → Con Tryd.prog (16 : Nat) [] [u16 s, i64 i] [] (i64 (-1 : Int)) ∧ True, (bl true (bi == bi) && (↑k : Int) == (↑k : Int) && true) = true → Con Tryd.prog (17 : Nat) [] [u16 s] [] (i64 (↑(↑x0 : Nat) : Int)) ∧ True, (bl true (bi == bi) && (↑k : Int) == (↑k : Int) && true && (↑(↑x0 : Nat) : Int) == (↑(↑x0 : Nat) : Int)) = true → Con Tryd.prog (18 : Nat) [] [u16 s] [] (V.val (Value.string (txt (upsF s (0 : Nat))))) ∧ True, (bl true (bi == bi) && (↑k : Int) == (↑k : Int) && true && (↑(↑x0 : Nat) : Int) == (↑(↑x0 : Nat) : Int)) = true → Con Tryd.prog (19 : Nat) [] [V.vs A k] [] (V.val (Value.string (txt (upsF s (0 : Nat))))) ∧ True, (bl true (bi == bi) && (↑k : Int) == (↑k : Int) && true && (↑(↑x0 : Nat) : Int) == (↑(↑x0 : Nat) : Int) && (txt (upsF s (0 : Nat))).data.toList == (txt (upsF s (0 : Nat))).data.toList) = true → Con Tryd.prog (21 : Nat) [] [u16 s, i64 (99 : Int)] [((5 : Nat), Blk.mk A true (0 : Nat) (some ((3 : Nat), (1 : Nat))))] (V.sl (5 : Nat) (0 : Nat) k) ∧ True, (bl true (bi == bi) && (↑k : Int) == (↑k : Int) && true && (↑(↑x0 : Nat) : Int) == (↑(↑x0 : Nat) : Int) && (txt (upsF s (0 : Nat))).data.toList == (txt (upsF s (0 : Nat))).data.toList) = true → VO (vb true) ∧ VOH [] ∧ Con Tryd.prog (20 : Nat) [] [V.vs A k, V.vs A k] [] (vb true) ∧ (0 : Nat) = (0 : Nat) ∧ k * (1 : Nat) = List.length A ∧ True, (bl true (bi == bi) && (↑k : Int) == (↑k : Int) && true && (↑(↑x0 : Nat) : Int) == (↑(↑x0 : Nat) : Int) && (txt (upsF s (0 : Nat))).data.toList == (txt (upsF s (0 : Nat))).data.toList && true) = true → Con Tryd.prog (21 : Nat) [] [u16 s, i64 ((1 : Int) + st % (5 : Int))] [((5 : Nat), Blk.mk (List.take m A) true (0 : Nat) (some ((3 : Nat), (1 : Nat))))] (V.sl (5 : Nat) (0 : Nat) m) ∧ True, (bl true (bi == bi) && (↑k : Int) == (↑k : Int) && true && (↑(↑x0 : Nat) : Int) == (↑(↑x0 : Nat) : Int) && (txt (upsF s (0 : Nat))).data.toList == (txt (upsF s (0 : Nat))).data.toList && true) = true → i64 (imin ((1 : Int) + st % (5 : Int)) (↑k : Int)) = i64 (↑m : Int) ∧ True, (bl true (bi == bi) && (↑k : Int) == (↑k : Int) && true && (↑(↑x0 : Nat) : Int) == (↑(↑x0 : Nat) : Int) && (txt (upsF s (0 : Nat))).data.toList == (txt (upsF s (0 : Nat))).data.toList && true) = true → ((0 : Int) ≤ (↑(0 : Nat) : Int) ∧ (↑(0 : Nat) : Int) ≤ (↑m : Int) ∧ (↑m : Int) ≤ (↑k : Int)) ∧ V.vs (subV A none (some (i64 (↑m : Int))) (Int.toNat (↑(0 : Nat) : Int) * (1 : Nat)) (Int.toNat (↑m : Int) * (1 : Nat)) ((Int.toNat (↑m : Int) - Int.toNat (↑(0 : Nat) : Int)) * (1 : Nat))) (Int.toNat (↑m : Int) - (0 : Nat)) = V.vs (subV A none (some (i64 (↑m : Int))) (Int.toNat (↑(0 : Nat) : Int) * (1 : Nat)) (Int.toNat (↑m : Int) * (1 : Nat)) ((Int.toNat (↑m : Int) - Int.toNat (↑(0 : Nat) : Int)) * (1 : Nat))) (Int.toNat (↑m : Int) - (0 : Nat)) ∧ True, (bl true (bi == bi) && (↑k : Int) == (↑k : Int) && true && (↑(↑x0 : Nat) : Int) == (↑(↑x0 : Nat) : Int) && (txt (upsF s (0 : Nat))).data.toList == (txt (upsF s (0 : Nat))).data.toList && true) = true → VO (vb true) ∧ VOH [] ∧ Con Tryd.prog (20 : Nat) [] [V.vs (List.take m A) m, V.vs (subV A none (some (i64 (↑m : Int))) (Int.toNat (↑(0 : Nat) : Int) * (1 : Nat)) (Int.toNat (↑m : Int) * (1 : Nat)) ((Int.toNat (↑m : Int) - Int.toNat (↑(0 : Nat) : Int)) * (1 : Nat))) (Int.toNat (↑m : Int) - (0 : Nat))] [] (vb true) ∧ (0 : Nat) = (0 : Nat) ∧ m * (1 : Nat) = List.length (List.take m A) ∧ True]) [(2, ⟨none, some ⟨vb bi, [], []⟩⟩), (5, ⟨none, some ⟨vb bi, [], []⟩⟩), (9, ⟨none, some ⟨i64 (↑k : Int), [], []⟩⟩), (17, ⟨none, some ⟨i64 (-1), [], []⟩⟩), (23, ⟨none, some ⟨i64 (↑(↑x0 : Nat) : Int), [], []⟩⟩), (29, ⟨none, some ⟨V.val (Value.string (txt (upsF s 0))), [], []⟩⟩), (31, ⟨none, some ⟨V.val (Value.string (txt (upsF s 0))), [], []⟩⟩), (36, ⟨none, some ⟨V.sl 5 0 k, [(5, Blk.mk A true 0 (some (3, 1)))], []⟩⟩), (38, ⟨none, some ⟨vb true, [], [(750005, true)]⟩⟩), (43, ⟨none, some ⟨V.sl 5 0 m, [(5, Blk.mk (List.take m A) true 0 (some (3, 1)))], []⟩⟩), (48, ⟨some (i64 (↑m : Int)), none⟩), (49, ⟨some (V.vs (subV A none (some (i64 (↑m : Int))) (Int.toNat (↑0 : Int) * 1) (Int.toNat (↑m : Int) * 1) ((Int.toNat (↑m : Int) - Int.toNat (↑0 : Int)) * 1)) (Int.toNat (↑m : Int) - 0)), none⟩), (50, ⟨none, some ⟨vb true, [], [(820005, true)]⟩⟩)] [6] [] (by kernel_rfl) ⟨(d1 ), (d0 ), (fun _ => ⟨(d2 ), trivial⟩), (fun _ => ⟨(d3 ), trivial⟩), (fun _ => ⟨(d4 ), trivial⟩), (fun _ => ⟨(d5 ), trivial⟩), (fun _ => ⟨(d6 ), trivial⟩), (fun _ => ⟨(d7 ), trivial⟩), (by intro hc0; first | (cases hc0; done) | ((try simp only [Bool.or_false, Bool.false_or, Bool.true_and, Bool.and_true, decide_eq_true_eq, decide_eq_false_iff_not, Bool.and_eq_true, Bool.or_eq_true, Bool.or_eq_false_iff, Bool.not_eq_true', Bool.and_eq_false_iff, beq_iff_eq, bne_iff_ne, bne_eq_false_iff_eq, beq_eq_false_iff_ne, Bool.not_eq_false'] at hc0); exact ⟨(VO.val _), trivial, (d8 ), (by omega), (by omega), trivial⟩)), (fun _ => ⟨(d9 ), trivial⟩), (fun _ => ⟨(in_eq wf1), trivial⟩), (by intro hc0; first | (cases hc0; done) | ((try simp only [Bool.or_false, Bool.false_or, Bool.true_and, Bool.and_true, decide_eq_true_eq, decide_eq_false_iff_not, Bool.and_eq_true, Bool.or_eq_true, Bool.or_eq_false_iff, Bool.not_eq_true', Bool.and_eq_false_iff, beq_iff_eq, bne_iff_ne, bne_eq_false_iff_eq, beq_eq_false_iff_ne, Bool.not_eq_false'] at hc0); exact ⟨(by omega), rfl, trivial⟩)), (by intro hc0; first | (cases hc0; done) | ((try simp only [Bool.or_false, Bool.false_or, Bool.true_and, Bool.and_true, decide_eq_true_eq, decide_eq_false_iff_not, Bool.and_eq_true, Bool.or_eq_true, Bool.or_eq_false_iff, Bool.not_eq_true', Bool.and_eq_false_iff, beq_iff_eq, bne_iff_ne, bne_eq_false_iff_eq, beq_eq_false_iff_ne, Bool.not_eq_false'] at hc0); exact ⟨(VO.val _), trivial, (d11 ), (by omega), (by (simp [len_u8s]; omega)), trivial⟩)), trivial⟩ ?_
      refine AWP.ret ?_
      refine ⟨Or.inr rfl, Eq.trans (b := some ([], vb (bl true (bi == bi) && (↑k : Int) == (↑k : Int) && true && (↑(↑x0 : Nat) : Int) == (↑(↑x0 : Nat) : Int) && (txt (upsF s 0)).data.toList == (txt (upsF s 0)).data.toList && true && true))) (by kernel_rfl) ?_⟩
      first | rfl | (simp; done) | (simp only [bl]; simp; done) | (exfalso; omega)
    simp only [decide_eq_false_iff_not] at hq9
    (exfalso; omega)
theorem law_BitsAsks (x y z : V) (hx : TyV tc 9 23 x) (hy : TyV tc 9 3 y) (hz : TyV tc 9 5 z) : Con Tryd.prog 4 [] [x, y, z] [] (vb true) := by
  obtain ⟨s, rfl, h1⟩ := set_of hx
  obtain ⟨i, rfl, h2⟩ := i64_of hy
  obtain ⟨q, rfl, h3⟩ := u8_of hz
  exact law_asks s i q _ _ h1 h3 h2 rfl rfl
end Go.Proofs.YtmeiemdnhjnpcaaDoor
