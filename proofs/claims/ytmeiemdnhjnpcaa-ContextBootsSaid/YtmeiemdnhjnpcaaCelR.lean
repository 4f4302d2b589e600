/- Which cells can be read; the document's vote. -/
import Derived.Test.YtmeiemdnhjnpcaaRg
import Derived.Test.YtmeiemdnhjnpcaaCelY
namespace Go.Proofs.Ytmeiemdnhjnpcaa
open Go.Ab
set_option linter.unusedSimpArgs false
set_option linter.unusedVariables false
/-- The document's vote. -/
def vno (ls : List (List Int)) : Int := if 2 ≤ (vst ls).1 then cNo (vst ls).2 else 0
def vpo (ls : List (List Int)) : List Int := if 2 ≤ (vst ls).1 then cPo (vst ls).2 else []
theorem con_rvote (ls : List (List Int)) (n : Nat) (hn : ls.length = n) (hl : ∀ l ∈ ls, BL l ∧ l.length ≤ 1000000) (hlen : n ≤ 1000000) : Con Try.prog 38 [] [.vs (LL ls) n] [] (.tup [u32 (vno ls), B8 (vpo ls), i64 (if 2 ≤ (vst ls).1 then 0 else 3)]) := by
  unfold vno vpo
  refine Con.of (C := ⟨Try.prog, tc, Try.f38.ntmps⟩) [1000000000] tcok Try.func38 rfl rfl (by kernel_rfl) (by kernel_rfl) ?_
  refine xe0 [0, 2, 3, 4] [3] (by kernel_rfl) ?_
  refine xe0 [0, 2, 3, 4, 5] [3] (by kernel_rfl) ?_
  refine xe0 [0, 2, 3, 4, 5, 6] [3] (by kernel_rfl) ?_
  refine xe0 [0, 2, 3, 4, 5, 6, 7] [3, 7] (by kernel_rfl) ?_
  refine AWP.seq ?_
  refine xe0 [2, 3, 4, 5, 6, 7, 13, 14, 15] [3, 7] (by kernel_rfl) ?_
  refine AWP.block ?_
  refine AWP.loopI [2, 3, 4, 5, 6, 7, 13, 14, 15] [3, 7] (fun N s' => (∃ (i : Int), s' = St.mk [(2, tp (u32 0)), (3, tp (V.sl 3 0 0)), (4, tp (i64 0)), (5, tp (i64 0)), (6, tp (u32 0)), (7, tp (V.sl 7 0 0)), (13, tp (V.vs (LL ls) n)), (14, tp (i64 (n : Int))), (15, tp (i64 i))] [(3, Blk.mk [] true 0 (some (5, 1))), (7, Blk.mk [] true 0 (some (5, 1)))] ∧ (vst (ls.take i.toNat)).1 = 0 ∧ 0 ≤ i ∧ i ≤ n ∧ (N : Int) = n - i) ∨ (∃ (i : Int) (k : Nat) (m : List Int), s' = St.mk [(2, tp (u32 0)), (3, tp (V.sl 3 0 0)), (4, tp (i64 0)), (5, tp (i64 (k : Int))), (6, tp (u32 (cNo m))), (7, tp (B8 (cPo m))), (13, tp (V.vs (LL ls) n)), (14, tp (i64 (n : Int))), (15, tp (i64 i))] [(3, Blk.mk [] true 0 (some (5, 1)))] ∧ vst (ls.take i.toNat) = (k, m) ∧ 1 ≤ k ∧ 0 ≤ i ∧ i ≤ n ∧ (N : Int) = n - i)) n (s0 := St.mk [(2, tp (u32 0)), (3, tp (V.sl 3 0 0)), (4, tp (i64 0)), (5, tp (i64 0)), (6, tp (u32 0)), (7, tp (V.sl 7 0 0)), (13, tp (V.vs (LL ls) n)), (14, tp (i64 (n : Int))), (15, tp (i64 0))] [(3, Blk.mk [] true 0 (some (5, 1))), (7, Blk.mk [] true 0 (some (5, 1)))]) (by kernel_rfl) ?_ ?_
  · exact .inl ⟨0, rfl, rfl, by omega, by omega, by omega⟩
  rintro N s' (⟨i, rfl, hv, hi, hi2, hN⟩ | ⟨i, k, m, rfl, hv, hk, hi, hi2, hN⟩)
  · by_cases hin : i < n
    case neg =>
      rw [List.take_of_length_le (by omega)] at hv
      rw [if_neg (by omega), if_neg (by omega), if_neg (by omega)]
      refine xe0 [2, 3, 4, 5, 6, 7, 13, 14, 15, 16] [3, 7] (by kernel_rfl) ?_
      refine AWP.seq ?_
      refine AWP.cond (b := decide (i < (↑n : Int))) (by kernel_rfl) (fun hq15 => ?_) (fun hq15 => ?_)
      · simp only [decide_eq_true_eq] at hq15
        (exfalso; omega)
      simp only [decide_eq_false_iff_not] at hq15
      refine AWP.exit ?_
      refine AWP.seq ?_
      refine xe0 [2, 3, 4, 6, 7, 40] [3, 7] (by kernel_rfl) ?_
      refine AWP.condT (by kernel_rfl) ?_
      refine AWP.seq ?_
      refine AWP.keep' [6, 7] [7] (sf := St.mk [(6, tp (u32 0)), (7, tp (V.sl 7 0 0))] [(7, Blk.mk [] true 0 (some (5, 1)))]) (by kernel_rfl) ?_
      refine xg0 [2, 3, 4, 6, 7] [3, 7] (by kernel_rfl) ?_
      refine AWP.frz 3 (s' := St.mk [(2, tp (u32 0)), (3, tp (V.vs [] 0)), (4, tp (i64 3)), (6, tp (u32 0)), (7, tp (V.sl 7 0 0))] [(7, Blk.mk [] true 0 (some (5, 1)))]) (by kernel_rfl) ?_
      refine AWP.ret ?_
      refine ⟨Or.inr rfl, Eq.trans (b := some ([], V.tup [u32 0, V.vs [] 0, i64 3])) (by kernel_rfl) ?_⟩
      first | rfl | (exfalso; omega)
    have kx := LL_at ls i.toNat
    have hcm : ls.getD i.toNat [] ∈ ls := by
      rw [List.getD_eq_getElem?_getD, List.getElem?_eq_getElem (by omega)]
      exact List.getElem_mem _
    have hv' := vst_take (ls := ls) (i := i.toNat) (by omega)
    rw [show i.toNat + 1 = (i + 1).toNat by omega] at hv'
    generalize ls.getD i.toNat [] = c at kx hcm hv'
    have hcb := (hl c hcm).1
    have hcl := (hl c hcm).2
    have hnb := cNo_bd hcb
    refine xe0 [2, 3, 4, 5, 6, 7, 13, 14, 15, 16] [3, 7] (by kernel_rfl) ?_
    refine AWP.seq ?_
    refine AWP.cond (b := decide (i < (↑n : Int))) (by kernel_rfl) (fun hq17 => ?_) (fun hq17 => ?_)
    · simp only [decide_eq_true_eq] at hq17
      refine AWP.skip ?_
      refine AWP.seq ?_
      refine AWP.block ?_
      refine xe1 (os := [(0 : Int) ≤ i ∧ i < (↑n : Int), V.vp (List.drop (Int.toNat i * 1) (LL ls)) = V.vp (B8 c :: List.drop (Int.toNat i + 1) (LL ls))]) [(0, ⟨some (V.vp (B8 c :: List.drop (Int.toNat i + 1) (LL ls))), none⟩)] [2, 3, 4, 5, 6, 7, 9, 13, 14, 15] [3, 7] (by kernel_rfl) ⟨(by omega), (congrArg V.vp (kx (by omega))), trivial⟩ ?_
      refine xe1 [(1, ⟨none, some ⟨V.tup [u32 (cNo c), V.sl 340005 0 (List.length (cPo c)), i64 (cE c)], [(340005, Blk.mk (u8s (cPo c)) true 0 (some (5, 1)))], []⟩⟩)] [2, 3, 4, 5, 6, 7, 10, 11, 12, 13, 14, 15] [3, 7, 560005] (by kernel_rfl) (AllP.c (con_rparse (c) (List.length c) (by omega) (by assumption) (by assumption)) AllP.n) ?_
      refine AWP.seq ?_
      refine xe0 [2, 3, 4, 5, 6, 7, 10, 11, 13, 14, 15, 26] [3, 7, 560005] (by kernel_rfl) ?_
      refine AWP.cond (b := cE c != 0) (by kernel_rfl) (fun hq18 => ?_) (fun hq18 => ?_)
      · simp only [bne_iff_ne] at hq18
        refine AWP.exit ?_
        refine AWP.region tcok hmix [(0, ⟨some (i64 (i + 1)), none⟩)] (os := [i64 (IntKind.wrap IntKind.i64 (i + 1)) = i64 (i + 1)]) (sf := St.mk [(2, tp (u32 0)), (3, tp (V.sl 3 0 0)), (4, tp (i64 0)), (5, tp (i64 0)), (6, tp (u32 0)), (7, tp (V.sl 7 0 0)), (10, tp (u32 (cNo c))), (11, tp (V.sl 560005 0 (List.length (cPo c)))), (13, tp (V.vs (LL ls) n)), (14, tp (i64 (↑n : Int))), (15, tp (i64 (i + 1))), (26, tp (vb (cE c != 0))), (38, tp (i64 (i + 1)))] [(3, Blk.mk [] true 0 (some (5, 1))), (7, Blk.mk [] true 0 (some (5, 1))), (560005, Blk.mk (u8s (cPo c)) true 0 (some (5, 1)))]) (by kernel_rfl) ⟨(wr_i64 (by omega) (by omega)), trivial⟩ ?_
        refine ⟨St.mk [(2, tp (u32 0)), (3, tp (V.sl 3 0 0)), (4, tp (i64 0)), (5, tp (i64 0)), (6, tp (u32 0)), (7, tp (V.sl 7 0 0)), (13, tp (V.vs (LL ls) n)), (14, tp (i64 (↑n : Int))), (15, tp (i64 (i + 1)))] [(3, Blk.mk [] true 0 (some (5, 1))), (7, Blk.mk [] true 0 (some (5, 1)))], by kernel_rfl, ?_⟩
        first | (exact ⟨(n - (i + 1)).toNat, (by omega), Or.inl ⟨i + 1, rfl, (by rw [hv']; simp only [vnx]; rw [if_neg (by assumption)]; exact hv), (by omega), (by omega), (by omega)⟩⟩) | (exact ⟨(n - (i + 1)).toNat, (by omega), Or.inr ⟨i + 1, 1, c, rfl, (by rw [hv']; simp only [vnx]; rw [if_pos (by assumption), hv, if_pos (Or.inl rfl)]), (by omega), (by omega), (by omega), (by omega)⟩⟩)
      simp only [bne_eq_false_iff_eq] at hq18
      refine AWP.skip ?_
      refine AWP.seq ?_
      refine xe0 [2, 3, 4, 5, 6, 7, 10, 11, 13, 14, 15, 33] [3, 7, 560005] (by kernel_rfl) ?_
      refine AWP.condT (by kernel_rfl) ?_
      refine AWP.keep' [2, 3, 4, 5, 10, 11, 13, 14, 15] [3, 560005] (sf := St.mk [(2, tp (u32 0)), (3, tp (V.sl 3 0 0)), (4, tp (i64 0)), (5, tp (i64 0)), (10, tp (u32 (cNo c))), (11, tp (V.sl 560005 0 (List.length (cPo c)))), (13, tp (V.vs (LL ls) n)), (14, tp (i64 (↑n : Int))), (15, tp (i64 i))] [(3, Blk.mk [] true 0 (some (5, 1))), (560005, Blk.mk (u8s (cPo c)) true 0 (some (5, 1)))]) (by kernel_rfl) ?_
      refine xg0 [2, 3, 4, 5, 6, 7, 13, 14, 15] [3, 560005] (by kernel_rfl) ?_
      refine AWP.region tcok hmix [] (os := []) (sf := St.mk [(2, tp (u32 0)), (3, tp (V.sl 3 0 0)), (4, tp (i64 0)), (5, tp (i64 1)), (6, tp (u32 (cNo c))), (7, tp (V.sl 560005 0 (List.length (cPo c)))), (13, tp (V.vs (LL ls) n)), (14, tp (i64 (↑n : Int))), (15, tp (i64 i)), (36, tp (i64 0)), (37, tp (i64 1))] [(3, Blk.mk [] true 0 (some (5, 1))), (560005, Blk.mk (u8s (cPo c)) true 0 (some (5, 1)))]) (by kernel_rfl) trivial ?_
      refine AWP.keep' [2, 3, 4, 5, 6, 7, 13, 14, 15] [3, 560005] (sf := St.mk [(2, tp (u32 0)), (3, tp (V.sl 3 0 0)), (4, tp (i64 0)), (5, tp (i64 1)), (6, tp (u32 (cNo c))), (7, tp (V.sl 560005 0 (List.length (cPo c)))), (13, tp (V.vs (LL ls) n)), (14, tp (i64 (↑n : Int))), (15, tp (i64 i))] [(3, Blk.mk [] true 0 (some (5, 1))), (560005, Blk.mk (u8s (cPo c)) true 0 (some (5, 1)))]) (by kernel_rfl) ?_
      refine AWP.frz 560005 (s' := St.mk [(2, tp (u32 0)), (3, tp (V.sl 3 0 0)), (4, tp (i64 0)), (5, tp (i64 1)), (6, tp (u32 (cNo c))), (7, tp (B8 (cPo c))), (13, tp (V.vs (LL ls) n)), (14, tp (i64 (↑n : Int))), (15, tp (i64 i))] [(3, Blk.mk [] true 0 (some (5, 1)))]) (by kernel_rfl) ?_
      refine AWP.region tcok hmix [(0, ⟨some (i64 (i + 1)), none⟩)] (os := [i64 (IntKind.wrap IntKind.i64 (i + 1)) = i64 (i + 1)]) (sf := St.mk [(2, tp (u32 0)), (3, tp (V.sl 3 0 0)), (4, tp (i64 0)), (5, tp (i64 1)), (6, tp (u32 (cNo c))), (7, tp (B8 (cPo c))), (13, tp (V.vs (LL ls) n)), (14, tp (i64 (↑n : Int))), (15, tp (i64 (i + 1))), (38, tp (i64 (i + 1)))] [(3, Blk.mk [] true 0 (some (5, 1)))]) (by kernel_rfl) ⟨(wr_i64 (by omega) (by omega)), trivial⟩ ?_
      refine ⟨St.mk [(2, tp (u32 0)), (3, tp (V.sl 3 0 0)), (4, tp (i64 0)), (5, tp (i64 1)), (6, tp (u32 (cNo c))), (7, tp (B8 (cPo c))), (13, tp (V.vs (LL ls) n)), (14, tp (i64 (↑n : Int))), (15, tp (i64 (i + 1)))] [(3, Blk.mk [] true 0 (some (5, 1)))], by kernel_rfl, ?_⟩
      first | (exact ⟨(n - (i + 1)).toNat, (by omega), Or.inl ⟨i + 1, rfl, (by rw [hv']; simp only [vnx]; rw [if_neg (by assumption)]; exact hv), (by omega), (by omega), (by omega)⟩⟩) | (exact ⟨(n - (i + 1)).toNat, (by omega), Or.inr ⟨i + 1, 1, c, rfl, (by rw [hv']; simp only [vnx]; rw [if_pos (by assumption), hv, if_pos (Or.inl rfl)]), (by omega), (by omega), (by omega), (by omega)⟩⟩)
    simp only [decide_eq_false_iff_not] at hq17
    (exfalso; omega)
  · have hok := vst_ok (ls.take i.toNat) (fun l h => hl l (List.mem_of_mem_take h))
    rw [hv] at hok
    obtain ⟨ok1, ok2, ok3⟩ := hok
    rw [List.length_take] at ok1
    have ok1 : k ≤ n := by omega
    have ok2 : BL m := ok2
    have ok3 : m.length ≤ 1000000 := ok3
    have hm0 : cE m = 0 := by
      have := vst_some (ls := ls.take i.toNat)
      rw [hv] at this
      exact this (by simp; omega)
    have hmb := cNo_bd ok2
    by_cases hin : i < n
    case neg =>
      rw [List.take_of_length_le (by omega)] at hv
      rw [hv]
      refine xe0 [2, 3, 4, 5, 6, 7, 13, 14, 15, 16] [3] (by kernel_rfl) ?_
      refine AWP.seq ?_
      refine AWP.cond (b := decide (i < (↑n : Int))) (by kernel_rfl) (fun hq20 => ?_) (fun hq20 => ?_)
      · simp only [decide_eq_true_eq] at hq20
        (exfalso; omega)
      simp only [decide_eq_false_iff_not] at hq20
      refine AWP.exit ?_
      refine AWP.seq ?_
      refine xe0 [2, 3, 4, 6, 7, 40] [3] (by kernel_rfl) ?_
      refine AWP.cond (b := decide ((↑k : Int) < 2)) (by kernel_rfl) (fun hq21 => ?_) (fun hq21 => ?_)
      · simp only [decide_eq_true_eq] at hq21
        refine AWP.seq ?_
        refine AWP.keep' [6, 7] [] (sf := St.mk [(6, tp (u32 (cNo m))), (7, tp (B8 (cPo m)))] []) (by kernel_rfl) ?_
        refine xg0 [2, 3, 4, 6, 7] [3] (by kernel_rfl) ?_
        refine AWP.frz 3 (s' := St.mk [(2, tp (u32 0)), (3, tp (V.vs [] 0)), (4, tp (i64 3)), (6, tp (u32 (cNo m))), (7, tp (B8 (cPo m)))] []) (by kernel_rfl) ?_
        refine AWP.ret ?_
        refine ⟨Or.inr rfl, Eq.trans (b := some ([], V.tup [u32 0, V.vs [] 0, i64 3])) (by kernel_rfl) ?_⟩
        first | (rw [if_pos (by simp only; omega), if_pos (by simp only; omega), if_pos (by simp only; omega)]; done) | (have hk3 : ¬ 2 ≤ (k, m).1 := (by show ¬ 2 ≤ k; omega); simp only [if_neg hk3]; rfl) | (exfalso; omega)
      simp only [decide_eq_false_iff_not] at hq21
      refine AWP.skip ?_
      refine AWP.seq ?_
      refine AWP.keep' [6, 7] [] (sf := St.mk [(6, tp (u32 (cNo m))), (7, tp (B8 (cPo m)))] []) (by kernel_rfl) ?_
      refine xg0 [2, 3, 4] [] (by kernel_rfl) ?_
      refine AWP.ret ?_
      refine ⟨Or.inr rfl, Eq.trans (b := some ([], V.tup [u32 (cNo m), B8 (cPo m), i64 0])) (by kernel_rfl) ?_⟩
      first | (rw [if_pos (by simp only; omega), if_pos (by simp only; omega), if_pos (by simp only; omega)]; done) | (have hk3 : ¬ 2 ≤ (k, m).1 := (by show ¬ 2 ≤ k; omega); simp only [if_neg hk3]; rfl) | (exfalso; omega)
    have kx := LL_at ls i.toNat
    have hcm : ls.getD i.toNat [] ∈ ls := by
      rw [List.getD_eq_getElem?_getD, List.getElem?_eq_getElem (by omega)]
      exact List.getElem_mem _
    have hv' := vst_take (ls := ls) (i := i.toNat) (by omega)
    rw [show i.toNat + 1 = (i + 1).toNat by omega] at hv'
    generalize ls.getD i.toNat [] = c at kx hcm hv'
    have hcb := (hl c hcm).1
    have hcl := (hl c hcm).2
    have hnb := cNo_bd hcb
    refine xe0 [2, 3, 4, 5, 6, 7, 13, 14, 15, 16] [3] (by kernel_rfl) ?_
    refine AWP.seq ?_
    refine AWP.cond (b := decide (i < (↑n : Int))) (by kernel_rfl) (fun hq22 => ?_) (fun hq22 => ?_)
    · simp only [decide_eq_true_eq] at hq22
      refine AWP.skip ?_
      refine AWP.seq ?_
      refine AWP.block ?_
      refine xe1 (os := [(0 : Int) ≤ i ∧ i < (↑n : Int), V.vp (List.drop (Int.toNat i * 1) (LL ls)) = V.vp (B8 c :: List.drop (Int.toNat i + 1) (LL ls))]) [(0, ⟨some (V.vp (B8 c :: List.drop (Int.toNat i + 1) (LL ls))), none⟩)] [2, 3, 4, 5, 6, 7, 9, 13, 14, 15] [3] (by kernel_rfl) ⟨(by omega), (congrArg V.vp (kx (by omega))), trivial⟩ ?_
      refine xe1 [(1, ⟨none, some ⟨V.tup [u32 (cNo c), V.sl 340005 0 (List.length (cPo c)), i64 (cE c)], [(340005, Blk.mk (u8s (cPo c)) true 0 (some (5, 1)))], []⟩⟩)] [2, 3, 4, 5, 6, 7, 10, 11, 12, 13, 14, 15] [3, 560005] (by kernel_rfl) (AllP.c (con_rparse (c) (List.length c) (by omega) (by assumption) (by assumption)) AllP.n) ?_
      refine AWP.seq ?_
      refine xe0 [2, 3, 4, 5, 6, 7, 10, 11, 13, 14, 15, 26] [3, 560005] (by kernel_rfl) ?_
      refine AWP.cond (b := cE c != 0) (by kernel_rfl) (fun hq23 => ?_) (fun hq23 => ?_)
      · simp only [bne_iff_ne] at hq23
        refine AWP.exit ?_
        refine AWP.region tcok hmix [(0, ⟨some (i64 (i + 1)), none⟩)] (os := [i64 (IntKind.wrap IntKind.i64 (i + 1)) = i64 (i + 1)]) (sf := St.mk [(2, tp (u32 0)), (3, tp (V.sl 3 0 0)), (4, tp (i64 0)), (5, tp (i64 (↑k : Int))), (6, tp (u32 (cNo m))), (7, tp (B8 (cPo m))), (10, tp (u32 (cNo c))), (11, tp (V.sl 560005 0 (List.length (cPo c)))), (13, tp (V.vs (LL ls) n)), (14, tp (i64 (↑n : Int))), (15, tp (i64 (i + 1))), (26, tp (vb (cE c != 0))), (38, tp (i64 (i + 1)))] [(3, Blk.mk [] true 0 (some (5, 1))), (560005, Blk.mk (u8s (cPo c)) true 0 (some (5, 1)))]) (by kernel_rfl) ⟨(wr_i64 (by omega) (by omega)), trivial⟩ ?_
        refine ⟨St.mk [(2, tp (u32 0)), (3, tp (V.sl 3 0 0)), (4, tp (i64 0)), (5, tp (i64 (↑k : Int))), (6, tp (u32 (cNo m))), (7, tp (B8 (cPo m))), (13, tp (V.vs (LL ls) n)), (14, tp (i64 (↑n : Int))), (15, tp (i64 (i + 1)))] [(3, Blk.mk [] true 0 (some (5, 1)))], by kernel_rfl, ?_⟩
        first | (exact ⟨(n - (i + 1)).toNat, (by omega), Or.inr ⟨i + 1, k, m, rfl, (by rw [hv', hv]; simp only [vnx]; rw [if_neg (by assumption)]), (by omega), (by omega), (by omega), (by omega)⟩⟩) | (exact ⟨(n - (i + 1)).toNat, (by omega), Or.inr ⟨i + 1, k + 1, c, rfl, (by rw [hv', hv]; simp only [vnx]; rw [if_pos (by assumption), if_pos (by right; simp [newer, hm0]; refine ⟨by assumption, ?_⟩; omega)]), (by omega), (by omega), (by omega), (by omega)⟩⟩) | (exact ⟨(n - (i + 1)).toNat, (by omega), Or.inr ⟨i + 1, k + 1, m, rfl, (by rw [hv', hv]; simp only [vnx]; rw [if_pos (by assumption), if_neg (by simp [newer, hm0]; omega)]), (by omega), (by omega), (by omega), (by omega)⟩⟩)
      simp only [bne_eq_false_iff_eq] at hq23
      refine AWP.skip ?_
      refine AWP.seq ?_
      refine xe0 [2, 3, 4, 5, 6, 7, 10, 11, 13, 14, 15, 33] [3, 560005] (by kernel_rfl) ?_
      refine AWP.cond (b := (↑k : Int) == 0 || decide (cNo c > cNo m)) (by kernel_rfl) (fun hq24 => ?_) (fun hq24 => ?_)
      · simp only [decide_eq_true_eq, Bool.or_eq_true, beq_iff_eq] at hq24
        refine xg0 [2, 3, 4, 5, 6, 7, 13, 14, 15] [3, 560005] (by kernel_rfl) ?_
        refine AWP.region tcok hmix [(1, ⟨some (i64 ((↑k : Int) + 1)), none⟩)] (os := [i64 (IntKind.wrap IntKind.i64 ((↑k : Int) + 1)) = i64 ((↑k : Int) + 1)]) (sf := St.mk [(2, tp (u32 0)), (3, tp (V.sl 3 0 0)), (4, tp (i64 0)), (5, tp (i64 ((↑k : Int) + 1))), (6, tp (u32 (cNo c))), (7, tp (V.sl 560005 0 (List.length (cPo c)))), (13, tp (V.vs (LL ls) n)), (14, tp (i64 (↑n : Int))), (15, tp (i64 i)), (36, tp (i64 (↑k : Int))), (37, tp (i64 ((↑k : Int) + 1)))] [(3, Blk.mk [] true 0 (some (5, 1))), (560005, Blk.mk (u8s (cPo c)) true 0 (some (5, 1)))]) (by kernel_rfl) ⟨(wr_i64 (by omega) (by omega)), trivial⟩ ?_
        refine AWP.keep' [2, 3, 4, 5, 6, 7, 13, 14, 15] [3, 560005] (sf := St.mk [(2, tp (u32 0)), (3, tp (V.sl 3 0 0)), (4, tp (i64 0)), (5, tp (i64 ((↑k : Int) + 1))), (6, tp (u32 (cNo c))), (7, tp (V.sl 560005 0 (List.length (cPo c)))), (13, tp (V.vs (LL ls) n)), (14, tp (i64 (↑n : Int))), (15, tp (i64 i))] [(3, Blk.mk [] true 0 (some (5, 1))), (560005, Blk.mk (u8s (cPo c)) true 0 (some (5, 1)))]) (by kernel_rfl) ?_
        refine AWP.frz 560005 (s' := St.mk [(2, tp (u32 0)), (3, tp (V.sl 3 0 0)), (4, tp (i64 0)), (5, tp (i64 ((↑k : Int) + 1))), (6, tp (u32 (cNo c))), (7, tp (B8 (cPo c))), (13, tp (V.vs (LL ls) n)), (14, tp (i64 (↑n : Int))), (15, tp (i64 i))] [(3, Blk.mk [] true 0 (some (5, 1)))]) (by kernel_rfl) ?_
        refine AWP.region tcok hmix [(0, ⟨some (i64 (i + 1)), none⟩)] (os := [i64 (IntKind.wrap IntKind.i64 (i + 1)) = i64 (i + 1)]) (sf := St.mk [(2, tp (u32 0)), (3, tp (V.sl 3 0 0)), (4, tp (i64 0)), (5, tp (i64 ((↑k : Int) + 1))), (6, tp (u32 (cNo c))), (7, tp (B8 (cPo c))), (13, tp (V.vs (LL ls) n)), (14, tp (i64 (↑n : Int))), (15, tp (i64 (i + 1))), (38, tp (i64 (i + 1)))] [(3, Blk.mk [] true 0 (some (5, 1)))]) (by kernel_rfl) ⟨(wr_i64 (by omega) (by omega)), trivial⟩ ?_
        refine ⟨St.mk [(2, tp (u32 0)), (3, tp (V.sl 3 0 0)), (4, tp (i64 0)), (5, tp (i64 ((↑k : Int) + 1))), (6, tp (u32 (cNo c))), (7, tp (B8 (cPo c))), (13, tp (V.vs (LL ls) n)), (14, tp (i64 (↑n : Int))), (15, tp (i64 (i + 1)))] [(3, Blk.mk [] true 0 (some (5, 1)))], by kernel_rfl, ?_⟩
        first | (exact ⟨(n - (i + 1)).toNat, (by omega), Or.inr ⟨i + 1, k, m, rfl, (by rw [hv', hv]; simp only [vnx]; rw [if_neg (by assumption)]), (by omega), (by omega), (by omega), (by omega)⟩⟩) | (exact ⟨(n - (i + 1)).toNat, (by omega), Or.inr ⟨i + 1, k + 1, c, rfl, (by rw [hv', hv]; simp only [vnx]; rw [if_pos (by assumption), if_pos (by right; simp [newer, hm0]; refine ⟨by assumption, ?_⟩; omega)]), (by omega), (by omega), (by omega), (by omega)⟩⟩) | (exact ⟨(n - (i + 1)).toNat, (by omega), Or.inr ⟨i + 1, k + 1, m, rfl, (by rw [hv', hv]; simp only [vnx]; rw [if_pos (by assumption), if_neg (by simp [newer, hm0]; omega)]), (by omega), (by omega), (by omega), (by omega)⟩⟩)
      simp only [decide_eq_false_iff_not, Bool.or_eq_false_iff, beq_eq_false_iff_ne] at hq24
      refine AWP.skip ?_
      refine AWP.region tcok hmix [(1, ⟨some (i64 ((↑k : Int) + 1)), none⟩)] (os := [i64 (IntKind.wrap IntKind.i64 ((↑k : Int) + 1)) = i64 ((↑k : Int) + 1)]) (sf := St.mk [(2, tp (u32 0)), (3, tp (V.sl 3 0 0)), (4, tp (i64 0)), (5, tp (i64 ((↑k : Int) + 1))), (6, tp (u32 (cNo m))), (7, tp (B8 (cPo m))), (10, tp (u32 (cNo c))), (11, tp (V.sl 560005 0 (List.length (cPo c)))), (13, tp (V.vs (LL ls) n)), (14, tp (i64 (↑n : Int))), (15, tp (i64 i)), (33, tp (vb ((↑k : Int) == 0 || decide (cNo c > cNo m)))), (36, tp (i64 (↑k : Int))), (37, tp (i64 ((↑k : Int) + 1)))] [(3, Blk.mk [] true 0 (some (5, 1))), (560005, Blk.mk (u8s (cPo c)) true 0 (some (5, 1)))]) (by kernel_rfl) ⟨(wr_i64 (by omega) (by omega)), trivial⟩ ?_
      refine AWP.keep' [2, 3, 4, 5, 6, 7, 13, 14, 15] [3] (sf := St.mk [(2, tp (u32 0)), (3, tp (V.sl 3 0 0)), (4, tp (i64 0)), (5, tp (i64 ((↑k : Int) + 1))), (6, tp (u32 (cNo m))), (7, tp (B8 (cPo m))), (13, tp (V.vs (LL ls) n)), (14, tp (i64 (↑n : Int))), (15, tp (i64 i))] [(3, Blk.mk [] true 0 (some (5, 1)))]) (by kernel_rfl) ?_
      refine AWP.region tcok hmix [(0, ⟨some (i64 (i + 1)), none⟩)] (os := [i64 (IntKind.wrap IntKind.i64 (i + 1)) = i64 (i + 1)]) (sf := St.mk [(2, tp (u32 0)), (3, tp (V.sl 3 0 0)), (4, tp (i64 0)), (5, tp (i64 ((↑k : Int) + 1))), (6, tp (u32 (cNo m))), (7, tp (B8 (cPo m))), (13, tp (V.vs (LL ls) n)), (14, tp (i64 (↑n : Int))), (15, tp (i64 (i + 1))), (38, tp (i64 (i + 1)))] [(3, Blk.mk [] true 0 (some (5, 1)))]) (by kernel_rfl) ⟨(wr_i64 (by omega) (by omega)), trivial⟩ ?_
      refine ⟨St.mk [(2, tp (u32 0)), (3, tp (V.sl 3 0 0)), (4, tp (i64 0)), (5, tp (i64 ((↑k : Int) + 1))), (6, tp (u32 (cNo m))), (7, tp (B8 (cPo m))), (13, tp (V.vs (LL ls) n)), (14, tp (i64 (↑n : Int))), (15, tp (i64 (i + 1)))] [(3, Blk.mk [] true 0 (some (5, 1)))], by kernel_rfl, ?_⟩
      first | (exact ⟨(n - (i + 1)).toNat, (by omega), Or.inr ⟨i + 1, k, m, rfl, (by rw [hv', hv]; simp only [vnx]; rw [if_neg (by assumption)]), (by omega), (by omega), (by omega), (by omega)⟩⟩) | (exact ⟨(n - (i + 1)).toNat, (by omega), Or.inr ⟨i + 1, k + 1, c, rfl, (by rw [hv', hv]; simp only [vnx]; rw [if_pos (by assumption), if_pos (by right; simp [newer, hm0]; refine ⟨by assumption, ?_⟩; omega)]), (by omega), (by omega), (by omega), (by omega)⟩⟩) | (exact ⟨(n - (i + 1)).toNat, (by omega), Or.inr ⟨i + 1, k + 1, m, rfl, (by rw [hv', hv]; simp only [vnx]; rw [if_pos (by assumption), if_neg (by simp [newer, hm0]; omega)]), (by omega), (by omega), (by omega), (by omega)⟩⟩)
    simp only [decide_eq_false_iff_not] at hq22
    (exfalso; omega)
end Go.Proofs.Ytmeiemdnhjnpcaa
