/- Cells: the newer one; the newest. -/
import Derived.Test.YtmeiemdnhjnpcaaRg
import Derived.Test.YtmeiemdnhjnpcaaCelW
namespace Go.Proofs.Ytmeiemdnhjnpcaa
open Go.Ab
set_option linter.unusedSimpArgs false
set_option linter.unusedVariables false
def newer (a b : List Int) : Bool := cE a == 0 && (cE b != 0 || decide (cNo a > cNo b))
theorem con_newer (a : List Int) (n : Nat) (b : List Int) (m : Nat) (hn : a.length = n) (hm : b.length = m) (ha : BL a) (hb : BL b) (hla : n ≤ 1000000) (hlb : m ≤ 1000000) : Con Try.prog 41 [] [.vs (u8s a) n, .vs (u8s b) m] [] (vb (newer a b)) := by
  refine Con.of (C := ⟨Try.prog, tc, Try.f41.ntmps⟩) [] tcok Try.func41 rfl rfl (by kernel_rfl) (by kernel_rfl) ?_
  refine xe0 [0, 1, 4] [] (by kernel_rfl) ?_
  refine xe1 [(1, ⟨none, some ⟨V.tup [u32 (cNo a), V.sl 680005 0 (List.length (cPo a)), i64 (cE a)], [(680005, Blk.mk (u8s (cPo a)) true 0 (some (5, 1)))], []⟩⟩)] [1, 4, 5, 7] [] (by kernel_rfl) (AllP.c (con_cparse (a) (n) (by assumption) (by assumption) (by omega)) AllP.n) ?_
  refine xe1 [(1, ⟨none, some ⟨V.tup [u32 (cNo b), V.sl 680005 0 (List.length (cPo b)), i64 (cE b)], [(680005, Blk.mk (u8s (cPo b)) true 0 (some (5, 1)))], []⟩⟩)] [4, 5, 7, 8, 10] [] (by kernel_rfl) (AllP.c (con_cparse (b) (m) (by assumption) (by assumption) (by omega)) AllP.n) ?_
  refine xe0 [4] [] (by kernel_rfl) ?_
  refine AWP.ret ?_
  refine ⟨Or.inr rfl, Eq.trans (b := some ([], vb (cE a == 0 && (cE b != 0 || decide (cNo a > cNo b))))) (by kernel_rfl) ?_⟩
  first | rfl | (simp [newer]; done)
/-- Lists of bytes, as a slice holds them. -/
def LL (ls : List (List Int)) : List V := ls.map fun l => .vs (u8s l) l.length
theorem LL_at (ls : List (List Int)) (i : Nat) (h : i < ls.length) : (LL ls).drop (i * 1) = .vs (u8s (ls.getD i [])) (ls.getD i []).length :: (LL ls).drop (i + 1) := by
  unfold LL
  rw [Nat.mul_one, List.drop_eq_getElem_cons (by simpa using h)]
  simp [List.getD_eq_getElem?_getD, List.getElem?_eq_getElem h]
/-- How many can be read; the newest of them. -/
def vnx (s : Nat × List Int) (c : List Int) : Nat × List Int := if cE c = 0 then (s.1 + 1, if s.1 = 0 ∨ newer c s.2 = true then c else s.2) else s
def vst (ls : List (List Int)) : Nat × List Int := ls.foldl vnx (0, [])
theorem vst_take {ls : List (List Int)} {i : Nat} (h : i < ls.length) : vst (ls.take (i + 1)) = vnx (vst (ls.take i)) (ls.getD i []) := by
  have e : ls.take (i + 1) = ls.take i ++ [ls.getD i []] := by
    rw [List.take_add_one, List.getElem?_eq_getElem h, List.getD_eq_getElem?_getD, List.getElem?_eq_getElem h]
    rfl
  unfold vst
  rw [e, List.foldl_append]
  rfl
theorem vst_ok (ls : List (List Int)) (hl : ∀ l ∈ ls, BL l ∧ l.length ≤ 1000000) : (vst ls).1 ≤ ls.length ∧ BL (vst ls).2 ∧ (vst ls).2.length ≤ 1000000 := by
  have key : ∀ (ls : List (List Int)) (s : Nat × List Int) (N : Nat), (∀ l ∈ ls, BL l ∧ l.length ≤ 1000000) → s.1 ≤ N ∧ BL s.2 ∧ s.2.length ≤ 1000000 → (ls.foldl vnx s).1 ≤ N + ls.length ∧ BL (ls.foldl vnx s).2 ∧ (ls.foldl vnx s).2.length ≤ 1000000 := by
    intro ls
    induction ls with
    | nil => intro s N _ h; simpa using h
    | cons c ls ih =>
      intro s N hl h
      have hc := hl c (by simp)
      have := ih (vnx s c) (N + 1) (fun l h => hl l (by simp [h])) (by
        unfold vnx
        split
        · refine ⟨by show s.1 + 1 ≤ N + 1; omega, ?_⟩
          show BL (if _ then c else s.2) ∧ (if _ then c else s.2).length ≤ 1000000
          split
          · exact hc
          · exact h.2
        · exact ⟨by omega, h.2⟩)
      rw [List.foldl_cons]
      refine ⟨?_, this.2⟩
      rw [List.length_cons]
      omega
  have := key ls (0, []) 0 hl ⟨Nat.le_refl _, BL.nil, Nat.zero_le _⟩
  simpa [vst] using this
theorem vst_some {ls : List (List Int)} : (vst ls).1 ≠ 0 → cE (vst ls).2 = 0 := by
  have key : ∀ (ls : List (List Int)) (s : Nat × List Int), (s.1 ≠ 0 → cE s.2 = 0) → (ls.foldl vnx s).1 ≠ 0 → cE (ls.foldl vnx s).2 = 0 := by
    intro ls
    induction ls with
    | nil => intro s h; exact h
    | cons c ls ih =>
      intro s h
      refine ih (vnx s c) ?_
      unfold vnx
      split
      · rename_i hc
        intro _
        show cE (if _ then c else s.2) = 0
        split
        · exact hc
        · rename_i h2
          exact h (fun e => h2 (.inl e))
      · exact h
  exact key ls (0, []) (fun h => absurd rfl h)
theorem con_vote_n (ls : List (List Int)) (n : Nat) (hn : ls.length = n) (hl : ∀ l ∈ ls, BL l ∧ l.length ≤ 1000000) (hlen : n ≤ 1000000) (hk2 : (vst ls).1 < 2) : Con Try.prog 37 [] [.vs (LL ls) n] [(3, ⟨[], true, 0, some (5, 1)⟩)] (.tup [u32 0, .sl 3 0 0, i64 3]) := by
  refine Con.of (C := ⟨Try.prog, tc, Try.f37.ntmps⟩) [3] tcok Try.func37 rfl rfl (by kernel_rfl) (by kernel_rfl) ?_
  refine xe0 [0, 2, 3, 4] [3] (by kernel_rfl) ?_
  refine xe0 [0, 2, 3, 4, 5] [3] (by kernel_rfl) ?_
  refine xe0 [0, 2, 3, 4, 5, 6] [3, 6] (by kernel_rfl) ?_
  refine AWP.seq ?_
  refine xe0 [2, 3, 4, 5, 6, 12, 13, 14] [3, 6] (by kernel_rfl) ?_
  refine AWP.block ?_
  refine AWP.loopI [5, 6, 12, 13, 14] [6] (fun N s' => (∃ (i : Int), s' = St.mk [(5, T.plain (i64 0)), (6, T.plain (V.sl 6 0 0)), (12, T.plain (V.vs (LL ls) n)), (13, T.plain (i64 (n : Int))), (14, T.plain (i64 i))] [(6, Blk.mk [] true 0 (some (5, 1)))] ∧ (vst (ls.take i.toNat)).1 = 0 ∧ 0 ≤ i ∧ i ≤ n ∧ (N : Int) = n - i) ∨ (∃ (i : Int) (k : Nat) (m : List Int), s' = St.mk [(5, T.plain (i64 (k : Int))), (6, T.plain (V.vs (u8s m) m.length)), (12, T.plain (V.vs (LL ls) n)), (13, T.plain (i64 (n : Int))), (14, T.plain (i64 i))] [] ∧ vst (ls.take i.toNat) = (k, m) ∧ 1 ≤ k ∧ 0 ≤ i ∧ i ≤ n ∧ (N : Int) = n - i)) n (s0 := St.mk [(5, T.plain (i64 0)), (6, T.plain (V.sl 6 0 0)), (12, T.plain (V.vs (LL ls) n)), (13, T.plain (i64 (n : Int))), (14, T.plain (i64 0))] [(6, Blk.mk [] true 0 (some (5, 1)))]) (by kernel_rfl) ?_ ?_
  · exact .inl ⟨0, rfl, rfl, by omega, by omega, by omega⟩
  rintro N s' (⟨i, rfl, hv, hi, hi2, hN⟩ | ⟨i, k, m, rfl, hv, hk, hi, hi2, hN⟩)
  · by_cases hin : i < n
    case neg =>
      rw [List.take_of_length_le (by omega)] at hv
      refine xe0 [5, 6, 12, 13, 14, 15] [6] (by kernel_rfl) ?_
      refine AWP.seq ?_
      refine AWP.cond (b := decide (i < (↑n : Int))) (by kernel_rfl) (fun hq0 => ?_) (fun hq0 => ?_)
      · simp only [decide_eq_true_eq] at hq0
        (exfalso; omega)
      simp only [decide_eq_false_iff_not] at hq0
      refine AWP.exit ?_
      refine AWP.seq ?_
      refine xe0 [6, 38] [6] (by kernel_rfl) ?_
      refine AWP.condT (by kernel_rfl) ?_
      refine xe0 [2, 3, 4, 6] [3, 6] (by kernel_rfl) ?_
      refine AWP.ret ?_
      refine ⟨Or.inr rfl, Eq.trans (b := some ([(3, Blk.mk [] true 0 (some (5, 1)))], V.tup [u32 0, V.sl 3 0 0, i64 3])) (by kernel_rfl) ?_⟩
      first | rfl | (exfalso; omega)
    have kx := LL_at ls i.toNat
    have hcm : ls.getD i.toNat [] ∈ ls := by
      rw [List.getD_eq_getElem?_getD, List.getElem?_eq_getElem (by omega)]
      exact List.getElem_mem _
    have hv' := vst_take (ls := ls) (i := i.toNat) (by omega)
    rw [show i.toNat + 1 = (i + 1).toNat by omega] at hv'
    generalize ls.getD i.toNat [] = c at kx hcm hv'
    have hcb := (hl c hcm).1
    have hcl := (hl c hcm).2
    refine xe0 [5, 6, 12, 13, 14, 15] [6] (by kernel_rfl) ?_
    refine AWP.seq ?_
    refine AWP.cond (b := decide (i < (↑n : Int))) (by kernel_rfl) (fun hq2 => ?_) (fun hq2 => ?_)
    · simp only [decide_eq_true_eq] at hq2
      refine AWP.skip ?_
      refine AWP.seq ?_
      refine AWP.block ?_
      refine xe1 (os := [(0 : Int) ≤ i ∧ i < (↑n : Int), V.vp (List.drop (Int.toNat i * 1) (LL ls)) = V.vp (B8 c :: List.drop (Int.toNat i + 1) (LL ls))]) [(0, ⟨some (V.vp (B8 c :: List.drop (Int.toNat i + 1) (LL ls))), none⟩)] [5, 6, 8, 12, 13, 14] [6] (by kernel_rfl) ⟨(by omega), (congrArg V.vp (kx (by omega))), trivial⟩ ?_
      refine AWP.seq ?_
      refine xe1 [(1, ⟨none, some ⟨V.tup [u32 (cNo c), V.sl 680005 0 (List.length (cPo c)), i64 (cE c)], [(680005, Blk.mk (u8s (cPo c)) true 0 (some (5, 1)))], []⟩⟩)] [5, 6, 8, 11, 12, 13, 14] [6] (by kernel_rfl) (AllP.c (con_cparse (c) (List.length c) (by omega) (by assumption) (by omega)) AllP.n) ?_
      refine xe0 [5, 6, 8, 12, 13, 14, 25] [6] (by kernel_rfl) ?_
      refine AWP.cond (b := cE c != 0) (by kernel_rfl) (fun hq3 => ?_) (fun hq3 => ?_)
      · simp only [bne_iff_ne] at hq3
        refine AWP.exit ?_
        refine AWP.region tcok hmix [(0, ⟨some (i64 (i + 1)), none⟩)] (os := [i64 (IntKind.wrap IntKind.i64 (i + 1)) = i64 (i + 1)]) (sf := St.mk [(5, tp (i64 0)), (6, tp (V.sl 6 0 0)), (8, tp (B8 c)), (12, tp (V.vs (LL ls) n)), (13, tp (i64 (↑n : Int))), (14, tp (i64 (i + 1))), (25, tp (vb (cE c != 0))), (36, tp (i64 (i + 1)))] [(6, Blk.mk [] true 0 (some (5, 1)))]) (by kernel_rfl) ⟨(wr_i64 (by omega) (by omega)), trivial⟩ ?_
        refine ⟨St.mk [(5, tp (i64 0)), (6, tp (V.sl 6 0 0)), (12, tp (V.vs (LL ls) n)), (13, tp (i64 (↑n : Int))), (14, tp (i64 (i + 1)))] [(6, Blk.mk [] true 0 (some (5, 1)))], by kernel_rfl, ?_⟩
        first | (exact ⟨(n - (i + 1)).toNat, (by omega), Or.inl ⟨i + 1, rfl, (by rw [hv']; simp only [vnx]; rw [if_neg (by assumption)]; exact hv), (by omega), (by omega), (by omega)⟩⟩) | (exact ⟨(n - (i + 1)).toNat, (by omega), Or.inr ⟨i + 1, 1, c, rfl, (by rw [hv']; simp only [vnx]; rw [if_pos (by assumption), hv, if_pos (Or.inl rfl)]), (by omega), (by omega), (by omega), (by omega)⟩⟩)
      simp only [bne_eq_false_iff_eq] at hq3
      refine AWP.skip ?_
      refine xe0 [5, 6, 8, 12, 13, 14] [6] (by kernel_rfl) ?_
      refine xe1 (os := [true = false → VO (vb (newer c [])) ∧ VOH [] ∧ Con Try.prog (41 : Nat) [] [B8 c, V.vs [] (0 : Nat)] [] (vb (newer c [])) ∧ (0 : Nat) = (0 : Nat) ∧ (0 : Nat) = (0 : Nat) ∧ True]) [(5, ⟨none, some ⟨vb (newer c []), [], [(6, true)]⟩⟩)] [5, 6, 8, 12, 13, 14, 34] [6] (by kernel_rfl) ⟨(by intro hc0; first | (cases hc0; done) | (try simp only [Bool.or_false, Bool.false_or, Bool.true_and, Bool.and_true, decide_eq_true_eq, decide_eq_false_iff_not, Bool.and_eq_true, Bool.or_eq_true, Bool.or_eq_false_iff, Bool.not_eq_true', Bool.and_eq_false_iff, beq_iff_eq, bne_iff_ne, bne_eq_false_iff_eq, beq_eq_false_iff_ne, Bool.not_eq_false'] at hc0; exact ⟨(VO.val _), trivial, (con_newer (c) (List.length c) ([]) (0) (by omega) (by (simp [len_u8s]; done)) (by assumption) (by exact BL.nil) (by assumption) (by omega)), (by omega), (by omega), trivial⟩)), trivial⟩ ?_
      refine AWP.condT (by kernel_rfl) ?_
      refine AWP.keep' [5, 8, 12, 13, 14] [] (sf := St.mk [(5, tp (i64 1)), (8, tp (B8 c)), (12, tp (V.vs (LL ls) n)), (13, tp (i64 (↑n : Int))), (14, tp (i64 i))] []) (by kernel_rfl) ?_
      refine AWP.region tcok hmix [] (os := []) (sf := St.mk [(5, tp (i64 1)), (6, tp (B8 c)), (8, tp (B8 c)), (12, tp (V.vs (LL ls) n)), (13, tp (i64 (↑n : Int))), (14, tp (i64 i)), (35, tp (B8 c))] []) (by kernel_rfl) trivial ?_
      refine AWP.keep' [5, 6, 12, 13, 14] [] (sf := St.mk [(5, tp (i64 1)), (6, tp (B8 c)), (12, tp (V.vs (LL ls) n)), (13, tp (i64 (↑n : Int))), (14, tp (i64 i))] []) (by kernel_rfl) ?_
      refine AWP.region tcok hmix [(0, ⟨some (i64 (i + 1)), none⟩)] (os := [i64 (IntKind.wrap IntKind.i64 (i + 1)) = i64 (i + 1)]) (sf := St.mk [(5, tp (i64 1)), (6, tp (B8 c)), (12, tp (V.vs (LL ls) n)), (13, tp (i64 (↑n : Int))), (14, tp (i64 (i + 1))), (36, tp (i64 (i + 1)))] []) (by kernel_rfl) ⟨(wr_i64 (by omega) (by omega)), trivial⟩ ?_
      refine ⟨St.mk [(5, tp (i64 1)), (6, tp (B8 c)), (12, tp (V.vs (LL ls) n)), (13, tp (i64 (↑n : Int))), (14, tp (i64 (i + 1)))] [], by kernel_rfl, ?_⟩
      first | (exact ⟨(n - (i + 1)).toNat, (by omega), Or.inl ⟨i + 1, rfl, (by rw [hv']; simp only [vnx]; rw [if_neg (by assumption)]; exact hv), (by omega), (by omega), (by omega)⟩⟩) | (exact ⟨(n - (i + 1)).toNat, (by omega), Or.inr ⟨i + 1, 1, c, rfl, (by rw [hv']; simp only [vnx]; rw [if_pos (by assumption), hv, if_pos (Or.inl rfl)]), (by omega), (by omega), (by omega), (by omega)⟩⟩)
    simp only [decide_eq_false_iff_not] at hq2
    (exfalso; omega)
  · have hok := vst_ok (ls.take i.toNat) (fun l h => hl l (List.mem_of_mem_take h))
    rw [hv] at hok
    obtain ⟨ok1, ok2, ok3⟩ := hok
    rw [List.length_take] at ok1
    have ok1 : k ≤ n := by omega
    have ok2 : BL m := ok2
    have ok3 : m.length ≤ 1000000 := ok3
    have hm0 : cE m = 0 := by
      have := vst_some (ls := ls.take i.toNat)
      rw [hv] at this
      exact this (by simp; omega)
    by_cases hin : i < n
    case neg =>
      rw [List.take_of_length_le (by omega)] at hv
      refine xe0 [5, 6, 12, 13, 14, 15] [] (by kernel_rfl) ?_
      refine AWP.seq ?_
      refine AWP.cond (b := decide (i < (↑n : Int))) (by kernel_rfl) (fun hq5 => ?_) (fun hq5 => ?_)
      · simp only [decide_eq_true_eq] at hq5
        (exfalso; omega)
      simp only [decide_eq_false_iff_not] at hq5
      refine AWP.exit ?_
      refine AWP.seq ?_
      refine xe0 [6, 38] [] (by kernel_rfl) ?_
      refine AWP.cond (b := decide ((↑k : Int) < 2)) (by kernel_rfl) (fun hq6 => ?_) (fun hq6 => ?_)
      · simp only [decide_eq_true_eq] at hq6
        refine xe0 [2, 3, 4, 6] [3] (by kernel_rfl) ?_
        refine AWP.ret ?_
        refine ⟨Or.inr rfl, Eq.trans (b := some ([(3, Blk.mk [] true 0 (some (5, 1)))], V.tup [u32 0, V.sl 3 0 0, i64 3])) (by kernel_rfl) ?_⟩
        first | rfl | (exfalso; rw [hv] at hk2; simp at hk2; omega)
      simp only [decide_eq_false_iff_not] at hq6
      refine AWP.skip ?_
      refine xe1 (os := [Con Try.prog 33 [] [B8 m] [(680005, Blk.mk (u8s (cPo m)) true 0 (some (5, 1)))] (V.tup [u32 (cNo m), V.sl 680005 0 (List.length (cPo m)), i64 (cE m)]), i64 (cE m) = i64 0]) [(1, ⟨none, some ⟨V.tup [u32 (cNo m), V.sl 680005 0 (List.length (cPo m)), i64 (cE m)], [(680005, Blk.mk (u8s (cPo m)) true 0 (some (5, 1)))], []⟩⟩), (4, ⟨some (i64 0), none⟩)] [2, 3, 4] [1090005] (by kernel_rfl) ⟨(con_cparse (m) (List.length m) (by omega) (by assumption) (by omega)), (in_eq hm0), trivial⟩ ?_
      refine AWP.ret ?_
      refine ⟨Or.inr rfl, Eq.trans (b := none) (by kernel_rfl) ?_⟩
      first | rfl | (exfalso; rw [hv] at hk2; simp at hk2; omega)
    have kx := LL_at ls i.toNat
    have hcm : ls.getD i.toNat [] ∈ ls := by
      rw [List.getD_eq_getElem?_getD, List.getElem?_eq_getElem (by omega)]
      exact List.getElem_mem _
    have hv' := vst_take (ls := ls) (i := i.toNat) (by omega)
    rw [show i.toNat + 1 = (i + 1).toNat by omega] at hv'
    generalize ls.getD i.toNat [] = c at kx hcm hv'
    have hcb := (hl c hcm).1
    have hcl := (hl c hcm).2
    refine xe0 [5, 6, 12, 13, 14, 15] [] (by kernel_rfl) ?_
    refine AWP.seq ?_
    refine AWP.cond (b := decide (i < (↑n : Int))) (by kernel_rfl) (fun hq7 => ?_) (fun hq7 => ?_)
    · simp only [decide_eq_true_eq] at hq7
      refine AWP.skip ?_
      refine AWP.seq ?_
      refine AWP.block ?_
      refine xe1 (os := [(0 : Int) ≤ i ∧ i < (↑n : Int), V.vp (List.drop (Int.toNat i * 1) (LL ls)) = V.vp (B8 c :: List.drop (Int.toNat i + 1) (LL ls))]) [(0, ⟨some (V.vp (B8 c :: List.drop (Int.toNat i + 1) (LL ls))), none⟩)] [5, 6, 8, 12, 13, 14] [] (by kernel_rfl) ⟨(by omega), (congrArg V.vp (kx (by omega))), trivial⟩ ?_
      refine AWP.seq ?_
      refine xe1 [(1, ⟨none, some ⟨V.tup [u32 (cNo c), V.sl 680005 0 (List.length (cPo c)), i64 (cE c)], [(680005, Blk.mk (u8s (cPo c)) true 0 (some (5, 1)))], []⟩⟩)] [5, 6, 8, 11, 12, 13, 14] [] (by kernel_rfl) (AllP.c (con_cparse (c) (List.length c) (by omega) (by assumption) (by omega)) AllP.n) ?_
      refine xe0 [5, 6, 8, 12, 13, 14, 25] [] (by kernel_rfl) ?_
      refine AWP.cond (b := cE c != 0) (by kernel_rfl) (fun hq8 => ?_) (fun hq8 => ?_)
      · simp only [bne_iff_ne] at hq8
        refine AWP.exit ?_
        refine AWP.region tcok hmix [(0, ⟨some (i64 (i + 1)), none⟩)] (os := [i64 (IntKind.wrap IntKind.i64 (i + 1)) = i64 (i + 1)]) (sf := St.mk [(5, tp (i64 (↑k : Int))), (6, tp (B8 m)), (8, tp (B8 c)), (12, tp (V.vs (LL ls) n)), (13, tp (i64 (↑n : Int))), (14, tp (i64 (i + 1))), (25, tp (vb (cE c != 0))), (36, tp (i64 (i + 1)))] []) (by kernel_rfl) ⟨(wr_i64 (by omega) (by omega)), trivial⟩ ?_
        refine ⟨St.mk [(5, tp (i64 (↑k : Int))), (6, tp (B8 m)), (12, tp (V.vs (LL ls) n)), (13, tp (i64 (↑n : Int))), (14, tp (i64 (i + 1)))] [], by kernel_rfl, ?_⟩
        first | (exact ⟨(n - (i + 1)).toNat, (by omega), Or.inr ⟨i + 1, k, m, rfl, (by rw [hv', hv]; simp only [vnx]; rw [if_neg (by assumption)]), (by omega), (by omega), (by omega), (by omega)⟩⟩) | (exact ⟨(n - (i + 1)).toNat, (by omega), Or.inr ⟨i + 1, k + 1, c, rfl, (by rw [hv', hv]; simp only [vnx]; rw [if_pos (by assumption), if_pos (Or.inr (hq8.resolve_left (by omega)))]), (by omega), (by omega), (by omega), (by omega)⟩⟩) | (exact ⟨(n - (i + 1)).toNat, (by omega), Or.inr ⟨i + 1, k + 1, m, rfl, (by rw [hv', hv]; simp only [vnx]; rw [if_pos (by assumption), if_neg (by simp_all; omega)]), (by omega), (by omega), (by omega), (by omega)⟩⟩)
      simp only [bne_eq_false_iff_eq] at hq8
      refine AWP.skip ?_
      refine xe1 (os := [i64 (IntKind.wrap IntKind.i64 ((↑k : Int) + 1)) = i64 ((↑k : Int) + 1)]) [(1, ⟨some (i64 ((↑k : Int) + 1)), none⟩)] [5, 6, 8, 12, 13, 14] [] (by kernel_rfl) ⟨(wr_i64 (by omega) (by omega)), trivial⟩ ?_
      refine xe1 (os := [((↑k : Int) + (1 : Int) == (1 : Int)) = false → Con Try.prog (41 : Nat) [] [B8 c, B8 m] [] (vb (newer c m)) ∧ True]) [(5, ⟨none, some ⟨vb (newer c m), [], []⟩⟩)] [5, 6, 8, 12, 13, 14, 34] [] (by kernel_rfl) ⟨(by intro hc0; first | (cases hc0; done) | (try simp only [Bool.or_false, Bool.false_or, Bool.true_and, Bool.and_true, decide_eq_true_eq, decide_eq_false_iff_not, Bool.and_eq_true, Bool.or_eq_true, Bool.or_eq_false_iff, Bool.not_eq_true', Bool.and_eq_false_iff, beq_iff_eq, bne_iff_ne, bne_eq_false_iff_eq, beq_eq_false_iff_ne, Bool.not_eq_false'] at hc0; exact ⟨(con_newer (c) (List.length c) (m) (List.length m) (by omega) (by omega) (by assumption) (by assumption) (by assumption) (by assumption)), trivial⟩)), trivial⟩ ?_
      refine AWP.cond (b := (↑k : Int) + 1 == 1 || newer c m) (by kernel_rfl) (fun hq9 => ?_) (fun hq9 => ?_)
      · simp only [Bool.or_eq_true, beq_iff_eq] at hq9
        refine AWP.region tcok hmix [] (os := []) (sf := St.mk [(5, tp (i64 ((↑k : Int) + 1))), (6, tp (B8 c)), (8, tp (B8 c)), (12, tp (V.vs (LL ls) n)), (13, tp (i64 (↑n : Int))), (14, tp (i64 i)), (34, tp (vb ((↑k : Int) + 1 == 1 || newer c m))), (35, tp (B8 c))] []) (by kernel_rfl) trivial ?_
        refine AWP.keep' [5, 6, 12, 13, 14] [] (sf := St.mk [(5, tp (i64 ((↑k : Int) + 1))), (6, tp (B8 c)), (12, tp (V.vs (LL ls) n)), (13, tp (i64 (↑n : Int))), (14, tp (i64 i))] []) (by kernel_rfl) ?_
        refine AWP.region tcok hmix [(0, ⟨some (i64 (i + 1)), none⟩)] (os := [i64 (IntKind.wrap IntKind.i64 (i + 1)) = i64 (i + 1)]) (sf := St.mk [(5, tp (i64 ((↑k : Int) + 1))), (6, tp (B8 c)), (12, tp (V.vs (LL ls) n)), (13, tp (i64 (↑n : Int))), (14, tp (i64 (i + 1))), (36, tp (i64 (i + 1)))] []) (by kernel_rfl) ⟨(wr_i64 (by omega) (by omega)), trivial⟩ ?_
        refine ⟨St.mk [(5, tp (i64 ((↑k : Int) + 1))), (6, tp (B8 c)), (12, tp (V.vs (LL ls) n)), (13, tp (i64 (↑n : Int))), (14, tp (i64 (i + 1)))] [], by kernel_rfl, ?_⟩
        first | (exact ⟨(n - (i + 1)).toNat, (by omega), Or.inr ⟨i + 1, k, m, rfl, (by rw [hv', hv]; simp only [vnx]; rw [if_neg (by assumption)]), (by omega), (by omega), (by omega), (by omega)⟩⟩) | (exact ⟨(n - (i + 1)).toNat, (by omega), Or.inr ⟨i + 1, k + 1, c, rfl, (by rw [hv', hv]; simp only [vnx]; rw [if_pos (by assumption), if_pos (Or.inr (hq9.resolve_left (by omega)))]), (by omega), (by omega), (by omega), (by omega)⟩⟩) | (exact ⟨(n - (i + 1)).toNat, (by omega), Or.inr ⟨i + 1, k + 1, m, rfl, (by rw [hv', hv]; simp only [vnx]; rw [if_pos (by assumption), if_neg (by simp_all; omega)]), (by omega), (by omega), (by omega), (by omega)⟩⟩)
      simp only [Bool.or_eq_false_iff, beq_eq_false_iff_ne] at hq9
      refine AWP.skip ?_
      refine AWP.region tcok hmix [(0, ⟨some (i64 (i + 1)), none⟩)] (os := [i64 (IntKind.wrap IntKind.i64 (i + 1)) = i64 (i + 1)]) (sf := St.mk [(5, tp (i64 ((↑k : Int) + 1))), (6, tp (B8 m)), (8, tp (B8 c)), (12, tp (V.vs (LL ls) n)), (13, tp (i64 (↑n : Int))), (14, tp (i64 (i + 1))), (34, tp (vb ((↑k : Int) + 1 == 1 || newer c m))), (36, tp (i64 (i + 1)))] []) (by kernel_rfl) ⟨(wr_i64 (by omega) (by omega)), trivial⟩ ?_
      refine ⟨St.mk [(5, tp (i64 ((↑k : Int) + 1))), (6, tp (B8 m)), (12, tp (V.vs (LL ls) n)), (13, tp (i64 (↑n : Int))), (14, tp (i64 (i + 1)))] [], by kernel_rfl, ?_⟩
      first | (exact ⟨(n - (i + 1)).toNat, (by omega), Or.inr ⟨i + 1, k, m, rfl, (by rw [hv', hv]; simp only [vnx]; rw [if_neg (by assumption)]), (by omega), (by omega), (by omega), (by omega)⟩⟩) | (exact ⟨(n - (i + 1)).toNat, (by omega), Or.inr ⟨i + 1, k + 1, c, rfl, (by rw [hv', hv]; simp only [vnx]; rw [if_pos (by assumption), if_pos (Or.inr (hq9.resolve_left (by omega)))]), (by omega), (by omega), (by omega), (by omega)⟩⟩) | (exact ⟨(n - (i + 1)).toNat, (by omega), Or.inr ⟨i + 1, k + 1, m, rfl, (by rw [hv', hv]; simp only [vnx]; rw [if_pos (by assumption), if_neg (by simp_all; omega)]), (by omega), (by omega), (by omega), (by omega)⟩⟩)
    simp only [decide_eq_false_iff_not] at hq7
    (exfalso; omega)
theorem con_vote_y (ls : List (List Int)) (n : Nat) (hn : ls.length = n) (hl : ∀ l ∈ ls, BL l ∧ l.length ≤ 1000000) (hlen : n ≤ 1000000) (hk2 : 2 ≤ (vst ls).1) : Con Try.prog 37 [] [.vs (LL ls) n] [(1090005, ⟨u8s (cPo (vst ls).2), true, 0, some (5, 1)⟩)] (.tup [u32 (cNo (vst ls).2), .sl 1090005 0 (cPo (vst ls).2).length, i64 0]) := by
  refine Con.of (C := ⟨Try.prog, tc, Try.f37.ntmps⟩) [1090005] tcok Try.func37 rfl rfl (by kernel_rfl) (by kernel_rfl) ?_
  refine xe0 [0, 2, 3, 4] [3] (by kernel_rfl) ?_
  refine xe0 [0, 2, 3, 4, 5] [3] (by kernel_rfl) ?_
  refine xe0 [0, 2, 3, 4, 5, 6] [3, 6] (by kernel_rfl) ?_
  refine AWP.seq ?_
  refine xe0 [2, 3, 4, 5, 6, 12, 13, 14] [3, 6] (by kernel_rfl) ?_
  refine AWP.block ?_
  refine AWP.loopI [5, 6, 12, 13, 14] [6] (fun N s' => (∃ (i : Int), s' = St.mk [(5, T.plain (i64 0)), (6, T.plain (V.sl 6 0 0)), (12, T.plain (V.vs (LL ls) n)), (13, T.plain (i64 (n : Int))), (14, T.plain (i64 i))] [(6, Blk.mk [] true 0 (some (5, 1)))] ∧ (vst (ls.take i.toNat)).1 = 0 ∧ 0 ≤ i ∧ i ≤ n ∧ (N : Int) = n - i) ∨ (∃ (i : Int) (k : Nat) (m : List Int), s' = St.mk [(5, T.plain (i64 (k : Int))), (6, T.plain (V.vs (u8s m) m.length)), (12, T.plain (V.vs (LL ls) n)), (13, T.plain (i64 (n : Int))), (14, T.plain (i64 i))] [] ∧ vst (ls.take i.toNat) = (k, m) ∧ 1 ≤ k ∧ 0 ≤ i ∧ i ≤ n ∧ (N : Int) = n - i)) n (s0 := St.mk [(5, T.plain (i64 0)), (6, T.plain (V.sl 6 0 0)), (12, T.plain (V.vs (LL ls) n)), (13, T.plain (i64 (n : Int))), (14, T.plain (i64 0))] [(6, Blk.mk [] true 0 (some (5, 1)))]) (by kernel_rfl) ?_ ?_
  · exact .inl ⟨0, rfl, rfl, by omega, by omega, by omega⟩
  rintro N s' (⟨i, rfl, hv, hi, hi2, hN⟩ | ⟨i, k, m, rfl, hv, hk, hi, hi2, hN⟩)
  · by_cases hin : i < n
    case neg =>
      rw [List.take_of_length_le (by omega)] at hv
      refine xe0 [5, 6, 12, 13, 14, 15] [6] (by kernel_rfl) ?_
      refine AWP.seq ?_
      refine AWP.cond (b := decide (i < (↑n : Int))) (by kernel_rfl) (fun hq10 => ?_) (fun hq10 => ?_)
      · simp only [decide_eq_true_eq] at hq10
        (exfalso; omega)
      simp only [decide_eq_false_iff_not] at hq10
      (exfalso; omega)
    have kx := LL_at ls i.toNat
    have hcm : ls.getD i.toNat [] ∈ ls := by
      rw [List.getD_eq_getElem?_getD, List.getElem?_eq_getElem (by omega)]
      exact List.getElem_mem _
    have hv' := vst_take (ls := ls) (i := i.toNat) (by omega)
    rw [show i.toNat + 1 = (i + 1).toNat by omega] at hv'
    generalize ls.getD i.toNat [] = c at kx hcm hv'
    have hcb := (hl c hcm).1
    have hcl := (hl c hcm).2
    refine xe0 [5, 6, 12, 13, 14, 15] [6] (by kernel_rfl) ?_
    refine AWP.seq ?_
    refine AWP.cond (b := decide (i < (↑n : Int))) (by kernel_rfl) (fun hq11 => ?_) (fun hq11 => ?_)
    · simp only [decide_eq_true_eq] at hq11
      refine AWP.skip ?_
      refine AWP.seq ?_
      refine AWP.block ?_
      refine xe1 (os := [(0 : Int) ≤ i ∧ i < (↑n : Int), V.vp (List.drop (Int.toNat i * 1) (LL ls)) = V.vp (B8 c :: List.drop (Int.toNat i + 1) (LL ls))]) [(0, ⟨some (V.vp (B8 c :: List.drop (Int.toNat i + 1) (LL ls))), none⟩)] [5, 6, 8, 12, 13, 14] [6] (by kernel_rfl) ⟨(by omega), (congrArg V.vp (kx (by omega))), trivial⟩ ?_
      refine AWP.seq ?_
      refine xe1 [(1, ⟨none, some ⟨V.tup [u32 (cNo c), V.sl 680005 0 (List.length (cPo c)), i64 (cE c)], [(680005, Blk.mk (u8s (cPo c)) true 0 (some (5, 1)))], []⟩⟩)] [5, 6, 8, 11, 12, 13, 14] [6] (by kernel_rfl) (AllP.c (con_cparse (c) (List.length c) (by omega) (by assumption) (by omega)) AllP.n) ?_
      refine xe0 [5, 6, 8, 12, 13, 14, 25] [6] (by kernel_rfl) ?_
      refine AWP.cond (b := cE c != 0) (by kernel_rfl) (fun hq12 => ?_) (fun hq12 => ?_)
      · simp only [bne_iff_ne] at hq12
        refine AWP.exit ?_
        refine AWP.region tcok hmix [(0, ⟨some (i64 (i + 1)), none⟩)] (os := [i64 (IntKind.wrap IntKind.i64 (i + 1)) = i64 (i + 1)]) (sf := St.mk [(5, tp (i64 0)), (6, tp (V.sl 6 0 0)), (8, tp (B8 c)), (12, tp (V.vs (LL ls) n)), (13, tp (i64 (↑n : Int))), (14, tp (i64 (i + 1))), (25, tp (vb (cE c != 0))), (36, tp (i64 (i + 1)))] [(6, Blk.mk [] true 0 (some (5, 1)))]) (by kernel_rfl) ⟨(wr_i64 (by omega) (by omega)), trivial⟩ ?_
        refine ⟨St.mk [(5, tp (i64 0)), (6, tp (V.sl 6 0 0)), (12, tp (V.vs (LL ls) n)), (13, tp (i64 (↑n : Int))), (14, tp (i64 (i + 1)))] [(6, Blk.mk [] true 0 (some (5, 1)))], by kernel_rfl, ?_⟩
        first | (exact ⟨(n - (i + 1)).toNat, (by omega), Or.inl ⟨i + 1, rfl, (by rw [hv']; simp only [vnx]; rw [if_neg (by assumption)]; exact hv), (by omega), (by omega), (by omega)⟩⟩) | (exact ⟨(n - (i + 1)).toNat, (by omega), Or.inr ⟨i + 1, 1, c, rfl, (by rw [hv']; simp only [vnx]; rw [if_pos (by assumption), hv, if_pos (Or.inl rfl)]), (by omega), (by omega), (by omega), (by omega)⟩⟩)
      simp only [bne_eq_false_iff_eq] at hq12
      refine AWP.skip ?_
      refine xe0 [5, 6, 8, 12, 13, 14] [6] (by kernel_rfl) ?_
      refine xe1 (os := [true = false → VO (vb (newer c [])) ∧ VOH [] ∧ Con Try.prog (41 : Nat) [] [B8 c, V.vs [] (0 : Nat)] [] (vb (newer c [])) ∧ (0 : Nat) = (0 : Nat) ∧ (0 : Nat) = (0 : Nat) ∧ True]) [(5, ⟨none, some ⟨vb (newer c []), [], [(6, true)]⟩⟩)] [5, 6, 8, 12, 13, 14, 34] [6] (by kernel_rfl) ⟨(by intro hc0; first | (cases hc0; done) | (try simp only [Bool.or_false, Bool.false_or, Bool.true_and, Bool.and_true, decide_eq_true_eq, decide_eq_false_iff_not, Bool.and_eq_true, Bool.or_eq_true, Bool.or_eq_false_iff, Bool.not_eq_true', Bool.and_eq_false_iff, beq_iff_eq, bne_iff_ne, bne_eq_false_iff_eq, beq_eq_false_iff_ne, Bool.not_eq_false'] at hc0; exact ⟨(VO.val _), trivial, (con_newer (c) (List.length c) ([]) (0) (by omega) (by (simp [len_u8s]; done)) (by assumption) (by exact BL.nil) (by assumption) (by omega)), (by omega), (by omega), trivial⟩)), trivial⟩ ?_
      refine AWP.condT (by kernel_rfl) ?_
      refine AWP.keep' [5, 8, 12, 13, 14] [] (sf := St.mk [(5, tp (i64 1)), (8, tp (B8 c)), (12, tp (V.vs (LL ls) n)), (13, tp (i64 (↑n : Int))), (14, tp (i64 i))] []) (by kernel_rfl) ?_
      refine AWP.region tcok hmix [] (os := []) (sf := St.mk [(5, tp (i64 1)), (6, tp (B8 c)), (8, tp (B8 c)), (12, tp (V.vs (LL ls) n)), (13, tp (i64 (↑n : Int))), (14, tp (i64 i)), (35, tp (B8 c))] []) (by kernel_rfl) trivial ?_
      refine AWP.keep' [5, 6, 12, 13, 14] [] (sf := St.mk [(5, tp (i64 1)), (6, tp (B8 c)), (12, tp (V.vs (LL ls) n)), (13, tp (i64 (↑n : Int))), (14, tp (i64 i))] []) (by kernel_rfl) ?_
      refine AWP.region tcok hmix [(0, ⟨some (i64 (i + 1)), none⟩)] (os := [i64 (IntKind.wrap IntKind.i64 (i + 1)) = i64 (i + 1)]) (sf := St.mk [(5, tp (i64 1)), (6, tp (B8 c)), (12, tp (V.vs (LL ls) n)), (13, tp (i64 (↑n : Int))), (14, tp (i64 (i + 1))), (36, tp (i64 (i + 1)))] []) (by kernel_rfl) ⟨(wr_i64 (by omega) (by omega)), trivial⟩ ?_
      refine ⟨St.mk [(5, tp (i64 1)), (6, tp (B8 c)), (12, tp (V.vs (LL ls) n)), (13, tp (i64 (↑n : Int))), (14, tp (i64 (i + 1)))] [], by kernel_rfl, ?_⟩
      first | (exact ⟨(n - (i + 1)).toNat, (by omega), Or.inl ⟨i + 1, rfl, (by rw [hv']; simp only [vnx]; rw [if_neg (by assumption)]; exact hv), (by omega), (by omega), (by omega)⟩⟩) | (exact ⟨(n - (i + 1)).toNat, (by omega), Or.inr ⟨i + 1, 1, c, rfl, (by rw [hv']; simp only [vnx]; rw [if_pos (by assumption), hv, if_pos (Or.inl rfl)]), (by omega), (by omega), (by omega), (by omega)⟩⟩)
    simp only [decide_eq_false_iff_not] at hq11
    (exfalso; omega)
  · have hok := vst_ok (ls.take i.toNat) (fun l h => hl l (List.mem_of_mem_take h))
    rw [hv] at hok
    obtain ⟨ok1, ok2, ok3⟩ := hok
    rw [List.length_take] at ok1
    have ok1 : k ≤ n := by omega
    have ok2 : BL m := ok2
    have ok3 : m.length ≤ 1000000 := ok3
    have hm0 : cE m = 0 := by
      have := vst_some (ls := ls.take i.toNat)
      rw [hv] at this
      exact this (by simp; omega)
    by_cases hin : i < n
    case neg =>
      rw [List.take_of_length_le (by omega)] at hv
      refine xe0 [5, 6, 12, 13, 14, 15] [] (by kernel_rfl) ?_
      refine AWP.seq ?_
      refine AWP.cond (b := decide (i < (↑n : Int))) (by kernel_rfl) (fun hq14 => ?_) (fun hq14 => ?_)
      · simp only [decide_eq_true_eq] at hq14
        (exfalso; omega)
      simp only [decide_eq_false_iff_not] at hq14
      refine AWP.exit ?_
      refine AWP.seq ?_
      refine xe0 [6, 38] [] (by kernel_rfl) ?_
      refine AWP.cond (b := decide ((↑k : Int) < 2)) (by kernel_rfl) (fun hq15 => ?_) (fun hq15 => ?_)
      · simp only [decide_eq_true_eq] at hq15
        refine xe0 [2, 3, 4, 6] [3] (by kernel_rfl) ?_
        refine AWP.ret ?_
        refine ⟨Or.inr rfl, Eq.trans (b := none) (by kernel_rfl) ?_⟩
        first | rfl | (rw [hv]; done) | (rw [hv]; rfl) | (exfalso; rw [hv] at hk2; simp at hk2; omega)
      simp only [decide_eq_false_iff_not] at hq15
      refine AWP.skip ?_
      refine xe1 (os := [Con Try.prog 33 [] [B8 m] [(680005, Blk.mk (u8s (cPo m)) true 0 (some (5, 1)))] (V.tup [u32 (cNo m), V.sl 680005 0 (List.length (cPo m)), i64 (cE m)]), i64 (cE m) = i64 0]) [(1, ⟨none, some ⟨V.tup [u32 (cNo m), V.sl 680005 0 (List.length (cPo m)), i64 (cE m)], [(680005, Blk.mk (u8s (cPo m)) true 0 (some (5, 1)))], []⟩⟩), (4, ⟨some (i64 0), none⟩)] [2, 3, 4] [1090005] (by kernel_rfl) ⟨(con_cparse (m) (List.length m) (by omega) (by assumption) (by omega)), (in_eq hm0), trivial⟩ ?_
      refine AWP.ret ?_
      refine ⟨Or.inr rfl, Eq.trans (b := some ([(1090005, Blk.mk (u8s (cPo m)) true 0 (some (5, 1)))], V.tup [u32 (cNo m), V.sl 1090005 0 (List.length (cPo m)), i64 0])) (by kernel_rfl) ?_⟩
      first | rfl | (rw [hv]; done) | (rw [hv]; rfl) | (exfalso; rw [hv] at hk2; simp at hk2; omega)
    have kx := LL_at ls i.toNat
    have hcm : ls.getD i.toNat [] ∈ ls := by
      rw [List.getD_eq_getElem?_getD, List.getElem?_eq_getElem (by omega)]
      exact List.getElem_mem _
    have hv' := vst_take (ls := ls) (i := i.toNat) (by omega)
    rw [show i.toNat + 1 = (i + 1).toNat by omega] at hv'
    generalize ls.getD i.toNat [] = c at kx hcm hv'
    have hcb := (hl c hcm).1
    have hcl := (hl c hcm).2
    refine xe0 [5, 6, 12, 13, 14, 15] [] (by kernel_rfl) ?_
    refine AWP.seq ?_
    refine AWP.cond (b := decide (i < (↑n : Int))) (by kernel_rfl) (fun hq16 => ?_) (fun hq16 => ?_)
    · simp only [decide_eq_true_eq] at hq16
      refine AWP.skip ?_
      refine AWP.seq ?_
      refine AWP.block ?_
      refine xe1 (os := [(0 : Int) ≤ i ∧ i < (↑n : Int), V.vp (List.drop (Int.toNat i * 1) (LL ls)) = V.vp (B8 c :: List.drop (Int.toNat i + 1) (LL ls))]) [(0, ⟨some (V.vp (B8 c :: List.drop (Int.toNat i + 1) (LL ls))), none⟩)] [5, 6, 8, 12, 13, 14] [] (by kernel_rfl) ⟨(by omega), (congrArg V.vp (kx (by omega))), trivial⟩ ?_
      refine AWP.seq ?_
      refine xe1 [(1, ⟨none, some ⟨V.tup [u32 (cNo c), V.sl 680005 0 (List.length (cPo c)), i64 (cE c)], [(680005, Blk.mk (u8s (cPo c)) true 0 (some (5, 1)))], []⟩⟩)] [5, 6, 8, 11, 12, 13, 14] [] (by kernel_rfl) (AllP.c (con_cparse (c) (List.length c) (by omega) (by assumption) (by omega)) AllP.n) ?_
      refine xe0 [5, 6, 8, 12, 13, 14, 25] [] (by kernel_rfl) ?_
      refine AWP.cond (b := cE c != 0) (by kernel_rfl) (fun hq17 => ?_) (fun hq17 => ?_)
      · simp only [bne_iff_ne] at hq17
        refine AWP.exit ?_
        refine AWP.region tcok hmix [(0, ⟨some (i64 (i + 1)), none⟩)] (os := [i64 (IntKind.wrap IntKind.i64 (i + 1)) = i64 (i + 1)]) (sf := St.mk [(5, tp (i64 (↑k : Int))), (6, tp (B8 m)), (8, tp (B8 c)), (12, tp (V.vs (LL ls) n)), (13, tp (i64 (↑n : Int))), (14, tp (i64 (i + 1))), (25, tp (vb (cE c != 0))), (36, tp (i64 (i + 1)))] []) (by kernel_rfl) ⟨(wr_i64 (by omega) (by omega)), trivial⟩ ?_
        refine ⟨St.mk [(5, tp (i64 (↑k : Int))), (6, tp (B8 m)), (12, tp (V.vs (LL ls) n)), (13, tp (i64 (↑n : Int))), (14, tp (i64 (i + 1)))] [], by kernel_rfl, ?_⟩
        first | (exact ⟨(n - (i + 1)).toNat, (by omega), Or.inr ⟨i + 1, k, m, rfl, (by rw [hv', hv]; simp only [vnx]; rw [if_neg (by assumption)]), (by omega), (by omega), (by omega), (by omega)⟩⟩) | (exact ⟨(n - (i + 1)).toNat, (by omega), Or.inr ⟨i + 1, k + 1, c, rfl, (by rw [hv', hv]; simp only [vnx]; rw [if_pos (by assumption), if_pos (Or.inr (hq17.resolve_left (by omega)))]), (by omega), (by omega), (by omega), (by omega)⟩⟩) | (exact ⟨(n - (i + 1)).toNat, (by omega), Or.inr ⟨i + 1, k + 1, m, rfl, (by rw [hv', hv]; simp only [vnx]; rw [if_pos (by assumption), if_neg (by simp_all; omega)]), (by omega), (by omega), (by omega), (by omega)⟩⟩)
      simp only [bne_eq_false_iff_eq] at hq17
      refine AWP.skip ?_
      refine xe1 (os := [i64 (IntKind.wrap IntKind.i64 ((↑k : Int) + 1)) = i64 ((↑k : Int) + 1)]) [(1, ⟨some (i64 ((↑k : Int) + 1)), none⟩)] [5, 6, 8, 12, 13, 14] [] (by kernel_rfl) ⟨(wr_i64 (by omega) (by omega)), trivial⟩ ?_
      refine xe1 (os := [((↑k : Int) + (1 : Int) == (1 : Int)) = false → Con Try.prog (41 : Nat) [] [B8 c, B8 m] [] (vb (newer c m)) ∧ True]) [(5, ⟨none, some ⟨vb (newer c m), [], []⟩⟩)] [5, 6, 8, 12, 13, 14, 34] [] (by kernel_rfl) ⟨(by intro hc0; first | (cases hc0; done) | (try simp only [Bool.or_false, Bool.false_or, Bool.true_and, Bool.and_true, decide_eq_true_eq, decide_eq_false_iff_not, Bool.and_eq_true, Bool.or_eq_true, Bool.or_eq_false_iff, Bool.not_eq_true', Bool.and_eq_false_iff, beq_iff_eq, bne_iff_ne, bne_eq_false_iff_eq, beq_eq_false_iff_ne, Bool.not_eq_false'] at hc0; exact ⟨(con_newer (c) (List.length c) (m) (List.length m) (by omega) (by omega) (by assumption) (by assumption) (by assumption) (by assumption)), trivial⟩)), trivial⟩ ?_
      refine AWP.cond (b := (↑k : Int) + 1 == 1 || newer c m) (by kernel_rfl) (fun hq18 => ?_) (fun hq18 => ?_)
      · simp only [Bool.or_eq_true, beq_iff_eq] at hq18
        refine AWP.region tcok hmix [] (os := []) (sf := St.mk [(5, tp (i64 ((↑k : Int) + 1))), (6, tp (B8 c)), (8, tp (B8 c)), (12, tp (V.vs (LL ls) n)), (13, tp (i64 (↑n : Int))), (14, tp (i64 i)), (34, tp (vb ((↑k : Int) + 1 == 1 || newer c m))), (35, tp (B8 c))] []) (by kernel_rfl) trivial ?_
        refine AWP.keep' [5, 6, 12, 13, 14] [] (sf := St.mk [(5, tp (i64 ((↑k : Int) + 1))), (6, tp (B8 c)), (12, tp (V.vs (LL ls) n)), (13, tp (i64 (↑n : Int))), (14, tp (i64 i))] []) (by kernel_rfl) ?_
        refine AWP.region tcok hmix [(0, ⟨some (i64 (i + 1)), none⟩)] (os := [i64 (IntKind.wrap IntKind.i64 (i + 1)) = i64 (i + 1)]) (sf := St.mk [(5, tp (i64 ((↑k : Int) + 1))), (6, tp (B8 c)), (12, tp (V.vs (LL ls) n)), (13, tp (i64 (↑n : Int))), (14, tp (i64 (i + 1))), (36, tp (i64 (i + 1)))] []) (by kernel_rfl) ⟨(wr_i64 (by omega) (by omega)), trivial⟩ ?_
        refine ⟨St.mk [(5, tp (i64 ((↑k : Int) + 1))), (6, tp (B8 c)), (12, tp (V.vs (LL ls) n)), (13, tp (i64 (↑n : Int))), (14, tp (i64 (i + 1)))] [], by kernel_rfl, ?_⟩
        first | (exact ⟨(n - (i + 1)).toNat, (by omega), Or.inr ⟨i + 1, k, m, rfl, (by rw [hv', hv]; simp only [vnx]; rw [if_neg (by assumption)]), (by omega), (by omega), (by omega), (by omega)⟩⟩) | (exact ⟨(n - (i + 1)).toNat, (by omega), Or.inr ⟨i + 1, k + 1, c, rfl, (by rw [hv', hv]; simp only [vnx]; rw [if_pos (by assumption), if_pos (Or.inr (hq18.resolve_left (by omega)))]), (by omega), (by omega), (by omega), (by omega)⟩⟩) | (exact ⟨(n - (i + 1)).toNat, (by omega), Or.inr ⟨i + 1, k + 1, m, rfl, (by rw [hv', hv]; simp only [vnx]; rw [if_pos (by assumption), if_neg (by simp_all; omega)]), (by omega), (by omega), (by omega), (by omega)⟩⟩)
      simp only [Bool.or_eq_false_iff, beq_eq_false_iff_ne] at hq18
      refine AWP.skip ?_
      refine AWP.region tcok hmix [(0, ⟨some (i64 (i + 1)), none⟩)] (os := [i64 (IntKind.wrap IntKind.i64 (i + 1)) = i64 (i + 1)]) (sf := St.mk [(5, tp (i64 ((↑k : Int) + 1))), (6, tp (B8 m)), (8, tp (B8 c)), (12, tp (V.vs (LL ls) n)), (13, tp (i64 (↑n : Int))), (14, tp (i64 (i + 1))), (34, tp (vb ((↑k : Int) + 1 == 1 || newer c m))), (36, tp (i64 (i + 1)))] []) (by kernel_rfl) ⟨(wr_i64 (by omega) (by omega)), trivial⟩ ?_
      refine ⟨St.mk [(5, tp (i64 ((↑k : Int) + 1))), (6, tp (B8 m)), (12, tp (V.vs (LL ls) n)), (13, tp (i64 (↑n : Int))), (14, tp (i64 (i + 1)))] [], by kernel_rfl, ?_⟩
      first | (exact ⟨(n - (i + 1)).toNat, (by omega), Or.inr ⟨i + 1, k, m, rfl, (by rw [hv', hv]; simp only [vnx]; rw [if_neg (by assumption)]), (by omega), (by omega), (by omega), (by omega)⟩⟩) | (exact ⟨(n - (i + 1)).toNat, (by omega), Or.inr ⟨i + 1, k + 1, c, rfl, (by rw [hv', hv]; simp only [vnx]; rw [if_pos (by assumption), if_pos (Or.inr (hq18.resolve_left (by omega)))]), (by omega), (by omega), (by omega), (by omega)⟩⟩) | (exact ⟨(n - (i + 1)).toNat, (by omega), Or.inr ⟨i + 1, k + 1, m, rfl, (by rw [hv', hv]; simp only [vnx]; rw [if_pos (by assumption), if_neg (by simp_all; omega)]), (by omega), (by omega), (by omega), (by omega)⟩⟩)
    simp only [decide_eq_false_iff_not] at hq16
    (exfalso; omega)
end Go.Proofs.Ytmeiemdnhjnpcaa
