/- Chapter 7: GuardFills. -/
import Derived.Test.YtmeiemdnhjnpcaaGrdF
namespace Go.Proofs.Ytmeiemdnhjnpcaa
open Go.Ab
set_option linter.unusedSimpArgs false
set_option linter.unusedVariables false
set_option maxHeartbeats 4000000
theorem fills7 (begun : Bool) (xs : List V) (n : Nat) (l : List Int) (hn : n ≤ 9223372036854775807) (hl : BL l) (hll : l.length ≤ 9223372036854775807) (kx : ∀ i : Nat, i < n → ∃ (l : List Int) (r : List V), xs.drop (i * 1) = .vs (u8s l) l.length :: r ∧ BL l ∧ l.length ≤ 9223372036854775807) : Con Try.prog 10 [] [.vs xs n, .vs (u8s l) l.length, vb begun] [] (vb true) := by
  have haw := con_awake7
  refine Con.of (C := ⟨Try.prog, tc, Try.f10.ntmps⟩) [] tcok Try.func10 rfl rfl (by kernel_rfl) (by kernel_rfl) ?_
  refine AWP.seq ?_
  refine AWP.regionT tcok hmix [] [0, 1, 2, 6] [] (os := []) (s' := St.mk [(0, tp (V.vs xs n)), (1, tp (B8 l)), (2, tp (vb begun)), (6, tp (vb false))] []) (by kernel_rfl) trivial ?_
  refine AWP.seq ?_
  refine AWP.seq ?_
  refine AWP.regionT tcok hmix [(0, ⟨none, some ⟨vb true, [], []⟩⟩)] [0, 1, 2, 6, 22] [] (os := [Con Try.prog 43 [] [] [] (vb true)]) (s' := St.mk [(0, tp (V.vs xs n)), (1, tp (B8 l)), (2, tp (vb begun)), (6, tp (vb false)), (22, tp (vb false))] []) (by kernel_rfl) ⟨(haw ), trivial⟩ ?_
  refine AWP.cond (b := false) (by kernel_rfl) (fun h => by cases h) (fun _ => ?_)
  refine AWP.skip ?_
  refine AWP.seq ?_
  refine AWP.regionT tcok hmix [] [0, 1, 2, 6, 7] [7] (os := []) (s' := St.mk [(0, tp (V.vs xs n)), (1, tp (B8 l)), (2, tp (vb begun)), (6, tp (vb false)), (7, tp (V.sl 7 0 0))] [(7, Blk.mk [] true 0 (some (29, 1)))]) (by kernel_rfl) trivial ?_
  refine AWP.seq ?_
  refine AWP.regionT tcok hmix [] [0, 1, 2, 6, 7, 8] [7] (os := []) (s' := St.mk [(0, tp (V.vs xs n)), (1, tp (B8 l)), (2, tp (vb begun)), (6, tp (vb false)), (7, tp (V.sl 7 0 0)), (8, tp (u32 0))] [(7, Blk.mk [] true 0 (some (29, 1)))]) (by kernel_rfl) trivial ?_
  refine AWP.seq ?_
  refine AWP.seq ?_
  refine AWP.regionT tcok hmix [] [1, 2, 6, 7, 8, 23, 24, 25] [7] (os := []) (s' := St.mk [(1, tp (B8 l)), (2, tp (vb begun)), (6, tp (vb false)), (7, tp (V.sl 7 0 0)), (8, tp (u32 0)), (23, tp (V.vs xs n)), (24, tp (i64 (↑n : Int))), (25, tp (i64 0))] [(7, Blk.mk [] true 0 (some (29, 1)))]) (by kernel_rfl) trivial ?_
  refine AWP.block ?_
  refine AWP.loopI [1, 2, 7, 8, 23, 24, 25] [7] (fun N s' => ∃ (ls : List (List Int)) (t i : Int), s' = St.mk [(1, tp (B8 l)), (2, tp (vb begun)), (7, tp (V.sl 7 0 ls.length)), (8, tp (u32 t)), (23, tp (V.vs xs n)), (24, tp (i64 (n : Int))), (25, tp (i64 i))] [(7, Blk.mk (LL ls) true 0 (some (29, 1)))]
      ∧ ls.length = min i.toNat 3 ∧ (∀ x ∈ ls, BL x ∧ x.length ≤ 60) ∧ tops ls = t ∧ (0 ≤ t ∧ t < 4294967296) ∧ 0 ≤ i ∧ i ≤ n ∧ (N : Int) = n - i) n (s0 := St.mk [(1, tp (B8 l)), (2, tp (vb begun)), (7, tp (V.sl 7 0 0)), (8, tp (u32 0)), (23, tp (V.vs xs n)), (24, tp (i64 (n : Int))), (25, tp (i64 0))] [(7, Blk.mk [] true 0 (some (29, 1)))]) (by kernel_rfl) ?_ ?_
  · exact ⟨[], 0, 0, rfl, rfl, fun x hx => by simp at hx, rfl, by omega, by omega, by omega, by omega⟩
  rintro N s' ⟨ls, t, i, rfl, hlen, hls, ht, htb, hi, hin, hN⟩
  by_cases hx1 : i < n
  case pos =>
    obtain ⟨c, r, kx1, hc, hcl⟩ := kx i.toNat (by omega)
    by_cases hx : i < 3
    case neg =>
      refine AWP.seq ?_
      refine AWP.regionT tcok hmix [] [1, 2, 7, 8, 23, 24, 25, 26] [7] (os := []) (s' := St.mk [(1, tp (B8 l)), (2, tp (vb begun)), (7, tp (V.sl 7 0 (List.length ls))), (8, tp (u32 t)), (23, tp (V.vs xs n)), (24, tp (i64 (↑n : Int))), (25, tp (i64 i)), (26, tp (vb (decide (i < (↑n : Int)))))] [(7, Blk.mk (LL ls) true 0 (some (29, 1)))]) (by kernel_rfl) trivial ?_
      refine AWP.seq ?_
      refine AWP.cond (b := decide (i < (↑n : Int))) (by kernel_rfl) (fun hq1 => ?_) (fun hq1 => ?_)
      · simp only [decide_eq_true_eq] at hq1
        refine AWP.skip ?_
        refine AWP.seq ?_
        refine AWP.block ?_
        refine AWP.seq ?_
        refine AWP.regionT tcok hmix [(1, ⟨some (V.vp (B8 c :: r)), none⟩)] [1, 2, 7, 8, 9, 10, 23, 24, 25] [7] (os := [(0 : Int) ≤ i ∧ i < (↑n : Int), V.vp (List.drop (Int.toNat i * 1) xs) = V.vp (B8 c :: r)]) (s' := St.mk [(1, tp (B8 l)), (2, tp (vb begun)), (7, tp (V.sl 7 0 (List.length ls))), (8, tp (u32 t)), (9, tp (i64 i)), (10, tp (B8 c)), (23, tp (V.vs xs n)), (24, tp (i64 (↑n : Int))), (25, tp (i64 i))] [(7, Blk.mk (LL ls) true 0 (some (29, 1)))]) (by kernel_rfl) ⟨(by omega), (congrArg V.vp kx1), trivial⟩ ?_
        refine AWP.seq ?_
        refine AWP.regionT tcok hmix [] [1, 2, 7, 8, 10, 23, 24, 25, 31] [7] (os := []) (s' := St.mk [(1, tp (B8 l)), (2, tp (vb begun)), (7, tp (V.sl 7 0 (List.length ls))), (8, tp (u32 t)), (10, tp (B8 c)), (23, tp (V.vs xs n)), (24, tp (i64 (↑n : Int))), (25, tp (i64 i)), (31, tp (vb (decide (i < 3))))] [(7, Blk.mk (LL ls) true 0 (some (29, 1)))]) (by kernel_rfl) trivial ?_
        refine AWP.cond (b := decide (i < 3)) (by kernel_rfl) (fun hq2 => ?_) (fun hq2 => ?_)
        · simp only [decide_eq_true_eq] at hq2
          (exfalso; omega)
        simp only [decide_eq_false_iff_not] at hq2
        refine AWP.skip ?_
        refine AWP.region tcok hmix [(0, ⟨some (i64 (i + 1)), none⟩)] (os := [i64 (IntKind.wrap IntKind.i64 (i + 1)) = i64 (i + 1)]) (sf := St.mk [(1, tp (B8 l)), (2, tp (vb begun)), (7, tp (V.sl 7 0 (List.length ls))), (8, tp (u32 t)), (10, tp (B8 c)), (23, tp (V.vs xs n)), (24, tp (i64 (↑n : Int))), (25, tp (i64 (i + 1))), (31, tp (vb (decide (i < 3)))), (47, tp (i64 (i + 1)))] [(7, Blk.mk (LL ls) true 0 (some (29, 1)))]) (by kernel_rfl) ⟨(wr_i64 (by omega) (by omega)), trivial⟩ ?_
        refine ⟨St.mk [(1, tp (B8 l)), (2, tp (vb begun)), (7, tp (V.sl 7 0 (List.length ls))), (8, tp (u32 t)), (23, tp (V.vs xs n)), (24, tp (i64 (↑n : Int))), (25, tp (i64 (i + 1)))] [(7, Blk.mk (LL ls) true 0 (some (29, 1)))], by kernel_rfl, ?_⟩
        (exact ⟨(n - (i + 1)).toNat, (by omega), ls, t, i + 1, rfl, (by omega), hls, ht, htb, (by omega), (by omega), (by omega)⟩)
      simp only [decide_eq_false_iff_not] at hq1
      (exfalso; omega)
    obtain ⟨X, hX⟩ : ∃ X, c.take 60 = X := ⟨_, rfl⟩
    have hXb : BL X := by rw [← hX]; exact BL.take hc _
    have hXl : X.length ≤ 60 := by rw [← hX, List.length_take]; omega
    have hcut : Con Try.prog 18 [] [.vs (u8s c) c.length, i64 60] [(5, ⟨u8s X, true, 0, some (5, 1)⟩)] (.sl 5 0 X.length) := by
      rw [← hX]
      exact con_cut c 60 (by omega) (by omega) hcl
    have hnb := cNo_bd hXb
    have hLL : (LL ls).length = ls.length := by simp [LL]
    refine AWP.seq ?_
    refine AWP.regionT tcok hmix [] [1, 2, 7, 8, 23, 24, 25, 26] [7] (os := []) (s' := St.mk [(1, tp (B8 l)), (2, tp (vb begun)), (7, tp (V.sl 7 0 (List.length ls))), (8, tp (u32 t)), (23, tp (V.vs xs n)), (24, tp (i64 (↑n : Int))), (25, tp (i64 i)), (26, tp (vb (decide (i < (↑n : Int)))))] [(7, Blk.mk (LL ls) true 0 (some (29, 1)))]) (by kernel_rfl) trivial ?_
    refine AWP.seq ?_
    refine AWP.cond (b := decide (i < (↑n : Int))) (by kernel_rfl) (fun hq3 => ?_) (fun hq3 => ?_)
    · simp only [decide_eq_true_eq] at hq3
      refine AWP.skip ?_
      refine AWP.seq ?_
      refine AWP.block ?_
      refine AWP.seq ?_
      refine AWP.regionT tcok hmix [(1, ⟨some (V.vp (B8 c :: r)), none⟩)] [1, 2, 7, 8, 9, 10, 23, 24, 25] [7] (os := [(0 : Int) ≤ i ∧ i < (↑n : Int), V.vp (List.drop (Int.toNat i * 1) xs) = V.vp (B8 c :: r)]) (s' := St.mk [(1, tp (B8 l)), (2, tp (vb begun)), (7, tp (V.sl 7 0 (List.length ls))), (8, tp (u32 t)), (9, tp (i64 i)), (10, tp (B8 c)), (23, tp (V.vs xs n)), (24, tp (i64 (↑n : Int))), (25, tp (i64 i))] [(7, Blk.mk (LL ls) true 0 (some (29, 1)))]) (by kernel_rfl) ⟨(by omega), (congrArg V.vp kx1), trivial⟩ ?_
      refine AWP.seq ?_
      refine AWP.regionT tcok hmix [] [1, 2, 7, 8, 10, 23, 24, 25, 31] [7] (os := []) (s' := St.mk [(1, tp (B8 l)), (2, tp (vb begun)), (7, tp (V.sl 7 0 (List.length ls))), (8, tp (u32 t)), (10, tp (B8 c)), (23, tp (V.vs xs n)), (24, tp (i64 (↑n : Int))), (25, tp (i64 i)), (31, tp (vb (decide (i < 3))))] [(7, Blk.mk (LL ls) true 0 (some (29, 1)))]) (by kernel_rfl) trivial ?_
      refine AWP.cond (b := decide (i < 3)) (by kernel_rfl) (fun hq4 => ?_) (fun hq4 => ?_)
      · simp only [decide_eq_true_eq] at hq4
        refine AWP.seq ?_
        refine AWP.regionT tcok hmix [(1, ⟨none, some ⟨V.sl 5 0 (List.length X), [(5, Blk.mk (u8s X) true 0 (some (5, 1)))], []⟩⟩)] [1, 2, 7, 8, 10, 23, 24, 25] [7, 340005] (os := [Con Try.prog 18 [] [B8 c, i64 60] [(5, Blk.mk (u8s X) true 0 (some (5, 1)))] (V.sl 5 0 (List.length X))]) (s' := St.mk [(1, tp (B8 l)), (2, tp (vb begun)), (7, tp (V.sl 7 0 (List.length ls))), (8, tp (u32 t)), (10, tp (V.sl 340005 0 (List.length X))), (23, tp (V.vs xs n)), (24, tp (i64 (↑n : Int))), (25, tp (i64 i))] [(7, Blk.mk (LL ls) true 0 (some (29, 1))), (340005, Blk.mk (u8s X) true 0 (some (5, 1)))]) (by kernel_rfl) ⟨(hcut ), trivial⟩ ?_
        refine AWP.seq ?_
        refine AWP.regionT tcok hmix [(1, ⟨none, some ⟨V.tup [u32 (cNo X), V.sl 340005 0 (List.length (cPo X)), i64 (cE X)], [(340005, Blk.mk (u8s (cPo X)) true 0 (some (5, 1)))], [(340005, true)]⟩⟩)] [1, 2, 7, 8, 10, 11, 23, 24, 25] [7, 340005] (os := [VO (V.tup [u32 (cNo X), V.sl (340005 : Nat) (0 : Nat) (List.length (cPo X)), i64 (cE X)]), VOH [((340005 : Nat), Blk.mk (u8s (cPo X)) true (0 : Nat) (some ((5 : Nat), (1 : Nat))))], Con Try.prog 34 [] [B8 X] [(340005, Blk.mk (u8s (cPo X)) true 0 (some (5, 1)))] (V.tup [u32 (cNo X), V.sl 340005 0 (List.length (cPo X)), i64 (cE X)]), (0 : Nat) = (0 : Nat), List.length X * (1 : Nat) = List.length (u8s X)]) (s' := St.mk [(1, tp (B8 l)), (2, tp (vb begun)), (7, tp (V.sl 7 0 (List.length ls))), (8, tp (u32 t)), (10, tp (V.sl 340005 0 (List.length X))), (11, tp (u32 (cNo X))), (23, tp (V.vs xs n)), (24, tp (i64 (↑n : Int))), (25, tp (i64 i))] [(7, Blk.mk (LL ls) true 0 (some (29, 1))), (340005, Blk.mk (u8s X) true 0 (some (5, 1)))]) (by kernel_rfl) ⟨(VO.tup (VOL.cons (VO.val _) (VOL.cons (VO.sl _ _ _) (VOL.cons (VO.val _) VOL.nil)))), ⟨(VOL.u8s _), trivial⟩, (con_rparse (X) (List.length X) (by omega) (by assumption) (by omega)), (by omega), (by (simp [len_u8s]; done)), trivial⟩ ?_
        refine AWP.seq ?_
        refine AWP.regionT tcok hmix [] [1, 2, 7, 8, 10, 23, 24, 25] [7, 340005] (os := []) (s' := St.mk [(1, tp (B8 l)), (2, tp (vb begun)), (7, tp (V.sl 7 0 (List.length ls))), (8, tp (u32 (imax t (cNo X)))), (10, tp (V.sl 340005 0 (List.length X))), (23, tp (V.vs xs n)), (24, tp (i64 (↑n : Int))), (25, tp (i64 i))] [(7, Blk.mk (LL ls) true 0 (some (29, 1))), (340005, Blk.mk (u8s X) true 0 (some (5, 1)))]) (by kernel_rfl) trivial ?_
        refine AWP.frz 340005 (s' := St.mk [(1, tp (B8 l)), (2, tp (vb begun)), (7, tp (V.sl 7 0 (List.length ls))), (8, tp (u32 (imax t (cNo X)))), (10, tp (B8 X)), (23, tp (V.vs xs n)), (24, tp (i64 (↑n : Int))), (25, tp (i64 i))] [(7, Blk.mk (LL ls) true 0 (some (29, 1)))]) (by kernel_rfl) ?_
        refine AWP.region tcok hmix [(3, ⟨some (V.tup [V.agg true (LL ls ++ [B8 X]), V.sl 0 0 (List.length ls + 1)]), none⟩)] (os := [(1 : Nat) ≤ (1 : Nat), List.length ls * (1 : Nat) = List.length (LL ls), List.length ls + (1 : Nat) ≤ (9223372036854775807 : Nat), (List.length ls + (1 : Nat)) * (24 : Nat) ≤ (140737488355328 : Nat), LL ls ++ List.take ((1 : Nat) * (1 : Nat)) (List.drop (0 : Nat) [B8 X]) = LL ls ++ [B8 X], List.length ls + (1 : Nat) = List.length ls + (1 : Nat)]) (sf := St.mk [(1, tp (B8 l)), (2, tp (vb begun)), (7, tp (V.sl 7 0 (List.length ls + 1))), (8, tp (u32 (imax t (cNo X)))), (10, tp (B8 X)), (23, tp (V.vs xs n)), (24, tp (i64 (↑n : Int))), (25, tp (i64 i)), (43, tp V.top), (44, tp (B8 X)), (45, tp (V.sl 45 0 1)), (46, tp (V.sl 7 0 (List.length ls + 1)))] [(7, Blk.mk (LL ls ++ [B8 X]) true 0 (some (29, 1))), (45, Blk.mk [B8 X] true 0 (some (29, 1)))]) (by kernel_rfl) ⟨(by omega), (by first | omega | (simp [len_u8s]; done) | (simp [len_u8s]; omega)), (by omega), (by omega), (by first | rfl | (simp only [u8s_drop, u8s_take, List.drop_zero, Nat.mul_one, Nat.one_mul, u8s_app, List.take_length, List.nil_append, List.append_nil]; done) | (simp [u8s]; done) | (simp [u8s]; omega)), (by omega), trivial⟩ ?_
        refine AWP.keep' [1, 2, 7, 8, 23, 24, 25] [7] (sf := St.mk [(1, tp (B8 l)), (2, tp (vb begun)), (7, tp (V.sl 7 0 (List.length ls + 1))), (8, tp (u32 (imax t (cNo X)))), (23, tp (V.vs xs n)), (24, tp (i64 (↑n : Int))), (25, tp (i64 i))] [(7, Blk.mk (LL ls ++ [B8 X]) true 0 (some (29, 1)))]) (by kernel_rfl) ?_
        refine AWP.region tcok hmix [(0, ⟨some (i64 (i + 1)), none⟩)] (os := [i64 (IntKind.wrap IntKind.i64 (i + 1)) = i64 (i + 1)]) (sf := St.mk [(1, tp (B8 l)), (2, tp (vb begun)), (7, tp (V.sl 7 0 (List.length ls + 1))), (8, tp (u32 (imax t (cNo X)))), (23, tp (V.vs xs n)), (24, tp (i64 (↑n : Int))), (25, tp (i64 (i + 1))), (47, tp (i64 (i + 1)))] [(7, Blk.mk (LL ls ++ [B8 X]) true 0 (some (29, 1)))]) (by kernel_rfl) ⟨(wr_i64 (by omega) (by omega)), trivial⟩ ?_
        refine ⟨St.mk [(1, tp (B8 l)), (2, tp (vb begun)), (7, tp (V.sl 7 0 (List.length ls + 1))), (8, tp (u32 (imax t (cNo X)))), (23, tp (V.vs xs n)), (24, tp (i64 (↑n : Int))), (25, tp (i64 (i + 1)))] [(7, Blk.mk (LL ls ++ [B8 X]) true 0 (some (29, 1)))], by kernel_rfl, ?_⟩
        (exact ⟨(n - (i + 1)).toNat, (by omega), ls ++ [X], imax t (cNo X), i + 1, (by rw [LL_snoc, List.length_append]; rfl), (by rw [List.length_append]; simp; omega), (fun x hx => by rcases List.mem_append.1 hx with h | h; exact hls x h; rw [List.mem_singleton.1 h]; exact ⟨hXb, hXl⟩), (by rw [tops_snoc, ht]), (by unfold imax; split <;> omega), (by omega), (by omega), (by omega)⟩)
      simp only [decide_eq_false_iff_not] at hq4
      (exfalso; omega)
    simp only [decide_eq_false_iff_not] at hq3
    (exfalso; omega)
  obtain ⟨P, hP⟩ : ∃ P, l.take 100 = P := ⟨_, rfl⟩
  have hPb : BL P := by rw [← hP]; exact BL.take hl _
  have hPl : P.length ≤ 100 := by rw [← hP, List.length_take]; omega
  have hcut : Con Try.prog 18 [] [.vs (u8s l) l.length, i64 100] [(5, ⟨u8s P, true, 0, some (5, 1)⟩)] (.sl 5 0 P.length) := by
    rw [← hP]
    exact con_cut l 100 (by omega) (by omega) hll
  have go := con_gof ls ls.length rfl (by omega) hls
  have htop := tops3 ls (by omega) hls
  rw [ht] at htop
  have gd : ∀ k, BL (ls.getD k []) ∧ (ls.getD k []).length ≤ 60 := fun k => by
    rw [List.getD_eq_getElem?_getD]
    cases hk : ls[k]? with
    | none => exact ⟨BL.nil, Nat.zero_le _⟩
    | some x => exact hls x (List.mem_of_getElem? hk)
  obtain ⟨ha, hla⟩ := gd 0
  obtain ⟨hb, hlb⟩ := gd 1
  obtain ⟨hc, hlc⟩ := gd 2
  generalize ls.getD 0 [] = a at go htop ha hla
  generalize ls.getD 1 [] = b at go htop hb hlb
  generalize ls.getD 2 [] = c at go htop hc hlc
  have hLL : (LL ls).length = ls.length := by simp [LL]
  refine AWP.frz 7 (s' := St.mk [(1, tp (B8 l)), (2, tp (vb begun)), (7, tp (V.vs (LL ls) ls.length)), (8, tp (u32 t)), (23, tp (V.vs xs n)), (24, tp (i64 (n : Int))), (25, tp (i64 i))] []) (by kernel_rfl) ?_
  cases begun with
  | false =>
    by_cases hm : t < 4294967295
    · obtain ⟨C, hC⟩ : ∃ C, mk (t + 1) P = C := ⟨_, rfl⟩
      have cB : BL C := by rw [← hC]; exact mk_bl (by omega) hPb (by omega)
      have cL : C.length = P.length + 8 := by rw [← hC]; exact mk_len
      have cE0 : cE C = 0 := by rw [← hC]; exact mk_cE (by omega)
      have cNN : cNo C = t + 1 := by rw [← hC]; exact mk_cNo (by omega) (by omega)
      have cP1 : cPo C = P := by rw [← hC]; exact mk_cPo (by omega)
      have hv : vst [C, C, C] = (3, C) := by simp [vst, vnx, newer, cE0]
      have r1 := con_gread_y C C C cB cB cB (by omega) (by omega) (by omega) nilS C 3 hv (by omega)
      rw [cNN, cP1] at r1
      have s1 := con_gscrub_y C C C cB cB cB (by omega) (by omega) (by omega) C 3 hv (by omega)
      rw [show nq C C + nq C C + nq C C = 0 by simp [nq]] at s1
      have fy := con_gfill_n a b c ha hb hc (by omega) (by omega) (by omega) P P.length hPb rfl C (by rw [htop]; exact hC) (by omega) (by omega)
      refine AWP.seq ?_
      refine AWP.regionT tcok hmix [] [1, 2, 7, 8, 23, 24, 25, 26] [] (os := []) (s' := St.mk [(1, tp (B8 l)), (2, tp (vb false)), (7, tp (V.vs (LL ls) (List.length ls))), (8, tp (u32 t)), (23, tp (V.vs xs n)), (24, tp (i64 (↑n : Int))), (25, tp (i64 i)), (26, tp (vb (decide (i < (↑n : Int)))))] []) (by kernel_rfl) trivial ?_
      refine AWP.seq ?_
      refine AWP.cond (b := decide (i < (↑n : Int))) (by kernel_rfl) (fun hq5 => ?_) (fun hq5 => ?_)
      · simp only [decide_eq_true_eq] at hq5
        (exfalso; omega)
      simp only [decide_eq_false_iff_not] at hq5
      refine AWP.exit ?_
      refine AWP.seq ?_
      refine AWP.regionT tcok hmix [(1, ⟨none, some ⟨V.sl 5 0 (List.length P), [(5, Blk.mk (u8s P) true 0 (some (5, 1)))], []⟩⟩)] [1, 2, 7, 8] [500005] (os := [Con Try.prog 18 [] [B8 l, i64 100] [(5, Blk.mk (u8s P) true 0 (some (5, 1)))] (V.sl 5 0 (List.length P))]) (s' := St.mk [(1, tp (V.sl 500005 0 (List.length P))), (2, tp (vb false)), (7, tp (V.vs (LL ls) (List.length ls))), (8, tp (u32 t))] [(500005, Blk.mk (u8s P) true 0 (some (5, 1)))]) (by kernel_rfl) ⟨(hcut ), trivial⟩ ?_
      refine AWP.seq ?_
      refine AWP.regionT tcok hmix [(1, ⟨none, some ⟨V.ptr 60002 0, [(60002, Blk.mk [B8 a, B8 b, B8 c, nilS] true 4 none)], []⟩⟩)] [1, 2, 8, 14] [500005, 580002] (os := [Con Try.prog 44 [] [V.vs (LL ls) (List.length ls)] [(60002, Blk.mk [B8 a, B8 b, B8 c, V.val (Value.slice none 0 0)] true 4 none)] (V.ptr 60002 0)]) (s' := St.mk [(1, tp (V.sl 500005 0 (List.length P))), (2, tp (vb false)), (8, tp (u32 t)), (14, tp (V.ptr 580002 0))] [(500005, Blk.mk (u8s P) true 0 (some (5, 1))), (580002, Blk.mk [B8 a, B8 b, B8 c, V.val (Value.slice none 0 0)] true 4 none)]) (by kernel_rfl) ⟨(go ), trivial⟩ ?_
      refine AWP.seq ?_
      refine AWP.seq ?_
      refine AWP.regionT tcok hmix [(5, ⟨some (V.tup [vb false]), none⟩)] [1, 8, 14, 58] [500005, 580002] (os := [false = true → False]) (s' := St.mk [(1, tp (V.sl 500005 0 (List.length P))), (8, tp (u32 t)), (14, tp (V.ptr 580002 0)), (58, tp (vb false))] [(500005, Blk.mk (u8s P) true 0 (some (5, 1))), (580002, Blk.mk [B8 a, B8 b, B8 c, V.val (Value.slice none 0 0)] true 4 none)]) (by kernel_rfl) ⟨(by (intro hc0; first | (cases hc0; done) | (exfalso; simp_all; done) | (try simp only [Bool.or_false, Bool.false_or, Bool.true_and, Bool.and_true, decide_eq_true_eq, decide_eq_false_iff_not, Bool.and_eq_true, Bool.or_eq_true, Bool.or_eq_false_iff, Bool.not_eq_true', Bool.and_eq_false_iff, beq_iff_eq, bne_iff_ne, bne_eq_false_iff_eq, beq_eq_false_iff_ne, Bool.not_eq_false'] at hc0; omega))), trivial⟩ ?_
      refine AWP.cond (b := false) (by kernel_rfl) (fun h => by cases h) (fun _ => ?_)
      refine AWP.skip ?_
      refine AWP.seq ?_
      refine AWP.frz 500005 (s' := St.mk [(1, tp (B8 P)), (8, tp (u32 t)), (14, tp (V.ptr 580002 0)), (58, tp (vb false))] [(580002, Blk.mk [B8 a, B8 b, B8 c, V.val (Value.slice none 0 0)] true 4 none)]) (by kernel_rfl) ?_
      refine AWP.regionT tcok hmix [(2, ⟨some (V.tup [V.sl 1000000000 580002 0]), some ⟨i64 0, [(1000000000, Blk.mk [B8 C, B8 C, B8 C, nilS] true 4 none)], []⟩⟩)] [1, 8, 14, 15] [580002] (os := [Con Try.prog 46 [(1000000000, Blk.mk [B8 a, B8 b, B8 c, V.val (Value.slice none 0 0)] true 4 none)] [V.ptr 1000000000 0, B8 P] [(1000000000, Blk.mk [B8 C, B8 C, B8 C, V.val (Value.slice none 0 0)] true 4 none)] (i64 0)]) (s' := St.mk [(1, tp (B8 P)), (8, tp (u32 t)), (14, tp (V.ptr 580002 0)), (15, tp (i64 0))] [(580002, Blk.mk [B8 C, B8 C, B8 C, V.val (Value.slice none 0 0)] true 4 none)]) (by kernel_rfl) ⟨(fy ), trivial⟩ ?_
      refine AWP.seq ?_
      refine AWP.seq ?_
      refine AWP.regionT tcok hmix [] [1, 8, 14, 15, 65] [580002] (os := []) (s' := St.mk [(1, tp (B8 P)), (8, tp (u32 t)), (14, tp (V.ptr 580002 0)), (15, tp (i64 0)), (65, tp (vb (t == 4294967295)))] [(580002, Blk.mk [B8 C, B8 C, B8 C, V.val (Value.slice none 0 0)] true 4 none)]) (by kernel_rfl) trivial ?_
      refine AWP.cond (b := t == 4294967295) (by kernel_rfl) (fun hq7 => ?_) (fun hq7 => ?_)
      · simp only [beq_iff_eq] at hq7
        (exfalso; omega)
      simp only [beq_eq_false_iff_ne] at hq7
      refine AWP.skip ?_
      refine AWP.seq ?_
      refine AWP.regionT tcok hmix [(1, ⟨none, some ⟨V.tup [u32 (t + 1), V.sl 1210005 0 (List.length P), i64 0], [(1210005, Blk.mk (u8s P) true 0 (some (5, 1)))], [(580002, true)]⟩⟩)] [1, 8, 14, 15, 16, 17, 18] [580002, 1920005] (os := [VO (V.tup [u32 (t + (1 : Int)), V.sl (1210005 : Nat) (0 : Nat) (List.length P), i64 (0 : Int)]), VOH [((1210005 : Nat), Blk.mk (u8s P) true (0 : Nat) (some ((5 : Nat), (1 : Nat))))], Con Try.prog 47 [] [V.vp [B8 C, B8 C, B8 C, V.val (Value.slice none 0 0)]] [(1210005, Blk.mk (u8s P) true 0 (some (5, 1)))] (V.tup [u32 (t + 1), V.sl 1210005 0 (List.length P), i64 0])]) (s' := St.mk [(1, tp (B8 P)), (8, tp (u32 t)), (14, tp (V.ptr 580002 0)), (15, tp (i64 0)), (16, tp (u32 (t + 1))), (17, tp (V.sl 1920005 0 (List.length P))), (18, tp (i64 0))] [(580002, Blk.mk [B8 C, B8 C, B8 C, V.val (Value.slice none 0 0)] true 4 none), (1920005, Blk.mk (u8s P) true 0 (some (5, 1)))]) (by kernel_rfl) ⟨(VO.tup (VOL.cons (VO.val _) (VOL.cons (VO.sl _ _ _) (VOL.cons (VO.val _) VOL.nil)))), ⟨(VOL.u8s _), trivial⟩, (r1 ), trivial⟩ ?_
      refine AWP.seq ?_
      refine AWP.regionT tcok hmix [(1, ⟨some (V.tup [V.sl 1000000000 580002 0]), some ⟨V.tup [i64 0, i64 0], [(1000000000, Blk.mk [B8 C, B8 C, B8 C, nilS] true 4 none)], []⟩⟩)] [1, 8, 14, 15, 16, 17, 18, 19, 20] [580002, 1920005] (os := [Con Try.prog 48 [(1000000000, Blk.mk [B8 C, B8 C, B8 C, V.val (Value.slice none 0 0)] true 4 none)] [V.ptr 1000000000 0] [(1000000000, Blk.mk [B8 C, B8 C, B8 C, V.val (Value.slice none 0 0)] true 4 none)] (V.tup [i64 0, i64 0])]) (s' := St.mk [(1, tp (B8 P)), (8, tp (u32 t)), (14, tp (V.ptr 580002 0)), (15, tp (i64 0)), (16, tp (u32 (t + 1))), (17, tp (V.sl 1920005 0 (List.length P))), (18, tp (i64 0)), (19, tp (i64 0)), (20, tp (i64 0))] [(580002, Blk.mk [B8 C, B8 C, B8 C, V.val (Value.slice none 0 0)] true 4 none), (1920005, Blk.mk (u8s P) true 0 (some (5, 1)))]) (by kernel_rfl) ⟨(s1 ), trivial⟩ ?_
      refine AWP.seq ?_
      refine AWP.regionT tcok hmix [(9, ⟨some (u32 (t + 1)), none⟩), (15, ⟨none, some ⟨vb (decide (P = P)), [], [(1920005, true)]⟩⟩), (19, ⟨none, some ⟨vb false, [], [(580002, true)]⟩⟩)] [6] [] (os := [true = true → u32 (IntKind.wrap IntKind.u32 (t + (1 : Int))) = u32 (t + (1 : Int)) ∧ True, (true && t + (1 : Int) == t + (1 : Int)) = true → VO (vb (decide (P = P))) ∧ VOH [] ∧ Con Try.prog (23 : Nat) [] [B8 P, B8 P] [] (vb (decide (P = P))) ∧ (0 : Nat) = (0 : Nat) ∧ List.length P * (1 : Nat) = List.length (u8s P) ∧ True, (true && t + (1 : Int) == t + (1 : Int) && decide (P = P)) = true → VO (vb false) ∧ VOH [] ∧ Con Try.prog (49 : Nat) [] [V.vp [B8 C, B8 C, B8 C, V.val (Value.slice none (0 : Nat) (0 : Nat))]] [] (vb false) ∧ True]) (s' := St.mk [(6, tp (vb (true && t + 1 == t + 1 && decide (P = P) && true && true && true)))] []) (by kernel_rfl) ⟨(by intro hc0; first | (cases hc0; done) | (try simp only [Bool.or_false, Bool.false_or, Bool.true_and, Bool.and_true, decide_eq_true_eq, decide_eq_false_iff_not, Bool.and_eq_true, Bool.or_eq_true, Bool.or_eq_false_iff, Bool.not_eq_true', Bool.and_eq_false_iff, beq_iff_eq, bne_iff_ne, bne_eq_false_iff_eq, beq_eq_false_iff_ne, Bool.not_eq_false'] at hc0; exact ⟨(wr_u32 (by omega) (by omega)), trivial⟩)), (by intro hc0; first | (cases hc0; done) | (try simp only [Bool.or_false, Bool.false_or, Bool.true_and, Bool.and_true, decide_eq_true_eq, decide_eq_false_iff_not, Bool.and_eq_true, Bool.or_eq_true, Bool.or_eq_false_iff, Bool.not_eq_true', Bool.and_eq_false_iff, beq_iff_eq, bne_iff_ne, bne_eq_false_iff_eq, beq_eq_false_iff_ne, Bool.not_eq_false'] at hc0; exact ⟨(VO.val _), trivial, (con_samen (P) (P) (List.length P) (List.length P) (by omega) (by omega) (by omega) (by omega)), (by omega), (by (simp [len_u8s]; done)), trivial⟩)), (fun _ => ⟨(VO.val _), trivial, (con_gpend_n (B8 C) (B8 C) (B8 C)), trivial⟩), trivial⟩ ?_
      refine AWP.ret ?_
      refine ⟨Or.inr rfl, Eq.trans (b := some ([], vb (true && t + 1 == t + 1 && decide (P = P) && true && true && true))) (by kernel_rfl) ?_⟩
      first | rfl | (simp; done)
    · have fy := con_gfill_fn a b c ha hb hc (by omega) (by omega) (by omega) P P.length hPb rfl (by omega) (by omega)
      refine AWP.seq ?_
      refine AWP.regionT tcok hmix [] [1, 2, 7, 8, 23, 24, 25, 26] [] (os := []) (s' := St.mk [(1, tp (B8 l)), (2, tp (vb false)), (7, tp (V.vs (LL ls) (List.length ls))), (8, tp (u32 t)), (23, tp (V.vs xs n)), (24, tp (i64 (↑n : Int))), (25, tp (i64 i)), (26, tp (vb (decide (i < (↑n : Int)))))] []) (by kernel_rfl) trivial ?_
      refine AWP.seq ?_
      refine AWP.cond (b := decide (i < (↑n : Int))) (by kernel_rfl) (fun hq8 => ?_) (fun hq8 => ?_)
      · simp only [decide_eq_true_eq] at hq8
        (exfalso; omega)
      simp only [decide_eq_false_iff_not] at hq8
      refine AWP.exit ?_
      refine AWP.seq ?_
      refine AWP.regionT tcok hmix [(1, ⟨none, some ⟨V.sl 5 0 (List.length P), [(5, Blk.mk (u8s P) true 0 (some (5, 1)))], []⟩⟩)] [1, 2, 7, 8] [500005] (os := [Con Try.prog 18 [] [B8 l, i64 100] [(5, Blk.mk (u8s P) true 0 (some (5, 1)))] (V.sl 5 0 (List.length P))]) (s' := St.mk [(1, tp (V.sl 500005 0 (List.length P))), (2, tp (vb false)), (7, tp (V.vs (LL ls) (List.length ls))), (8, tp (u32 t))] [(500005, Blk.mk (u8s P) true 0 (some (5, 1)))]) (by kernel_rfl) ⟨(hcut ), trivial⟩ ?_
      refine AWP.seq ?_
      refine AWP.regionT tcok hmix [(1, ⟨none, some ⟨V.ptr 60002 0, [(60002, Blk.mk [B8 a, B8 b, B8 c, nilS] true 4 none)], []⟩⟩)] [1, 2, 8, 14] [500005, 580002] (os := [Con Try.prog 44 [] [V.vs (LL ls) (List.length ls)] [(60002, Blk.mk [B8 a, B8 b, B8 c, V.val (Value.slice none 0 0)] true 4 none)] (V.ptr 60002 0)]) (s' := St.mk [(1, tp (V.sl 500005 0 (List.length P))), (2, tp (vb false)), (8, tp (u32 t)), (14, tp (V.ptr 580002 0))] [(500005, Blk.mk (u8s P) true 0 (some (5, 1))), (580002, Blk.mk [B8 a, B8 b, B8 c, V.val (Value.slice none 0 0)] true 4 none)]) (by kernel_rfl) ⟨(go ), trivial⟩ ?_
      refine AWP.seq ?_
      refine AWP.seq ?_
      refine AWP.regionT tcok hmix [(5, ⟨some (V.tup [vb false]), none⟩)] [1, 8, 14, 58] [500005, 580002] (os := [false = true → False]) (s' := St.mk [(1, tp (V.sl 500005 0 (List.length P))), (8, tp (u32 t)), (14, tp (V.ptr 580002 0)), (58, tp (vb false))] [(500005, Blk.mk (u8s P) true 0 (some (5, 1))), (580002, Blk.mk [B8 a, B8 b, B8 c, V.val (Value.slice none 0 0)] true 4 none)]) (by kernel_rfl) ⟨(by (intro hc0; first | (cases hc0; done) | (exfalso; simp_all; done) | (try simp only [Bool.or_false, Bool.false_or, Bool.true_and, Bool.and_true, decide_eq_true_eq, decide_eq_false_iff_not, Bool.and_eq_true, Bool.or_eq_true, Bool.or_eq_false_iff, Bool.not_eq_true', Bool.and_eq_false_iff, beq_iff_eq, bne_iff_ne, bne_eq_false_iff_eq, beq_eq_false_iff_ne, Bool.not_eq_false'] at hc0; omega))), trivial⟩ ?_
      refine AWP.cond (b := false) (by kernel_rfl) (fun h => by cases h) (fun _ => ?_)
      refine AWP.skip ?_
      refine AWP.seq ?_
      refine AWP.frz 500005 (s' := St.mk [(1, tp (B8 P)), (8, tp (u32 t)), (14, tp (V.ptr 580002 0)), (58, tp (vb false))] [(580002, Blk.mk [B8 a, B8 b, B8 c, V.val (Value.slice none 0 0)] true 4 none)]) (by kernel_rfl) ?_
      refine AWP.regionT tcok hmix [(2, ⟨some (V.tup [V.sl 1000000000 580002 0]), some ⟨i64 6, [(1000000000, Blk.mk [B8 a, B8 b, B8 c, nilS] true 4 none)], []⟩⟩)] [1, 8, 14, 15] [580002] (os := [Con Try.prog 46 [(1000000000, Blk.mk [B8 a, B8 b, B8 c, V.val (Value.slice none 0 0)] true 4 none)] [V.ptr 1000000000 0, B8 P] [(1000000000, Blk.mk [B8 a, B8 b, B8 c, V.val (Value.slice none 0 0)] true 4 none)] (i64 6)]) (s' := St.mk [(1, tp (B8 P)), (8, tp (u32 t)), (14, tp (V.ptr 580002 0)), (15, tp (i64 6))] [(580002, Blk.mk [B8 a, B8 b, B8 c, V.val (Value.slice none 0 0)] true 4 none)]) (by kernel_rfl) ⟨(fy ), trivial⟩ ?_
      refine AWP.seq ?_
      refine AWP.seq ?_
      refine AWP.regionT tcok hmix [] [1, 8, 14, 15, 65] [580002] (os := []) (s' := St.mk [(1, tp (B8 P)), (8, tp (u32 t)), (14, tp (V.ptr 580002 0)), (15, tp (i64 6)), (65, tp (vb (t == 4294967295)))] [(580002, Blk.mk [B8 a, B8 b, B8 c, V.val (Value.slice none 0 0)] true 4 none)]) (by kernel_rfl) trivial ?_
      refine AWP.cond (b := t == 4294967295) (by kernel_rfl) (fun hq10 => ?_) (fun hq10 => ?_)
      · simp only [beq_iff_eq] at hq10
        refine AWP.seq ?_
        refine AWP.regionT tcok hmix [] [1, 6, 8, 14, 15] [580002] (os := []) (s' := St.mk [(1, tp (B8 P)), (6, tp (vb true)), (8, tp (u32 t)), (14, tp (V.ptr 580002 0)), (15, tp (i64 6))] [(580002, Blk.mk [B8 a, B8 b, B8 c, V.val (Value.slice none 0 0)] true 4 none)]) (by kernel_rfl) trivial ?_
        refine AWP.ret ?_
        refine ⟨Or.inr rfl, Eq.trans (b := some ([], vb true)) (by kernel_rfl) ?_⟩
        first | rfl | (simp; done) | (simp; omega)
      simp only [beq_eq_false_iff_ne] at hq10
      (exfalso; omega)
  | true =>
    by_cases hm : t < 4294967295
    · obtain ⟨C1, hC1⟩ : ∃ C1, mk (t + 1) P = C1 := ⟨_, rfl⟩
      have cB1 : BL C1 := by rw [← hC1]; exact mk_bl (by omega) hPb (by omega)
      have cL1 : C1.length = P.length + 8 := by rw [← hC1]; exact mk_len
      have cN1 : cNo C1 = t + 1 := by rw [← hC1]; exact mk_cNo (by omega) (by omega)
      have bg := con_gbegin_y a b c ha hb hc (by omega) (by omega) (by omega) P P.length hPb rfl C1 (by rw [htop]; exact hC1) (by omega) (by omega)
      have htop1 : top3 C1 b c = t + 1 := by
        unfold top3 imax at htop ⊢
        rw [cN1]
        split at htop <;> split at htop <;> split at htop <;> (repeat' split) <;> omega
      by_cases hm2 : t + 1 < 4294967295
      · obtain ⟨C, hC⟩ : ∃ C, mk (t + 1 + 1) P = C := ⟨_, rfl⟩
        have cB : BL C := by rw [← hC]; exact mk_bl (by omega) hPb (by omega)
        have cL : C.length = P.length + 8 := by rw [← hC]; exact mk_len
        have cE0 : cE C = 0 := by rw [← hC]; exact mk_cE (by omega)
        have cNN : cNo C = t + 1 + 1 := by rw [← hC]; exact mk_cNo (by omega) (by omega)
        have cP1 : cPo C = P := by rw [← hC]; exact mk_cPo (by omega)
        have hv : vst [C, C, C] = (3, C) := by simp [vst, vnx, newer, cE0]
        have r1 := con_gread_y C C C cB cB cB (by omega) (by omega) (by omega) nilS C 3 hv (by omega)
        rw [cNN, cP1] at r1
        have s1 := con_gscrub_y C C C cB cB cB (by omega) (by omega) (by omega) C 3 hv (by omega)
        rw [show nq C C + nq C C + nq C C = 0 by simp [nq]] at s1
        have fy := con_gfill_y C1 b c cB1 hb hc (by omega) (by omega) (by omega) P P.length hPb rfl C (by rw [htop1]; exact hC) C1 (by omega) (by omega)
        refine AWP.seq ?_
        refine AWP.regionT tcok hmix [] [1, 2, 7, 8, 23, 24, 25, 26] [] (os := []) (s' := St.mk [(1, tp (B8 l)), (2, tp (vb true)), (7, tp (V.vs (LL ls) (List.length ls))), (8, tp (u32 t)), (23, tp (V.vs xs n)), (24, tp (i64 (↑n : Int))), (25, tp (i64 i)), (26, tp (vb (decide (i < (↑n : Int)))))] []) (by kernel_rfl) trivial ?_
        refine AWP.seq ?_
        refine AWP.cond (b := decide (i < (↑n : Int))) (by kernel_rfl) (fun hq11 => ?_) (fun hq11 => ?_)
        · simp only [decide_eq_true_eq] at hq11
          (exfalso; omega)
        simp only [decide_eq_false_iff_not] at hq11
        refine AWP.exit ?_
        refine AWP.seq ?_
        refine AWP.regionT tcok hmix [(1, ⟨none, some ⟨V.sl 5 0 (List.length P), [(5, Blk.mk (u8s P) true 0 (some (5, 1)))], []⟩⟩)] [1, 2, 7, 8] [500005] (os := [Con Try.prog 18 [] [B8 l, i64 100] [(5, Blk.mk (u8s P) true 0 (some (5, 1)))] (V.sl 5 0 (List.length P))]) (s' := St.mk [(1, tp (V.sl 500005 0 (List.length P))), (2, tp (vb true)), (7, tp (V.vs (LL ls) (List.length ls))), (8, tp (u32 t))] [(500005, Blk.mk (u8s P) true 0 (some (5, 1)))]) (by kernel_rfl) ⟨(hcut ), trivial⟩ ?_
        refine AWP.seq ?_
        refine AWP.regionT tcok hmix [(1, ⟨none, some ⟨V.ptr 60002 0, [(60002, Blk.mk [B8 a, B8 b, B8 c, nilS] true 4 none)], []⟩⟩)] [1, 2, 8, 14] [500005, 580002] (os := [Con Try.prog 44 [] [V.vs (LL ls) (List.length ls)] [(60002, Blk.mk [B8 a, B8 b, B8 c, V.val (Value.slice none 0 0)] true 4 none)] (V.ptr 60002 0)]) (s' := St.mk [(1, tp (V.sl 500005 0 (List.length P))), (2, tp (vb true)), (8, tp (u32 t)), (14, tp (V.ptr 580002 0))] [(500005, Blk.mk (u8s P) true 0 (some (5, 1))), (580002, Blk.mk [B8 a, B8 b, B8 c, V.val (Value.slice none 0 0)] true 4 none)]) (by kernel_rfl) ⟨(go ), trivial⟩ ?_
        refine AWP.seq ?_
        refine AWP.seq ?_
        refine AWP.frz 500005 (s' := St.mk [(1, tp (B8 P)), (2, tp (vb true)), (8, tp (u32 t)), (14, tp (V.ptr 580002 0))] [(580002, Blk.mk [B8 a, B8 b, B8 c, V.val (Value.slice none 0 0)] true 4 none)]) (by kernel_rfl) ?_
        refine AWP.regionT tcok hmix [(4, ⟨some (V.tup [V.sl 1000000000 580002 0]), some ⟨i64 0, [(1000000000, Blk.mk [B8 C1, B8 b, B8 c, B8 C1] true 4 none)], []⟩⟩)] [1, 8, 14, 58] [580002] (os := [Con Try.prog 45 [(1000000000, Blk.mk [B8 a, B8 b, B8 c, V.val (Value.slice none 0 0)] true 4 none)] [V.ptr 1000000000 0, B8 P] [(1000000000, Blk.mk [B8 C1, B8 b, B8 c, B8 C1] true 4 none)] (i64 0)]) (s' := St.mk [(1, tp (B8 P)), (8, tp (u32 t)), (14, tp (V.ptr 580002 0)), (58, tp (vb true))] [(580002, Blk.mk [B8 C1, B8 b, B8 c, B8 C1] true 4 none)]) (by kernel_rfl) ⟨(bg ), trivial⟩ ?_
        refine AWP.cond (b := true) (by kernel_rfl) (fun _ => ?_) (fun h => by cases h)
        refine AWP.regionT tcok hmix [(1, ⟨some (u32 (t + 1)), none⟩)] [1, 8, 14] [580002] (os := [u32 (IntKind.wrap IntKind.u32 (t + 1)) = u32 (t + 1)]) (s' := St.mk [(1, tp (B8 P)), (8, tp (u32 (t + 1))), (14, tp (V.ptr 580002 0))] [(580002, Blk.mk [B8 C1, B8 b, B8 c, B8 C1] true 4 none)]) (by kernel_rfl) ⟨(wr_u32 (by omega) (by omega)), trivial⟩ ?_
        refine AWP.seq ?_
        refine AWP.regionT tcok hmix [(2, ⟨some (V.tup [V.sl 1000000000 580002 0]), some ⟨i64 0, [(1000000000, Blk.mk [B8 C, B8 C, B8 C, nilS] true 4 none)], []⟩⟩)] [1, 8, 14, 15] [580002] (os := [Con Try.prog 46 [(1000000000, Blk.mk [B8 C1, B8 b, B8 c, B8 C1] true 4 none)] [V.ptr 1000000000 0, B8 P] [(1000000000, Blk.mk [B8 C, B8 C, B8 C, V.val (Value.slice none 0 0)] true 4 none)] (i64 0)]) (s' := St.mk [(1, tp (B8 P)), (8, tp (u32 (t + 1))), (14, tp (V.ptr 580002 0)), (15, tp (i64 0))] [(580002, Blk.mk [B8 C, B8 C, B8 C, V.val (Value.slice none 0 0)] true 4 none)]) (by kernel_rfl) ⟨(fy ), trivial⟩ ?_
        refine AWP.seq ?_
        refine AWP.seq ?_
        refine AWP.regionT tcok hmix [] [1, 8, 14, 15, 65] [580002] (os := []) (s' := St.mk [(1, tp (B8 P)), (8, tp (u32 (t + 1))), (14, tp (V.ptr 580002 0)), (15, tp (i64 0)), (65, tp (vb (t + 1 == 4294967295)))] [(580002, Blk.mk [B8 C, B8 C, B8 C, V.val (Value.slice none 0 0)] true 4 none)]) (by kernel_rfl) trivial ?_
        refine AWP.cond (b := t + 1 == 4294967295) (by kernel_rfl) (fun hq13 => ?_) (fun hq13 => ?_)
        · simp only [beq_iff_eq] at hq13
          (exfalso; omega)
        simp only [beq_eq_false_iff_ne] at hq13
        refine AWP.skip ?_
        refine AWP.seq ?_
        refine AWP.regionT tcok hmix [(1, ⟨none, some ⟨V.tup [u32 (t + 1 + 1), V.sl 1210005 0 (List.length P), i64 0], [(1210005, Blk.mk (u8s P) true 0 (some (5, 1)))], [(580002, true)]⟩⟩)] [1, 8, 14, 15, 16, 17, 18] [580002, 1920005] (os := [VO (V.tup [u32 (t + (1 : Int) + (1 : Int)), V.sl (1210005 : Nat) (0 : Nat) (List.length P), i64 (0 : Int)]), VOH [((1210005 : Nat), Blk.mk (u8s P) true (0 : Nat) (some ((5 : Nat), (1 : Nat))))], Con Try.prog 47 [] [V.vp [B8 C, B8 C, B8 C, V.val (Value.slice none 0 0)]] [(1210005, Blk.mk (u8s P) true 0 (some (5, 1)))] (V.tup [u32 (t + 1 + 1), V.sl 1210005 0 (List.length P), i64 0])]) (s' := St.mk [(1, tp (B8 P)), (8, tp (u32 (t + 1))), (14, tp (V.ptr 580002 0)), (15, tp (i64 0)), (16, tp (u32 (t + 1 + 1))), (17, tp (V.sl 1920005 0 (List.length P))), (18, tp (i64 0))] [(580002, Blk.mk [B8 C, B8 C, B8 C, V.val (Value.slice none 0 0)] true 4 none), (1920005, Blk.mk (u8s P) true 0 (some (5, 1)))]) (by kernel_rfl) ⟨(VO.tup (VOL.cons (VO.val _) (VOL.cons (VO.sl _ _ _) (VOL.cons (VO.val _) VOL.nil)))), ⟨(VOL.u8s _), trivial⟩, (r1 ), trivial⟩ ?_
        refine AWP.seq ?_
        refine AWP.regionT tcok hmix [(1, ⟨some (V.tup [V.sl 1000000000 580002 0]), some ⟨V.tup [i64 0, i64 0], [(1000000000, Blk.mk [B8 C, B8 C, B8 C, nilS] true 4 none)], []⟩⟩)] [1, 8, 14, 15, 16, 17, 18, 19, 20] [580002, 1920005] (os := [Con Try.prog 48 [(1000000000, Blk.mk [B8 C, B8 C, B8 C, V.val (Value.slice none 0 0)] true 4 none)] [V.ptr 1000000000 0] [(1000000000, Blk.mk [B8 C, B8 C, B8 C, V.val (Value.slice none 0 0)] true 4 none)] (V.tup [i64 0, i64 0])]) (s' := St.mk [(1, tp (B8 P)), (8, tp (u32 (t + 1))), (14, tp (V.ptr 580002 0)), (15, tp (i64 0)), (16, tp (u32 (t + 1 + 1))), (17, tp (V.sl 1920005 0 (List.length P))), (18, tp (i64 0)), (19, tp (i64 0)), (20, tp (i64 0))] [(580002, Blk.mk [B8 C, B8 C, B8 C, V.val (Value.slice none 0 0)] true 4 none), (1920005, Blk.mk (u8s P) true 0 (some (5, 1)))]) (by kernel_rfl) ⟨(s1 ), trivial⟩ ?_
        refine AWP.seq ?_
        refine AWP.regionT tcok hmix [(9, ⟨some (u32 (t + 1 + 1)), none⟩), (15, ⟨none, some ⟨vb (decide (P = P)), [], [(1920005, true)]⟩⟩), (19, ⟨none, some ⟨vb false, [], [(580002, true)]⟩⟩)] [6] [] (os := [true = true → u32 (IntKind.wrap IntKind.u32 (t + (1 : Int) + (1 : Int))) = u32 (t + (1 : Int) + (1 : Int)) ∧ True, (true && t + (1 : Int) + (1 : Int) == t + (1 : Int) + (1 : Int)) = true → VO (vb (decide (P = P))) ∧ VOH [] ∧ Con Try.prog (23 : Nat) [] [B8 P, B8 P] [] (vb (decide (P = P))) ∧ (0 : Nat) = (0 : Nat) ∧ List.length P * (1 : Nat) = List.length (u8s P) ∧ True, (true && t + (1 : Int) + (1 : Int) == t + (1 : Int) + (1 : Int) && decide (P = P)) = true → VO (vb false) ∧ VOH [] ∧ Con Try.prog (49 : Nat) [] [V.vp [B8 C, B8 C, B8 C, V.val (Value.slice none (0 : Nat) (0 : Nat))]] [] (vb false) ∧ True]) (s' := St.mk [(6, tp (vb (true && t + 1 + 1 == t + 1 + 1 && decide (P = P) && true && true && true)))] []) (by kernel_rfl) ⟨(by intro hc0; first | (cases hc0; done) | (try simp only [Bool.or_false, Bool.false_or, Bool.true_and, Bool.and_true, decide_eq_true_eq, decide_eq_false_iff_not, Bool.and_eq_true, Bool.or_eq_true, Bool.or_eq_false_iff, Bool.not_eq_true', Bool.and_eq_false_iff, beq_iff_eq, bne_iff_ne, bne_eq_false_iff_eq, beq_eq_false_iff_ne, Bool.not_eq_false'] at hc0; exact ⟨(wr_u32 (by omega) (by omega)), trivial⟩)), (by intro hc0; first | (cases hc0; done) | (try simp only [Bool.or_false, Bool.false_or, Bool.true_and, Bool.and_true, decide_eq_true_eq, decide_eq_false_iff_not, Bool.and_eq_true, Bool.or_eq_true, Bool.or_eq_false_iff, Bool.not_eq_true', Bool.and_eq_false_iff, beq_iff_eq, bne_iff_ne, bne_eq_false_iff_eq, beq_eq_false_iff_ne, Bool.not_eq_false'] at hc0; exact ⟨(VO.val _), trivial, (con_samen (P) (P) (List.length P) (List.length P) (by omega) (by omega) (by omega) (by omega)), (by omega), (by (simp [len_u8s]; done)), trivial⟩)), (fun _ => ⟨(VO.val _), trivial, (con_gpend_n (B8 C) (B8 C) (B8 C)), trivial⟩), trivial⟩ ?_
        refine AWP.ret ?_
        refine ⟨Or.inr rfl, Eq.trans (b := some ([], vb (true && t + 1 + 1 == t + 1 + 1 && decide (P = P) && true && true && true))) (by kernel_rfl) ?_⟩
        first | rfl | (simp; done)
      · have fy := con_gfill_fp C1 b c cB1 hb hc (by omega) (by omega) (by omega) P P.length hPb rfl C1 (by omega) (by omega)
        refine AWP.seq ?_
        refine AWP.regionT tcok hmix [] [1, 2, 7, 8, 23, 24, 25, 26] [] (os := []) (s' := St.mk [(1, tp (B8 l)), (2, tp (vb true)), (7, tp (V.vs (LL ls) (List.length ls))), (8, tp (u32 t)), (23, tp (V.vs xs n)), (24, tp (i64 (↑n : Int))), (25, tp (i64 i)), (26, tp (vb (decide (i < (↑n : Int)))))] []) (by kernel_rfl) trivial ?_
        refine AWP.seq ?_
        refine AWP.cond (b := decide (i < (↑n : Int))) (by kernel_rfl) (fun hq14 => ?_) (fun hq14 => ?_)
        · simp only [decide_eq_true_eq] at hq14
          (exfalso; omega)
        simp only [decide_eq_false_iff_not] at hq14
        refine AWP.exit ?_
        refine AWP.seq ?_
        refine AWP.regionT tcok hmix [(1, ⟨none, some ⟨V.sl 5 0 (List.length P), [(5, Blk.mk (u8s P) true 0 (some (5, 1)))], []⟩⟩)] [1, 2, 7, 8] [500005] (os := [Con Try.prog 18 [] [B8 l, i64 100] [(5, Blk.mk (u8s P) true 0 (some (5, 1)))] (V.sl 5 0 (List.length P))]) (s' := St.mk [(1, tp (V.sl 500005 0 (List.length P))), (2, tp (vb true)), (7, tp (V.vs (LL ls) (List.length ls))), (8, tp (u32 t))] [(500005, Blk.mk (u8s P) true 0 (some (5, 1)))]) (by kernel_rfl) ⟨(hcut ), trivial⟩ ?_
        refine AWP.seq ?_
        refine AWP.regionT tcok hmix [(1, ⟨none, some ⟨V.ptr 60002 0, [(60002, Blk.mk [B8 a, B8 b, B8 c, nilS] true 4 none)], []⟩⟩)] [1, 2, 8, 14] [500005, 580002] (os := [Con Try.prog 44 [] [V.vs (LL ls) (List.length ls)] [(60002, Blk.mk [B8 a, B8 b, B8 c, V.val (Value.slice none 0 0)] true 4 none)] (V.ptr 60002 0)]) (s' := St.mk [(1, tp (V.sl 500005 0 (List.length P))), (2, tp (vb true)), (8, tp (u32 t)), (14, tp (V.ptr 580002 0))] [(500005, Blk.mk (u8s P) true 0 (some (5, 1))), (580002, Blk.mk [B8 a, B8 b, B8 c, V.val (Value.slice none 0 0)] true 4 none)]) (by kernel_rfl) ⟨(go ), trivial⟩ ?_
        refine AWP.seq ?_
        refine AWP.seq ?_
        refine AWP.frz 500005 (s' := St.mk [(1, tp (B8 P)), (2, tp (vb true)), (8, tp (u32 t)), (14, tp (V.ptr 580002 0))] [(580002, Blk.mk [B8 a, B8 b, B8 c, V.val (Value.slice none 0 0)] true 4 none)]) (by kernel_rfl) ?_
        refine AWP.regionT tcok hmix [(4, ⟨some (V.tup [V.sl 1000000000 580002 0]), some ⟨i64 0, [(1000000000, Blk.mk [B8 C1, B8 b, B8 c, B8 C1] true 4 none)], []⟩⟩)] [1, 8, 14, 58] [580002] (os := [Con Try.prog 45 [(1000000000, Blk.mk [B8 a, B8 b, B8 c, V.val (Value.slice none 0 0)] true 4 none)] [V.ptr 1000000000 0, B8 P] [(1000000000, Blk.mk [B8 C1, B8 b, B8 c, B8 C1] true 4 none)] (i64 0)]) (s' := St.mk [(1, tp (B8 P)), (8, tp (u32 t)), (14, tp (V.ptr 580002 0)), (58, tp (vb true))] [(580002, Blk.mk [B8 C1, B8 b, B8 c, B8 C1] true 4 none)]) (by kernel_rfl) ⟨(bg ), trivial⟩ ?_
        refine AWP.cond (b := true) (by kernel_rfl) (fun _ => ?_) (fun h => by cases h)
        refine AWP.regionT tcok hmix [(1, ⟨some (u32 (t + 1)), none⟩)] [1, 8, 14] [580002] (os := [u32 (IntKind.wrap IntKind.u32 (t + 1)) = u32 (t + 1)]) (s' := St.mk [(1, tp (B8 P)), (8, tp (u32 (t + 1))), (14, tp (V.ptr 580002 0))] [(580002, Blk.mk [B8 C1, B8 b, B8 c, B8 C1] true 4 none)]) (by kernel_rfl) ⟨(wr_u32 (by omega) (by omega)), trivial⟩ ?_
        refine AWP.seq ?_
        refine AWP.regionT tcok hmix [(2, ⟨some (V.tup [V.sl 1000000000 580002 0]), some ⟨i64 6, [(1000000000, Blk.mk [B8 C1, B8 b, B8 c, B8 C1] true 4 none)], []⟩⟩)] [1, 8, 14, 15] [580002] (os := [Con Try.prog 46 [(1000000000, Blk.mk [B8 C1, B8 b, B8 c, B8 C1] true 4 none)] [V.ptr 1000000000 0, B8 P] [(1000000000, Blk.mk [B8 C1, B8 b, B8 c, B8 C1] true 4 none)] (i64 6)]) (s' := St.mk [(1, tp (B8 P)), (8, tp (u32 (t + 1))), (14, tp (V.ptr 580002 0)), (15, tp (i64 6))] [(580002, Blk.mk [B8 C1, B8 b, B8 c, B8 C1] true 4 none)]) (by kernel_rfl) ⟨(fy ), trivial⟩ ?_
        refine AWP.seq ?_
        refine AWP.seq ?_
        refine AWP.regionT tcok hmix [] [1, 8, 14, 15, 65] [580002] (os := []) (s' := St.mk [(1, tp (B8 P)), (8, tp (u32 (t + 1))), (14, tp (V.ptr 580002 0)), (15, tp (i64 6)), (65, tp (vb (t + 1 == 4294967295)))] [(580002, Blk.mk [B8 C1, B8 b, B8 c, B8 C1] true 4 none)]) (by kernel_rfl) trivial ?_
        refine AWP.cond (b := t + 1 == 4294967295) (by kernel_rfl) (fun hq16 => ?_) (fun hq16 => ?_)
        · simp only [beq_iff_eq] at hq16
          refine AWP.seq ?_
          refine AWP.regionT tcok hmix [] [1, 6, 8, 14, 15] [580002] (os := []) (s' := St.mk [(1, tp (B8 P)), (6, tp (vb true)), (8, tp (u32 (t + 1))), (14, tp (V.ptr 580002 0)), (15, tp (i64 6))] [(580002, Blk.mk [B8 C1, B8 b, B8 c, B8 C1] true 4 none)]) (by kernel_rfl) trivial ?_
          refine AWP.ret ?_
          refine ⟨Or.inr rfl, Eq.trans (b := some ([], vb true)) (by kernel_rfl) ?_⟩
          first | rfl | (simp; done) | (simp; omega)
        simp only [beq_eq_false_iff_ne] at hq16
        (exfalso; omega)
    · have bg := con_gbegin_f a b c ha hb hc (by omega) (by omega) (by omega) P P.length hPb rfl (by omega) (by omega)
      have fy := con_gfill_fn a b c ha hb hc (by omega) (by omega) (by omega) P P.length hPb rfl (by omega) (by omega)
      refine AWP.seq ?_
      refine AWP.regionT tcok hmix [] [1, 2, 7, 8, 23, 24, 25, 26] [] (os := []) (s' := St.mk [(1, tp (B8 l)), (2, tp (vb true)), (7, tp (V.vs (LL ls) (List.length ls))), (8, tp (u32 t)), (23, tp (V.vs xs n)), (24, tp (i64 (↑n : Int))), (25, tp (i64 i)), (26, tp (vb (decide (i < (↑n : Int)))))] []) (by kernel_rfl) trivial ?_
      refine AWP.seq ?_
      refine AWP.cond (b := decide (i < (↑n : Int))) (by kernel_rfl) (fun hq17 => ?_) (fun hq17 => ?_)
      · simp only [decide_eq_true_eq] at hq17
        (exfalso; omega)
      simp only [decide_eq_false_iff_not] at hq17
      refine AWP.exit ?_
      refine AWP.seq ?_
      refine AWP.regionT tcok hmix [(1, ⟨none, some ⟨V.sl 5 0 (List.length P), [(5, Blk.mk (u8s P) true 0 (some (5, 1)))], []⟩⟩)] [1, 2, 7, 8] [500005] (os := [Con Try.prog 18 [] [B8 l, i64 100] [(5, Blk.mk (u8s P) true 0 (some (5, 1)))] (V.sl 5 0 (List.length P))]) (s' := St.mk [(1, tp (V.sl 500005 0 (List.length P))), (2, tp (vb true)), (7, tp (V.vs (LL ls) (List.length ls))), (8, tp (u32 t))] [(500005, Blk.mk (u8s P) true 0 (some (5, 1)))]) (by kernel_rfl) ⟨(hcut ), trivial⟩ ?_
      refine AWP.seq ?_
      refine AWP.regionT tcok hmix [(1, ⟨none, some ⟨V.ptr 60002 0, [(60002, Blk.mk [B8 a, B8 b, B8 c, nilS] true 4 none)], []⟩⟩)] [1, 2, 8, 14] [500005, 580002] (os := [Con Try.prog 44 [] [V.vs (LL ls) (List.length ls)] [(60002, Blk.mk [B8 a, B8 b, B8 c, V.val (Value.slice none 0 0)] true 4 none)] (V.ptr 60002 0)]) (s' := St.mk [(1, tp (V.sl 500005 0 (List.length P))), (2, tp (vb true)), (8, tp (u32 t)), (14, tp (V.ptr 580002 0))] [(500005, Blk.mk (u8s P) true 0 (some (5, 1))), (580002, Blk.mk [B8 a, B8 b, B8 c, V.val (Value.slice none 0 0)] true 4 none)]) (by kernel_rfl) ⟨(go ), trivial⟩ ?_
      refine AWP.seq ?_
      refine AWP.seq ?_
      refine AWP.frz 500005 (s' := St.mk [(1, tp (B8 P)), (2, tp (vb true)), (8, tp (u32 t)), (14, tp (V.ptr 580002 0))] [(580002, Blk.mk [B8 a, B8 b, B8 c, V.val (Value.slice none 0 0)] true 4 none)]) (by kernel_rfl) ?_
      refine AWP.regionT tcok hmix [(4, ⟨some (V.tup [V.sl 1000000000 580002 0]), some ⟨i64 6, [(1000000000, Blk.mk [B8 a, B8 b, B8 c, nilS] true 4 none)], []⟩⟩)] [1, 8, 14, 58] [580002] (os := [Con Try.prog 45 [(1000000000, Blk.mk [B8 a, B8 b, B8 c, V.val (Value.slice none 0 0)] true 4 none)] [V.ptr 1000000000 0, B8 P] [(1000000000, Blk.mk [B8 a, B8 b, B8 c, V.val (Value.slice none 0 0)] true 4 none)] (i64 6)]) (s' := St.mk [(1, tp (B8 P)), (8, tp (u32 t)), (14, tp (V.ptr 580002 0)), (58, tp (vb false))] [(580002, Blk.mk [B8 a, B8 b, B8 c, V.val (Value.slice none 0 0)] true 4 none)]) (by kernel_rfl) ⟨(bg ), trivial⟩ ?_
      refine AWP.cond (b := false) (by kernel_rfl) (fun h => by cases h) (fun _ => ?_)
      refine AWP.skip ?_
      refine AWP.seq ?_
      refine AWP.regionT tcok hmix [(2, ⟨some (V.tup [V.sl 1000000000 580002 0]), some ⟨i64 6, [(1000000000, Blk.mk [B8 a, B8 b, B8 c, nilS] true 4 none)], []⟩⟩)] [1, 8, 14, 15] [580002] (os := [Con Try.prog 46 [(1000000000, Blk.mk [B8 a, B8 b, B8 c, V.val (Value.slice none 0 0)] true 4 none)] [V.ptr 1000000000 0, B8 P] [(1000000000, Blk.mk [B8 a, B8 b, B8 c, V.val (Value.slice none 0 0)] true 4 none)] (i64 6)]) (s' := St.mk [(1, tp (B8 P)), (8, tp (u32 t)), (14, tp (V.ptr 580002 0)), (15, tp (i64 6))] [(580002, Blk.mk [B8 a, B8 b, B8 c, V.val (Value.slice none 0 0)] true 4 none)]) (by kernel_rfl) ⟨(fy ), trivial⟩ ?_
      refine AWP.seq ?_
      refine AWP.seq ?_
      refine AWP.regionT tcok hmix [] [1, 8, 14, 15, 65] [580002] (os := []) (s' := St.mk [(1, tp (B8 P)), (8, tp (u32 t)), (14, tp (V.ptr 580002 0)), (15, tp (i64 6)), (65, tp (vb (t == 4294967295)))] [(580002, Blk.mk [B8 a, B8 b, B8 c, V.val (Value.slice none 0 0)] true 4 none)]) (by kernel_rfl) trivial ?_
      refine AWP.cond (b := t == 4294967295) (by kernel_rfl) (fun hq19 => ?_) (fun hq19 => ?_)
      · simp only [beq_iff_eq] at hq19
        refine AWP.seq ?_
        refine AWP.regionT tcok hmix [] [1, 6, 8, 14, 15] [580002] (os := []) (s' := St.mk [(1, tp (B8 P)), (6, tp (vb true)), (8, tp (u32 t)), (14, tp (V.ptr 580002 0)), (15, tp (i64 6))] [(580002, Blk.mk [B8 a, B8 b, B8 c, V.val (Value.slice none 0 0)] true 4 none)]) (by kernel_rfl) trivial ?_
        refine AWP.ret ?_
        refine ⟨Or.inr rfl, Eq.trans (b := some ([], vb true)) (by kernel_rfl) ?_⟩
        first | rfl | (simp; done) | (simp; omega)
      simp only [beq_eq_false_iff_ne] at hq19
      (exfalso; omega)
theorem law_GuardFills (w p begun : V) (hw : TyV tc 9 40 w) (hp : TyV tc 9 29 p) (hb : TyV tc 9 4 begun) : Con Try.prog 10 [] [w, p, begun] [] (vb true) := by
  obtain ⟨xs, n, rfl, hn, kx⟩ := lists_of hw
  obtain ⟨l, rfl, hl, hll⟩ := bytes_of hp
  obtain ⟨b, e⟩ := hb
  cases e
  exact fills7 b xs n l hn hl hll kx
end Go.Proofs.Ytmeiemdnhjnpcaa
