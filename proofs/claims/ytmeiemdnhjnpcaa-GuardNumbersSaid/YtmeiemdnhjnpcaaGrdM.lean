/- Chapter 7: GuardNumbers. -/
import Derived.Test.YtmeiemdnhjnpcaaGrdE
namespace Go.Proofs.Ytmeiemdnhjnpcaa
open Go.Ab
set_option linter.unusedSimpArgs false
set_option linter.unusedVariables false
set_option maxHeartbeats 4000000
theorem top3_new {a b c C : List Int} {q : Int} (h : top3 a b c = q) (hq : 0 ≤ q) (hC : cNo C = q + 1) : top3 C b c = q + 1 ∧ top3 C C C = q + 1 := by
  unfold top3 imax at h ⊢
  rw [hC]
  split at h <;> split at h <;> split at h <;> (refine ⟨?_, ?_⟩ <;> (repeat' split) <;> omega)
theorem num7 (xs : List V) (n : Nat) (half : Int) (hn : n ≤ 9223372036854775807) (hh : 0 ≤ half ∧ half < 256) (kx : ∀ i : Nat, i < n → ∃ (l : List Int) (r : List V), xs.drop (i * 1) = .vs (u8s l) l.length :: r ∧ BL l ∧ l.length ≤ 9223372036854775807) : Con Try.prog 13 [] [.vs xs n, u8 half] [] (vb true) := by
  have haw := con_awake7
  refine Con.of (C := ⟨Try.prog, tc, Try.f13.ntmps⟩) [] tcok Try.func13 rfl rfl (by kernel_rfl) (by kernel_rfl) ?_
  refine AWP.seq ?_
  refine AWP.regionT tcok hmix [] [0, 1, 4] [] (os := []) (s' := St.mk [(0, tp (V.vs xs n)), (1, tp (u8 half)), (4, tp (vb false))] []) (by kernel_rfl) trivial ?_
  refine AWP.seq ?_
  refine AWP.seq ?_
  refine AWP.regionT tcok hmix [(0, ⟨none, some ⟨vb true, [], []⟩⟩)] [0, 1, 4, 15] [] (os := [Con Try.prog 43 [] [] [] (vb true)]) (s' := St.mk [(0, tp (V.vs xs n)), (1, tp (u8 half)), (4, tp (vb false)), (15, tp (vb false))] []) (by kernel_rfl) ⟨(haw ), trivial⟩ ?_
  refine AWP.cond (b := false) (by kernel_rfl) (fun h => by cases h) (fun _ => ?_)
  refine AWP.skip ?_
  refine AWP.seq ?_
  refine AWP.regionT tcok hmix [(0, ⟨none, some ⟨V.ptr 2 0, [(2, Blk.mk [nilS, nilS, nilS, nilS] true 4 none)], []⟩⟩)] [0, 1, 4, 5] [170002] (os := [Con Try.prog 50 [] [] [(2, Blk.mk [V.val (Value.slice none 0 0), V.val (Value.slice none 0 0), V.val (Value.slice none 0 0), V.val (Value.slice none 0 0)] true 4 none)] (V.ptr 2 0)]) (s' := St.mk [(0, tp (V.vs xs n)), (1, tp (u8 half)), (4, tp (vb false)), (5, tp (V.ptr 170002 0))] [(170002, Blk.mk [V.val (Value.slice none 0 0), V.val (Value.slice none 0 0), V.val (Value.slice none 0 0), V.val (Value.slice none 0 0)] true 4 none)]) (by kernel_rfl) ⟨(con_gnew ), trivial⟩ ?_
  refine AWP.seq ?_
  refine AWP.regionT tcok hmix [] [0, 1, 4, 5, 6] [170002] (os := []) (s' := St.mk [(0, tp (V.vs xs n)), (1, tp (u8 half)), (4, tp (vb false)), (5, tp (V.ptr 170002 0)), (6, tp (u32 0))] [(170002, Blk.mk [V.val (Value.slice none 0 0), V.val (Value.slice none 0 0), V.val (Value.slice none 0 0), V.val (Value.slice none 0 0)] true 4 none)]) (by kernel_rfl) trivial ?_
  refine AWP.seq ?_
  refine AWP.seq ?_
  refine AWP.regionT tcok hmix [] [1, 4, 5, 6, 17, 18, 19] [170002] (os := []) (s' := St.mk [(1, tp (u8 half)), (4, tp (vb false)), (5, tp (V.ptr 170002 0)), (6, tp (u32 0)), (17, tp (V.vs xs n)), (18, tp (i64 (↑n : Int))), (19, tp (i64 0))] [(170002, Blk.mk [V.val (Value.slice none 0 0), V.val (Value.slice none 0 0), V.val (Value.slice none 0 0), V.val (Value.slice none 0 0)] true 4 none)]) (by kernel_rfl) trivial ?_
  refine AWP.block ?_
  refine AWP.wk 170002 3 (s' := St.mk [(1, tp (u8 half)), (4, tp (vb false)), (5, tp (V.ptr 170002 0)), (6, tp (u32 0)), (17, tp (V.vs xs n)), (18, tp (i64 (n : Int))), (19, tp (i64 0))] [(170002, Blk.mk [B8 [], B8 [], B8 [], nilS] true 4 none)]) (by kernel_rfl) ?_
  refine AWP.loopI [1, 5, 6, 17, 18, 19] [170002] (fun N s' => ∃ (a b c : List Int) (q i : Int), s' = St.mk [(1, tp (u8 half)), (5, tp (V.ptr 170002 0)), (6, tp (u32 q)), (17, tp (V.vs xs n)), (18, tp (i64 (n : Int))), (19, tp (i64 i))] [(170002, Blk.mk [B8 a, B8 b, B8 c, nilS] true 4 none)]
      ∧ (BL a ∧ BL b ∧ BL c ∧ a.length ≤ 1000 ∧ b.length ≤ 1000 ∧ c.length ≤ 1000) ∧ top3 a b c = q ∧ 0 ≤ q ∧ q ≤ i ∧ 0 ≤ i ∧ i ≤ n ∧ i ≤ 12 ∧ (N : Int) = n - i) n (s0 := St.mk [(1, tp (u8 half)), (5, tp (V.ptr 170002 0)), (6, tp (u32 0)), (17, tp (V.vs xs n)), (18, tp (i64 (n : Int))), (19, tp (i64 0))] [(170002, Blk.mk [B8 [], B8 [], B8 [], nilS] true 4 none)]) (by kernel_rfl) ?_ ?_
  · exact ⟨[], [], [], 0, 0, rfl, ⟨BL.nil, BL.nil, BL.nil, Nat.zero_le _, Nat.zero_le _, Nat.zero_le _⟩, rfl, by omega, by omega, by omega, by omega, by omega, by omega⟩
  rintro N s' ⟨a, b, c, q, i, rfl, ⟨ha, hb, hc, hla, hlb, hlc⟩, htop, hq, hqi, hi, hin, hi12, hN⟩
  by_cases hx1 : i < n
  case neg =>
    refine AWP.seq ?_
    refine AWP.regionT tcok hmix [] [1, 5, 6, 17, 18, 19, 20] [170002] (os := []) (s' := St.mk [(1, tp (u8 half)), (5, tp (V.ptr 170002 0)), (6, tp (u32 q)), (17, tp (V.vs xs n)), (18, tp (i64 (↑n : Int))), (19, tp (i64 i)), (20, tp (vb (decide (i < (↑n : Int)))))] [(170002, Blk.mk [B8 a, B8 b, B8 c, V.val (Value.slice none 0 0)] true 4 none)]) (by kernel_rfl) trivial ?_
    refine AWP.seq ?_
    refine AWP.cond (b := decide (i < (↑n : Int))) (by kernel_rfl) (fun hq1 => ?_) (fun hq1 => ?_)
    · simp only [decide_eq_true_eq] at hq1
      (exfalso; omega)
    simp only [decide_eq_false_iff_not] at hq1
    refine AWP.exit ?_
    refine AWP.seq ?_
    refine AWP.regionT tcok hmix [] [4] [] (os := []) (s' := St.mk [(4, tp (vb true))] []) (by kernel_rfl) trivial ?_
    refine AWP.ret ?_
    refine ⟨Or.inr rfl, Eq.trans (b := some ([], vb true)) (by kernel_rfl) ?_⟩
    first | rfl | (simp; done)
  obtain ⟨l, r, kx1, hl, hll⟩ := kx i.toNat (by omega)
  by_cases hx : i < 12
  case neg =>
    refine AWP.seq ?_
    refine AWP.regionT tcok hmix [] [1, 5, 6, 17, 18, 19, 20] [170002] (os := []) (s' := St.mk [(1, tp (u8 half)), (5, tp (V.ptr 170002 0)), (6, tp (u32 q)), (17, tp (V.vs xs n)), (18, tp (i64 (↑n : Int))), (19, tp (i64 i)), (20, tp (vb (decide (i < (↑n : Int)))))] [(170002, Blk.mk [B8 a, B8 b, B8 c, V.val (Value.slice none 0 0)] true 4 none)]) (by kernel_rfl) trivial ?_
    refine AWP.seq ?_
    refine AWP.cond (b := decide (i < (↑n : Int))) (by kernel_rfl) (fun hq2 => ?_) (fun hq2 => ?_)
    · simp only [decide_eq_true_eq] at hq2
      refine AWP.skip ?_
      refine AWP.seq ?_
      refine AWP.block ?_
      refine AWP.seq ?_
      refine AWP.regionT tcok hmix [(1, ⟨some (V.vp (B8 l :: r)), none⟩)] [1, 5, 6, 7, 8, 17, 18, 19] [170002] (os := [(0 : Int) ≤ i ∧ i < (↑n : Int), V.vp (List.drop (Int.toNat i * 1) xs) = V.vp (B8 l :: r)]) (s' := St.mk [(1, tp (u8 half)), (5, tp (V.ptr 170002 0)), (6, tp (u32 q)), (7, tp (i64 i)), (8, tp (B8 l)), (17, tp (V.vs xs n)), (18, tp (i64 (↑n : Int))), (19, tp (i64 i))] [(170002, Blk.mk [B8 a, B8 b, B8 c, V.val (Value.slice none 0 0)] true 4 none)]) (by kernel_rfl) ⟨(by omega), (congrArg V.vp kx1), trivial⟩ ?_
      refine AWP.seq ?_
      refine AWP.seq ?_
      refine AWP.regionT tcok hmix [] [1, 5, 6, 7, 8, 17, 18, 19, 25] [170002] (os := []) (s' := St.mk [(1, tp (u8 half)), (5, tp (V.ptr 170002 0)), (6, tp (u32 q)), (7, tp (i64 i)), (8, tp (B8 l)), (17, tp (V.vs xs n)), (18, tp (i64 (↑n : Int))), (19, tp (i64 i)), (25, tp (vb (decide (i ≥ 12))))] [(170002, Blk.mk [B8 a, B8 b, B8 c, V.val (Value.slice none 0 0)] true 4 none)]) (by kernel_rfl) trivial ?_
      refine AWP.cond (b := decide (i ≥ 12)) (by kernel_rfl) (fun hq3 => ?_) (fun hq3 => ?_)
      · simp only [decide_eq_true_eq] at hq3
        refine AWP.exit ?_
        refine AWP.seq ?_
        refine AWP.regionT tcok hmix [] [4] [] (os := []) (s' := St.mk [(4, tp (vb true))] []) (by kernel_rfl) trivial ?_
        refine AWP.ret ?_
        refine ⟨Or.inr rfl, Eq.trans (b := some ([], vb true)) (by kernel_rfl) ?_⟩
        first | rfl | (simp; done)
      simp only [decide_eq_false_iff_not] at hq3
      (exfalso; omega)
    simp only [decide_eq_false_iff_not] at hq2
    (exfalso; omega)
  obtain ⟨P, hP⟩ : ∃ P, l.take 60 = P := ⟨_, rfl⟩
  have hPb : BL P := by rw [← hP]; exact BL.take hl _
  have hPl : P.length ≤ 60 := by rw [← hP, List.length_take]; omega
  have hcut : Con Try.prog 18 [] [.vs (u8s l) l.length, i64 60] [(5, ⟨u8s P, true, 0, some (5, 1)⟩)] (.sl 5 0 P.length) := by
    rw [← hP]
    exact con_cut l 60 (by omega) (by omega) hll
  obtain ⟨C, hC⟩ : ∃ C, mk (q + 1) P = C := ⟨_, rfl⟩
  have cB : BL C := by rw [← hC]; exact mk_bl (by omega) hPb (by omega)
  have cL : C.length = P.length + 8 := by rw [← hC]; exact mk_len
  have cE0 : cE C = 0 := by rw [← hC]; exact mk_cE (by omega)
  have cN1 : cNo C = q + 1 := by rw [← hC]; exact mk_cNo (by omega) (by omega)
  have cP1 : cPo C = P := by rw [← hC]; exact mk_cPo (by omega)
  obtain ⟨ht1, ht2⟩ := top3_new htop hq cN1
  have g1 := con_gcopies a b c nilS (by omega) (by omega) (by omega)
  have g2 := con_gcopies C b c (B8 C) (by omega) (by omega) (by omega)
  have b1 := con_gbegin_y a b c ha hb hc (by omega) (by omega) (by omega) P P.length hPb rfl C (by rw [htop]; exact hC) (by omega) (by omega)
  have b2 := con_gbegin_s C b c cB hb hc (by omega) (by omega) (by omega) P P.length hPb rfl C (by omega) (by omega) (by omega)
  have rm := con_rmake (q + 1) (by omega) P P.length rfl hPb (by omega)
  rw [hC, ← cL] at rm
  have fi := con_gfinish C b c C (by omega) (by omega)
  have hv : vst [C, C, C] = (3, C) := by simp [vst, vnx, newer, cE0]
  have r1 := con_gread_y C C C cB cB cB (by omega) (by omega) (by omega) nilS C 3 hv (by omega)
  rw [cN1, cP1] at r1
  have gg := con_ggood3 C C C nilS cB cB cB (by omega) (by omega) (by omega) cE0 cE0 cE0
  refine AWP.seq ?_
  refine AWP.regionT tcok hmix [] [1, 5, 6, 17, 18, 19, 20] [170002] (os := []) (s' := St.mk [(1, tp (u8 half)), (5, tp (V.ptr 170002 0)), (6, tp (u32 q)), (17, tp (V.vs xs n)), (18, tp (i64 (↑n : Int))), (19, tp (i64 i)), (20, tp (vb (decide (i < (↑n : Int)))))] [(170002, Blk.mk [B8 a, B8 b, B8 c, V.val (Value.slice none 0 0)] true 4 none)]) (by kernel_rfl) trivial ?_
  refine AWP.seq ?_
  refine AWP.cond (b := decide (i < (↑n : Int))) (by kernel_rfl) (fun hq4 => ?_) (fun hq4 => ?_)
  · simp only [decide_eq_true_eq] at hq4
    refine AWP.skip ?_
    refine AWP.seq ?_
    refine AWP.block ?_
    refine AWP.seq ?_
    refine AWP.regionT tcok hmix [(1, ⟨some (V.vp (B8 l :: r)), none⟩)] [1, 5, 6, 7, 8, 17, 18, 19] [170002] (os := [(0 : Int) ≤ i ∧ i < (↑n : Int), V.vp (List.drop (Int.toNat i * 1) xs) = V.vp (B8 l :: r)]) (s' := St.mk [(1, tp (u8 half)), (5, tp (V.ptr 170002 0)), (6, tp (u32 q)), (7, tp (i64 i)), (8, tp (B8 l)), (17, tp (V.vs xs n)), (18, tp (i64 (↑n : Int))), (19, tp (i64 i))] [(170002, Blk.mk [B8 a, B8 b, B8 c, V.val (Value.slice none 0 0)] true 4 none)]) (by kernel_rfl) ⟨(by omega), (congrArg V.vp kx1), trivial⟩ ?_
    refine AWP.seq ?_
    refine AWP.seq ?_
    refine AWP.regionT tcok hmix [] [1, 5, 6, 7, 8, 17, 18, 19, 25] [170002] (os := []) (s' := St.mk [(1, tp (u8 half)), (5, tp (V.ptr 170002 0)), (6, tp (u32 q)), (7, tp (i64 i)), (8, tp (B8 l)), (17, tp (V.vs xs n)), (18, tp (i64 (↑n : Int))), (19, tp (i64 i)), (25, tp (vb (decide (i ≥ 12))))] [(170002, Blk.mk [B8 a, B8 b, B8 c, V.val (Value.slice none 0 0)] true 4 none)]) (by kernel_rfl) trivial ?_
    refine AWP.cond (b := decide (i ≥ 12)) (by kernel_rfl) (fun hq5 => ?_) (fun hq5 => ?_)
    · simp only [decide_eq_true_eq] at hq5
      (exfalso; omega)
    simp only [decide_eq_false_iff_not] at hq5
    refine AWP.skip ?_
    refine AWP.seq ?_
    refine AWP.regionT tcok hmix [(1, ⟨none, some ⟨V.sl 5 0 (List.length P), [(5, Blk.mk (u8s P) true 0 (some (5, 1)))], []⟩⟩)] [1, 5, 6, 7, 8, 17, 18, 19] [170002, 280005] (os := [Con Try.prog 18 [] [B8 l, i64 60] [(5, Blk.mk (u8s P) true 0 (some (5, 1)))] (V.sl 5 0 (List.length P))]) (s' := St.mk [(1, tp (u8 half)), (5, tp (V.ptr 170002 0)), (6, tp (u32 q)), (7, tp (i64 i)), (8, tp (V.sl 280005 0 (List.length P))), (17, tp (V.vs xs n)), (18, tp (i64 (↑n : Int))), (19, tp (i64 i))] [(170002, Blk.mk [B8 a, B8 b, B8 c, V.val (Value.slice none 0 0)] true 4 none), (280005, Blk.mk (u8s P) true 0 (some (5, 1)))]) (by kernel_rfl) ⟨(hcut ), trivial⟩ ?_
    refine AWP.seq ?_
    refine AWP.regionT tcok hmix [(1, ⟨some (V.tup [V.sl 1000000000 170002 0]), some ⟨V.sl 3 0 3, [(3, Blk.mk [B8 a, B8 b, B8 c] true 0 (some (29, 1))), (1000000000, Blk.mk [B8 a, B8 b, B8 c, nilS] true 4 none)], []⟩⟩)] [1, 5, 6, 7, 8, 9, 17, 18, 19] [170002, 280005, 300003] (os := [Con Try.prog 52 [(1000000000, Blk.mk [B8 a, B8 b, B8 c, V.val (Value.slice none 0 0)] true 4 none)] [V.ptr 1000000000 0] [(3, Blk.mk [B8 a, B8 b, B8 c] true 0 (some (29, 1))), (1000000000, Blk.mk [B8 a, B8 b, B8 c, V.val (Value.slice none 0 0)] true 4 none)] (V.sl 3 0 3)]) (s' := St.mk [(1, tp (u8 half)), (5, tp (V.ptr 170002 0)), (6, tp (u32 q)), (7, tp (i64 i)), (8, tp (V.sl 280005 0 (List.length P))), (9, tp (V.sl 300003 0 3)), (17, tp (V.vs xs n)), (18, tp (i64 (↑n : Int))), (19, tp (i64 i))] [(170002, Blk.mk [B8 a, B8 b, B8 c, V.val (Value.slice none 0 0)] true 4 none), (280005, Blk.mk (u8s P) true 0 (some (5, 1))), (300003, Blk.mk [B8 a, B8 b, B8 c] true 0 (some (29, 1)))]) (by kernel_rfl) ⟨(g1 ), trivial⟩ ?_
    refine AWP.seq ?_
    refine AWP.seq ?_
    refine AWP.frz 280005 (s' := St.mk [(1, tp (u8 half)), (5, tp (V.ptr 170002 0)), (6, tp (u32 q)), (7, tp (i64 i)), (8, tp (B8 P)), (9, tp (V.sl 300003 0 3)), (17, tp (V.vs xs n)), (18, tp (i64 (↑n : Int))), (19, tp (i64 i))] [(170002, Blk.mk [B8 a, B8 b, B8 c, V.val (Value.slice none 0 0)] true 4 none), (300003, Blk.mk [B8 a, B8 b, B8 c] true 0 (some (29, 1)))]) (by kernel_rfl) ?_
    refine AWP.regionT tcok hmix [(2, ⟨some (V.tup [V.sl 1000000000 170002 0]), some ⟨i64 0, [(1000000000, Blk.mk [B8 C, B8 b, B8 c, B8 C] true 4 none)], []⟩⟩), (6, ⟨none, some ⟨vb true, [], [(170002, true)]⟩⟩), (12, ⟨some (V.tup [V.sl 1000000000 170002 0]), some ⟨i64 7, [(1000000000, Blk.mk [B8 C, B8 b, B8 c, B8 C] true 4 none)], []⟩⟩)] [1, 5, 6, 7, 8, 9, 17, 18, 19, 44] [170002, 300003] (os := [Con Try.prog 45 [(1000000000, Blk.mk [B8 a, B8 b, B8 c, V.val (Value.slice none 0 0)] true 4 none)] [V.ptr 1000000000 0, B8 P] [(1000000000, Blk.mk [B8 C, B8 b, B8 c, B8 C] true 4 none)] (i64 0), false = false → VO (vb true) ∧ VOH [] ∧ Con Try.prog (49 : Nat) [] [V.vp [B8 C, B8 b, B8 c, B8 C]] [] (vb true) ∧ True, Con Try.prog 45 [(1000000000, Blk.mk [B8 C, B8 b, B8 c, B8 C] true 4 none)] [V.ptr 1000000000 0, B8 P] [(1000000000, Blk.mk [B8 C, B8 b, B8 c, B8 C] true 4 none)] (i64 7)]) (s' := St.mk [(1, tp (u8 half)), (5, tp (V.ptr 170002 0)), (6, tp (u32 q)), (7, tp (i64 i)), (8, tp (B8 P)), (9, tp (V.sl 300003 0 3)), (17, tp (V.vs xs n)), (18, tp (i64 (↑n : Int))), (19, tp (i64 i)), (44, tp (vb false))] [(170002, Blk.mk [B8 C, B8 b, B8 c, B8 C] true 4 none), (300003, Blk.mk [B8 a, B8 b, B8 c] true 0 (some (29, 1)))]) (by kernel_rfl) ⟨(b1 ), (by intro hc0; first | (cases hc0; done) | (try simp only [Bool.or_false, Bool.false_or, Bool.true_and, Bool.and_true, decide_eq_true_eq, decide_eq_false_iff_not, Bool.and_eq_true, Bool.or_eq_true, Bool.or_eq_false_iff, Bool.not_eq_true', Bool.and_eq_false_iff, beq_iff_eq, bne_iff_ne, bne_eq_false_iff_eq, beq_eq_false_iff_ne, Bool.not_eq_false'] at hc0; exact ⟨(VO.val _), trivial, (con_gpend_y (B8 C) (B8 b) (B8 c) (C) (by omega)), trivial⟩)), (b2 ), trivial⟩ ?_
    refine AWP.cond (b := false) (by kernel_rfl) (fun h => by cases h) (fun _ => ?_)
    refine AWP.skip ?_
    refine AWP.seq ?_
    refine AWP.regionT tcok hmix [(1, ⟨some (u32 (q + 1)), none⟩)] [1, 5, 6, 7, 8, 9, 17, 18, 19] [170002, 300003] (os := [u32 (IntKind.wrap IntKind.u32 (q + 1)) = u32 (q + 1)]) (s' := St.mk [(1, tp (u8 half)), (5, tp (V.ptr 170002 0)), (6, tp (u32 (q + 1))), (7, tp (i64 i)), (8, tp (B8 P)), (9, tp (V.sl 300003 0 3)), (17, tp (V.vs xs n)), (18, tp (i64 (↑n : Int))), (19, tp (i64 i))] [(170002, Blk.mk [B8 C, B8 b, B8 c, B8 C] true 4 none), (300003, Blk.mk [B8 a, B8 b, B8 c] true 0 (some (29, 1)))]) (by kernel_rfl) ⟨(wr_u32 (by omega) (by omega)), trivial⟩ ?_
    refine AWP.seq ?_
    refine AWP.regionT tcok hmix [(1, ⟨some (V.tup [V.sl 1000000000 170002 0]), some ⟨V.sl 3 0 3, [(3, Blk.mk [B8 C, B8 b, B8 c] true 0 (some (29, 1))), (1000000000, Blk.mk [B8 C, B8 b, B8 c, B8 C] true 4 none)], []⟩⟩)] [1, 5, 6, 7, 8, 9, 10, 17, 18, 19] [170002, 300003, 490003] (os := [Con Try.prog 52 [(1000000000, Blk.mk [B8 C, B8 b, B8 c, B8 C] true 4 none)] [V.ptr 1000000000 0] [(3, Blk.mk [B8 C, B8 b, B8 c] true 0 (some (29, 1))), (1000000000, Blk.mk [B8 C, B8 b, B8 c, B8 C] true 4 none)] (V.sl 3 0 3)]) (s' := St.mk [(1, tp (u8 half)), (5, tp (V.ptr 170002 0)), (6, tp (u32 (q + 1))), (7, tp (i64 i)), (8, tp (B8 P)), (9, tp (V.sl 300003 0 3)), (10, tp (V.sl 490003 0 3)), (17, tp (V.vs xs n)), (18, tp (i64 (↑n : Int))), (19, tp (i64 i))] [(170002, Blk.mk [B8 C, B8 b, B8 c, B8 C] true 4 none), (300003, Blk.mk [B8 a, B8 b, B8 c] true 0 (some (29, 1))), (490003, Blk.mk [B8 C, B8 b, B8 c] true 0 (some (29, 1)))]) (by kernel_rfl) ⟨(g2 ), trivial⟩ ?_
    refine AWP.seq ?_
    refine AWP.seq ?_
    refine AWP.regionT tcok hmix [(5, ⟨none, some ⟨V.sl 260003 0 (List.length C), [(260003, Blk.mk (u8s C) true 0 (some (5, 1)))], []⟩⟩), (6, ⟨none, some ⟨vb (decide (C = C)), [], [(810003, true)]⟩⟩), (15, ⟨none, some ⟨vb (decide (b = b)), [], []⟩⟩), (25, ⟨none, some ⟨vb (decide (c = c)), [], []⟩⟩)] [1, 5, 6, 7, 8, 17, 18, 19, 76] [170002] (os := [Con Try.prog 35 [] [u32 (q + 1), B8 P] [(260003, Blk.mk (u8s C) true 0 (some (5, 1)))] (V.sl 260003 0 (List.length C)), VO (vb (decide (C = C))), VOH [], Con Try.prog 23 [] [B8 C, B8 C] [] (vb (decide (C = C))), (0 : Nat) = (0 : Nat), List.length C * (1 : Nat) = List.length (u8s C), (!decide (C = C)) = false → Con Try.prog (23 : Nat) [] [B8 b, B8 b] [] (vb (decide (b = b))) ∧ True, (!decide (C = C) || !decide (b = b)) = false → Con Try.prog (23 : Nat) [] [B8 c, B8 c] [] (vb (decide (c = c))) ∧ True]) (s' := St.mk [(1, tp (u8 half)), (5, tp (V.ptr 170002 0)), (6, tp (u32 (q + 1))), (7, tp (i64 i)), (8, tp (B8 P)), (17, tp (V.vs xs n)), (18, tp (i64 (↑n : Int))), (19, tp (i64 i)), (76, tp (vb (!decide (C = C) || !decide (b = b) || !decide (c = c))))] [(170002, Blk.mk [B8 C, B8 b, B8 c, B8 C] true 4 none)]) (by kernel_rfl) ⟨(rm ), (VO.val _), trivial, (con_samen (C) (C) (List.length C) (List.length C) (by omega) (by omega) (by omega) (by omega)), (by omega), (by (simp [len_u8s]; done)), (by intro hc0; first | (cases hc0; done) | (try simp only [Bool.or_false, Bool.false_or, Bool.true_and, Bool.and_true, decide_eq_true_eq, decide_eq_false_iff_not, Bool.and_eq_true, Bool.or_eq_true, Bool.or_eq_false_iff, Bool.not_eq_true', Bool.and_eq_false_iff, beq_iff_eq, bne_iff_ne, bne_eq_false_iff_eq, beq_eq_false_iff_ne, Bool.not_eq_false'] at hc0; exact ⟨(con_samen (b) (b) (List.length b) (List.length b) (by omega) (by omega) (by omega) (by omega)), trivial⟩)), (by intro hc0; first | (cases hc0; done) | (try simp only [Bool.or_false, Bool.false_or, Bool.true_and, Bool.and_true, decide_eq_true_eq, decide_eq_false_iff_not, Bool.and_eq_true, Bool.or_eq_true, Bool.or_eq_false_iff, Bool.not_eq_true', Bool.and_eq_false_iff, beq_iff_eq, bne_iff_ne, bne_eq_false_iff_eq, beq_eq_false_iff_ne, Bool.not_eq_false'] at hc0; exact ⟨(con_samen (c) (c) (List.length c) (List.length c) (by omega) (by omega) (by omega) (by omega)), trivial⟩)), trivial⟩ ?_
    refine AWP.cond (b := !decide (C = C) || !decide (b = b) || !decide (c = c)) (by kernel_rfl) (fun hq7 => ?_) (fun hq7 => ?_)
    · simp only [decide_eq_false_iff_not, Bool.or_eq_true, Bool.not_eq_true'] at hq7
      (simp [bl] at hq7; done)
    simp only [decide_eq_true_eq, Bool.or_eq_false_iff, Bool.not_eq_false'] at hq7
    refine AWP.skip ?_
    refine AWP.seq ?_
    refine AWP.seq ?_
    refine AWP.regionT tcok hmix [(1, ⟨some (u8 (half % 13)), none⟩), (2, ⟨some (i64 (half % 13)), none⟩)] [1, 5, 6, 8, 17, 18, 19, 81] [170002] (os := [(13 : Int) ≠ (0 : Int), u8 (Int.tmod half 13) = u8 (half % 13), i64 (IntKind.wrap IntKind.i64 (half % 13)) = i64 (half % 13)]) (s' := St.mk [(1, tp (u8 half)), (5, tp (V.ptr 170002 0)), (6, tp (u32 (q + 1))), (8, tp (B8 P)), (17, tp (V.vs xs n)), (18, tp (i64 (↑n : Int))), (19, tp (i64 i)), (81, tp (vb (half % 13 == i)))] [(170002, Blk.mk [B8 C, B8 b, B8 c, B8 C] true 4 none)]) (by kernel_rfl) ⟨(by omega), (tm_ (by omega)), (wr_i64 (by omega) (by omega)), trivial⟩ ?_
    refine AWP.cond (b := half % 13 == i) (by kernel_rfl) (fun hq8 => ?_) (fun hq8 => ?_)
    · simp only [beq_iff_eq] at hq8
      refine AWP.seq ?_
      refine AWP.regionT tcok hmix [(1, ⟨some (V.tup [V.sl 1000000000 170002 0]), some ⟨V.tup [], [(1000000000, Blk.mk [B8 C, B8 b, B8 c, nilS] true 4 none)], []⟩⟩)] [1, 5, 6, 8, 17, 18, 19] [170002] (os := [Con Try.prog 54 [(1000000000, Blk.mk [B8 C, B8 b, B8 c, B8 C] true 4 none)] [V.ptr 1000000000 0] [(1000000000, Blk.mk [B8 C, B8 b, B8 c, V.val (Value.slice none 0 0)] true 4 none)] (V.tup [])]) (s' := St.mk [(1, tp (u8 half)), (5, tp (V.ptr 170002 0)), (6, tp (u32 (q + 1))), (8, tp (B8 P)), (17, tp (V.vs xs n)), (18, tp (i64 (↑n : Int))), (19, tp (i64 i))] [(170002, Blk.mk [B8 C, B8 b, B8 c, V.val (Value.slice none 0 0)] true 4 none)]) (by kernel_rfl) ⟨(con_greset (B8 C) (B8 b) (B8 c) (B8 C)), trivial⟩ ?_
      refine AWP.seq ?_
      refine AWP.seq ?_
      refine AWP.regionT tcok hmix [(1, ⟨some (V.tup [V.sl 1000000000 170002 0]), some ⟨i64 7, [(1000000000, Blk.mk [B8 C, B8 b, B8 c, nilS] true 4 none)], []⟩⟩)] [1, 5, 6, 8, 17, 18, 19, 86] [170002] (os := [Con Try.prog 55 [(1000000000, Blk.mk [B8 C, B8 b, B8 c, V.val (Value.slice none 0 0)] true 4 none)] [V.ptr 1000000000 0] [(1000000000, Blk.mk [B8 C, B8 b, B8 c, V.val (Value.slice none 0 0)] true 4 none)] (i64 7)]) (s' := St.mk [(1, tp (u8 half)), (5, tp (V.ptr 170002 0)), (6, tp (u32 (q + 1))), (8, tp (B8 P)), (17, tp (V.vs xs n)), (18, tp (i64 (↑n : Int))), (19, tp (i64 i)), (86, tp (vb false))] [(170002, Blk.mk [B8 C, B8 b, B8 c, V.val (Value.slice none 0 0)] true 4 none)]) (by kernel_rfl) ⟨(con_gfinish_n (B8 C) (B8 b) (B8 c)), trivial⟩ ?_
      refine AWP.cond (b := false) (by kernel_rfl) (fun h => by cases h) (fun _ => ?_)
      refine AWP.skip ?_
      refine AWP.exit ?_
      refine AWP.region tcok hmix [(0, ⟨some (i64 (i + 1)), none⟩)] (os := [i64 (IntKind.wrap IntKind.i64 (i + 1)) = i64 (i + 1)]) (sf := St.mk [(1, tp (u8 half)), (5, tp (V.ptr 170002 0)), (6, tp (u32 (q + 1))), (8, tp (B8 P)), (17, tp (V.vs xs n)), (18, tp (i64 (↑n : Int))), (19, tp (i64 (i + 1))), (86, tp (vb false)), (120, tp (i64 (i + 1)))] [(170002, Blk.mk [B8 C, B8 b, B8 c, V.val (Value.slice none 0 0)] true 4 none)]) (by kernel_rfl) ⟨(wr_i64 (by omega) (by omega)), trivial⟩ ?_
      refine ⟨St.mk [(1, tp (u8 half)), (5, tp (V.ptr 170002 0)), (6, tp (u32 (q + 1))), (17, tp (V.vs xs n)), (18, tp (i64 (↑n : Int))), (19, tp (i64 (i + 1)))] [(170002, Blk.mk [B8 C, B8 b, B8 c, V.val (Value.slice none 0 0)] true 4 none)], by kernel_rfl, ?_⟩
      first | (exact ⟨(n - (i + 1)).toNat, (by omega), C, b, c, q + 1, i + 1, rfl, ⟨cB, hb, hc, (by omega), hlb, hlc⟩, ht1, (by omega), (by omega), (by omega), (by omega), (by omega), (by omega)⟩) | (exact ⟨(n - (i + 1)).toNat, (by omega), C, C, C, q + 1, i + 1, rfl, ⟨cB, cB, cB, (by omega), (by omega), (by omega)⟩, ht2, (by omega), (by omega), (by omega), (by omega), (by omega), (by omega)⟩)
    simp only [beq_eq_false_iff_ne] at hq8
    refine AWP.skip ?_
    refine AWP.seq ?_
    refine AWP.regionT tcok hmix [(1, ⟨some (V.tup [V.sl 1000000000 170002 0]), some ⟨i64 0, [(1000000000, Blk.mk [B8 C, B8 C, B8 C, nilS] true 4 none)], []⟩⟩)] [1, 5, 6, 8, 11, 12, 13, 17, 18, 19] [170002, 12] (os := [Con Try.prog 55 [(1000000000, Blk.mk [B8 C, B8 b, B8 c, B8 C] true 4 none)] [V.ptr 1000000000 0] [(1000000000, Blk.mk [B8 C, B8 C, B8 C, V.val (Value.slice none 0 0)] true 4 none)] (i64 0)]) (s' := St.mk [(1, tp (u8 half)), (5, tp (V.ptr 170002 0)), (6, tp (u32 (q + 1))), (8, tp (B8 P)), (11, tp (u32 0)), (12, tp (V.sl 12 0 0)), (13, tp (i64 0)), (17, tp (V.vs xs n)), (18, tp (i64 (↑n : Int))), (19, tp (i64 i))] [(12, Blk.mk [] true 0 (some (5, 1))), (170002, Blk.mk [B8 C, B8 C, B8 C, V.val (Value.slice none 0 0)] true 4 none)]) (by kernel_rfl) ⟨(fi ), trivial⟩ ?_
    refine AWP.seq ?_
    refine AWP.seq ?_
    refine AWP.regionT tcok hmix [] [1, 5, 6, 8, 11, 12, 13, 17, 18, 19, 90] [170002, 12] (os := []) (s' := St.mk [(1, tp (u8 half)), (5, tp (V.ptr 170002 0)), (6, tp (u32 (q + 1))), (8, tp (B8 P)), (11, tp (u32 0)), (12, tp (V.sl 12 0 0)), (13, tp (i64 0)), (17, tp (V.vs xs n)), (18, tp (i64 (↑n : Int))), (19, tp (i64 i)), (90, tp (vb true))] [(12, Blk.mk [] true 0 (some (5, 1))), (170002, Blk.mk [B8 C, B8 C, B8 C, V.val (Value.slice none 0 0)] true 4 none)]) (by kernel_rfl) trivial ?_
    refine AWP.cond (b := true) (by kernel_rfl) (fun _ => ?_) (fun h => by cases h)
    refine AWP.keep' [1, 5, 6, 8, 17, 18, 19] [170002] (sf := St.mk [(1, tp (u8 half)), (5, tp (V.ptr 170002 0)), (6, tp (u32 (q + 1))), (8, tp (B8 P)), (17, tp (V.vs xs n)), (18, tp (i64 (↑n : Int))), (19, tp (i64 i))] [(170002, Blk.mk [B8 C, B8 C, B8 C, V.val (Value.slice none 0 0)] true 4 none)]) (by kernel_rfl) ?_
    refine AWP.regionT tcok hmix [(1, ⟨none, some ⟨V.tup [u32 (q + 1), V.sl 1210005 0 (List.length P), i64 0], [(1210005, Blk.mk (u8s P) true 0 (some (5, 1)))], [(170002, true)]⟩⟩)] [1, 5, 6, 8, 11, 12, 13, 17, 18, 19] [170002, 2150005] (os := [VO (V.tup [u32 (q + (1 : Int)), V.sl (1210005 : Nat) (0 : Nat) (List.length P), i64 (0 : Int)]), VOH [((1210005 : Nat), Blk.mk (u8s P) true (0 : Nat) (some ((5 : Nat), (1 : Nat))))], Con Try.prog 47 [] [V.vp [B8 C, B8 C, B8 C, V.val (Value.slice none 0 0)]] [(1210005, Blk.mk (u8s P) true 0 (some (5, 1)))] (V.tup [u32 (q + 1), V.sl 1210005 0 (List.length P), i64 0])]) (s' := St.mk [(1, tp (u8 half)), (5, tp (V.ptr 170002 0)), (6, tp (u32 (q + 1))), (8, tp (B8 P)), (11, tp (u32 (q + 1))), (12, tp (V.sl 2150005 0 (List.length P))), (13, tp (i64 0)), (17, tp (V.vs xs n)), (18, tp (i64 (↑n : Int))), (19, tp (i64 i))] [(170002, Blk.mk [B8 C, B8 C, B8 C, V.val (Value.slice none 0 0)] true 4 none), (2150005, Blk.mk (u8s P) true 0 (some (5, 1)))]) (by kernel_rfl) ⟨(VO.tup (VOL.cons (VO.val _) (VOL.cons (VO.sl _ _ _) (VOL.cons (VO.val _) VOL.nil)))), ⟨(VOL.u8s _), trivial⟩, (r1 ), trivial⟩ ?_
    refine AWP.seq ?_
    refine AWP.regionT tcok hmix [(10, ⟨none, some ⟨vb (decide (P = P)), [], [(2150005, true)]⟩⟩), (15, ⟨none, some ⟨vb false, [], [(170002, true)]⟩⟩), (19, ⟨none, some ⟨u16 7, [], [(170002, true)]⟩⟩), (20, ⟨none, some ⟨i64 3, [], []⟩⟩)] [1, 5, 6, 17, 18, 19, 119] [170002] (os := [(false || q + (1 : Int) != q + (1 : Int)) = false → VO (vb (decide (P = P))) ∧ VOH [] ∧ Con Try.prog (23 : Nat) [] [B8 P, B8 P] [] (vb (decide (P = P))) ∧ (0 : Nat) = (0 : Nat) ∧ List.length P * (1 : Nat) = List.length (u8s P) ∧ True, (false || q + (1 : Int) != q + (1 : Int) || !decide (P = P)) = false → VO (vb false) ∧ VOH [] ∧ Con Try.prog (49 : Nat) [] [V.vp [B8 C, B8 C, B8 C, V.val (Value.slice none (0 : Nat) (0 : Nat))]] [] (vb false) ∧ True, (false || q + (1 : Int) != q + (1 : Int) || !decide (P = P) || false) = false → VO (u16 (7 : Int)) ∧ VOH [] ∧ Con Try.prog (56 : Nat) [] [V.vp [B8 C, B8 C, B8 C, V.val (Value.slice none (0 : Nat) (0 : Nat))]] [] (u16 (7 : Int)) ∧ True, (false || q + (1 : Int) != q + (1 : Int) || !decide (P = P) || false) = false → Con Try.prog (57 : Nat) [] [u16 (7 : Int)] [] (i64 (3 : Int)) ∧ True]) (s' := St.mk [(1, tp (u8 half)), (5, tp (V.ptr 170002 0)), (6, tp (u32 (q + 1))), (17, tp (V.vs xs n)), (18, tp (i64 (↑n : Int))), (19, tp (i64 i)), (119, tp (vb (false || q + 1 != q + 1 || !decide (P = P) || false || false)))] [(170002, Blk.mk [B8 C, B8 C, B8 C, V.val (Value.slice none 0 0)] true 4 none)]) (by kernel_rfl) ⟨(by intro hc0; first | (cases hc0; done) | (try simp only [Bool.or_false, Bool.false_or, Bool.true_and, Bool.and_true, decide_eq_true_eq, decide_eq_false_iff_not, Bool.and_eq_true, Bool.or_eq_true, Bool.or_eq_false_iff, Bool.not_eq_true', Bool.and_eq_false_iff, beq_iff_eq, bne_iff_ne, bne_eq_false_iff_eq, beq_eq_false_iff_ne, Bool.not_eq_false'] at hc0; exact ⟨(VO.val _), trivial, (con_samen (P) (P) (List.length P) (List.length P) (by omega) (by omega) (by omega) (by omega)), (by omega), (by (simp [len_u8s]; done)), trivial⟩)), (fun _ => ⟨(VO.val _), trivial, (con_gpend_n (B8 C) (B8 C) (B8 C)), trivial⟩), (fun _ => ⟨(VO.val _), trivial, (gg ), trivial⟩), (fun _ => ⟨(con_count7 ), trivial⟩), trivial⟩ ?_
    refine AWP.cond (b := false || q + 1 != q + 1 || !decide (P = P) || false || false) (by kernel_rfl) (fun hq11 => ?_) (fun hq11 => ?_)
    · simp only [Bool.or_false, Bool.false_or, decide_eq_false_iff_not, Bool.or_eq_true, Bool.not_eq_true', bne_iff_ne] at hq11
      (simp [bl] at hq11; done)
    simp only [Bool.or_false, Bool.false_or, decide_eq_true_eq, Bool.or_eq_false_iff, bne_eq_false_iff_eq, Bool.not_eq_false'] at hq11
    refine AWP.skip ?_
    refine AWP.region tcok hmix [(0, ⟨some (i64 (i + 1)), none⟩)] (os := [i64 (IntKind.wrap IntKind.i64 (i + 1)) = i64 (i + 1)]) (sf := St.mk [(1, tp (u8 half)), (5, tp (V.ptr 170002 0)), (6, tp (u32 (q + 1))), (17, tp (V.vs xs n)), (18, tp (i64 (↑n : Int))), (19, tp (i64 (i + 1))), (119, tp (vb (false || q + 1 != q + 1 || !decide (P = P) || false || false))), (120, tp (i64 (i + 1)))] [(170002, Blk.mk [B8 C, B8 C, B8 C, V.val (Value.slice none 0 0)] true 4 none)]) (by kernel_rfl) ⟨(wr_i64 (by omega) (by omega)), trivial⟩ ?_
    refine ⟨St.mk [(1, tp (u8 half)), (5, tp (V.ptr 170002 0)), (6, tp (u32 (q + 1))), (17, tp (V.vs xs n)), (18, tp (i64 (↑n : Int))), (19, tp (i64 (i + 1)))] [(170002, Blk.mk [B8 C, B8 C, B8 C, V.val (Value.slice none 0 0)] true 4 none)], by kernel_rfl, ?_⟩
    first | (exact ⟨(n - (i + 1)).toNat, (by omega), C, b, c, q + 1, i + 1, rfl, ⟨cB, hb, hc, (by omega), hlb, hlc⟩, ht1, (by omega), (by omega), (by omega), (by omega), (by omega), (by omega)⟩) | (exact ⟨(n - (i + 1)).toNat, (by omega), C, C, C, q + 1, i + 1, rfl, ⟨cB, cB, cB, (by omega), (by omega), (by omega)⟩, ht2, (by omega), (by omega), (by omega), (by omega), (by omega), (by omega)⟩)
  simp only [decide_eq_false_iff_not] at hq4
  (exfalso; omega)
theorem lists_of {w : V} (hw : TyV tc 9 40 w) : ∃ (xs : List V) (n : Nat), w = .vs xs n ∧ n ≤ 9223372036854775807 ∧ ∀ i : Nat, i < n → ∃ (l : List Int) (r : List V), xs.drop (i * 1) = .vs (u8s l) l.length :: r ∧ BL l ∧ l.length ≤ 9223372036854775807 := by
  obtain ⟨xs, n, e1, hn, h1⟩ := hw
  cases e1
  refine ⟨xs, n, rfl, hn, fun i hi => ?_⟩
  obtain ⟨r, rest, hr, h2⟩ := rows_drop (k := 1) (fun r hr => by obtain ⟨cs, m, rfl, _, _⟩ := hr; rfl) h1 i hi
  obtain ⟨cs, m, rfl, hm, h3⟩ := hr
  obtain ⟨l, rfl, rfl, hl⟩ := bytes_rows (fun r hr => by obtain ⟨z, rfl, z1, z2⟩ := hr; exact ⟨z, rfl, z1, Int.lt_add_one_of_le z2⟩) h3
  exact ⟨l, rest, h2, hl, hm⟩
theorem law_GuardNumbers (w half : V) (hw : TyV tc 9 40 w) (hh : TyV tc 9 5 half) : Con Try.prog 13 [] [w, half] [] (vb true) := by
  obtain ⟨xs, n, rfl, hn, kx⟩ := lists_of hw
  obtain ⟨h, e2, h1, h2⟩ := hh
  cases e2
  exact num7 xs n h hn ⟨h1, Int.lt_add_one_of_le h2⟩ kx
end Go.Proofs.Ytmeiemdnhjnpcaa
