/- Chapter 6: CellVotes. -/
import Derived.Test.YtmeiemdnhjnpcaaCelR
namespace Go.Proofs.Ytmeiemdnhjnpcaa
open Go.Ab
set_option linter.unusedSimpArgs false
set_option linter.unusedVariables false
set_option maxHeartbeats 4000000
theorem ishr_u8_bd (a c : Int) (h : 0 ≤ a ∧ a < 256) : 0 ≤ ishr .u8 a c ∧ ishr .u8 a c < 256 := by
  unfold ishr
  have hp : (0 : Int) < 2 ^ (min c.toNat (IntKind.bits .u8)) := Int.pow_pos (by omega)
  rw [Int.fdiv_eq_ediv_of_nonneg _ (by omega)]
  have h1 := Int.ediv_nonneg h.1 (b := 2 ^ (min c.toNat (IntKind.bits .u8))) (by omega)
  have h2 := Int.ediv_le_self (2 ^ (min c.toNat (IntKind.bits .u8))) h.1
  omega
theorem LLsn (ls : List (List Int)) (X : List Int) : LL (ls ++ [X]) = LL ls ++ [.vs (u8s X) X.length] := by simp [LL]
theorem votes6 (xs ss : List V) (n m : Nat) (w sp : Int) (hn : n ≤ 9223372036854775807) (hm : m ≤ 9223372036854775807) (hw : 0 ≤ w ∧ w < 256) (hsp : 0 ≤ sp ∧ sp < 256) (kx : ∀ i : Nat, i < n → ∃ (l : List Int) (r : List V), xs.drop (i * 1) = .vs (u8s l) l.length :: r ∧ BL l ∧ l.length ≤ 9223372036854775807) (ky : ∀ i : Nat, i < m → ∃ (x : Int) (r : List V), ss.drop (i * 1) = u32 x :: r ∧ 0 ≤ x ∧ x < 4294967296) : Con Try.prog 8 [] [.vs xs n, .vs ss m, u8 w, u8 sp] [] (vb true) := by
  have haw := con_awake6
  refine Con.of (C := ⟨Try.prog, tc, Try.f8.ntmps⟩) [] tcok Try.func8 rfl rfl (by kernel_rfl) (by kernel_rfl) ?_
  refine AWP.seq ?_
  refine AWP.regionT tcok hmix [] [0, 1, 2, 3, 8] [] (os := []) (s' := St.mk [(0, tp (V.vs xs n)), (1, tp (V.vs ss m)), (2, tp (u8 w)), (3, tp (u8 sp)), (8, tp (vb false))] []) (by kernel_rfl) trivial ?_
  refine AWP.seq ?_
  refine AWP.seq ?_
  refine AWP.regionT tcok hmix [(0, ⟨none, some ⟨vb true, [], []⟩⟩)] [0, 1, 2, 3, 8, 30] [] (os := [Con Try.prog 31 [] [] [] (vb true)]) (s' := St.mk [(0, tp (V.vs xs n)), (1, tp (V.vs ss m)), (2, tp (u8 w)), (3, tp (u8 sp)), (8, tp (vb false)), (30, tp (vb false))] []) (by kernel_rfl) ⟨(haw ), trivial⟩ ?_
  refine AWP.cond (b := false) (by kernel_rfl) (fun h => by cases h) (fun _ => ?_)
  refine AWP.skip ?_
  refine AWP.seq ?_
  refine AWP.regionT tcok hmix [] [0, 1, 2, 3, 8, 9] [9] (os := []) (s' := St.mk [(0, tp (V.vs xs n)), (1, tp (V.vs ss m)), (2, tp (u8 w)), (3, tp (u8 sp)), (8, tp (vb false)), (9, tp (V.sl 9 0 0))] [(9, Blk.mk [] true 0 (some (29, 1)))]) (by kernel_rfl) trivial ?_
  refine AWP.seq ?_
  refine AWP.seq ?_
  refine AWP.regionT tcok hmix [] [0, 1, 2, 3, 8, 9, 10] [9] (os := []) (s' := St.mk [(0, tp (V.vs xs n)), (1, tp (V.vs ss m)), (2, tp (u8 w)), (3, tp (u8 sp)), (8, tp (vb false)), (9, tp (V.sl 9 0 0)), (10, tp (i64 0))] [(9, Blk.mk [] true 0 (some (29, 1)))]) (by kernel_rfl) trivial ?_
  refine AWP.block ?_
  refine AWP.loopI [0, 1, 2, 3, 8, 9, 10] [9] (fun N s' => ∃ (ls : List (List Int)) (i : Int), s' = St.mk [(0, tp (V.vs xs n)), (1, tp (V.vs ss m)), (2, tp (u8 w)), (3, tp (u8 sp)), (8, tp (vb false)), (9, tp (V.sl 9 0 ls.length)), (10, tp (i64 i))] [(9, Blk.mk (LL ls) true 0 (some (29, 1)))]
      ∧ (ls.length : Int) = i ∧ (∀ x ∈ ls, BL x ∧ x.length ≤ 60) ∧ 0 ≤ i ∧ i ≤ 4 ∧ (N : Int) = 4 - i) 4 (s0 := St.mk [(0, tp (V.vs xs n)), (1, tp (V.vs ss m)), (2, tp (u8 w)), (3, tp (u8 sp)), (8, tp (vb false)), (9, tp (V.sl 9 0 0)), (10, tp (i64 0))] [(9, Blk.mk [] true 0 (some (29, 1)))]) (by kernel_rfl) ?_ ?_
  · exact ⟨[], 0, rfl, rfl, fun x hx => by simp at hx, by omega, by omega, by omega⟩
  rintro N s' ⟨ls, i, rfl, hlen, hls, hi, hin, hN⟩
  by_cases hx1 : i < 4 ∧ i < n
  case pos =>
    obtain ⟨hx4, hxn⟩ := hx1
    obtain ⟨c, r, kx1, hc, hcl⟩ := kx i.toNat (by omega)
    obtain ⟨X, hX⟩ : ∃ X, c.take 40 = X := ⟨_, rfl⟩
    have hXb : BL X := by rw [← hX]; exact BL.take hc _
    have hXl : X.length ≤ 40 := by rw [← hX, List.length_take]; omega
    have hcut : Con Try.prog 18 [] [.vs (u8s c) c.length, i64 40] [(5, ⟨u8s X, true, 0, some (5, 1)⟩)] (.sl 5 0 X.length) := by
      rw [← hX]
      exact con_cut c 40 (by omega) (by omega) hcl
    have hLL : (LL ls).length = ls.length := by simp [LL]
    have hwz := ishr_u8_bd w i hw
    obtain ⟨wz, wfw⟩ : ∃ z, ishr .u8 w i = z := ⟨_, rfl⟩
    rw [wfw] at hwz
    have hsz := ishr_u8_bd sp i hsp
    obtain ⟨sz, wfs⟩ : ∃ z, ishr .u8 sp i = z := ⟨_, rfl⟩
    rw [wfs] at hsz
    have key : ∃ (q : Int) (r : List V), (i < m → ss.drop (i.toNat * 1) = u32 q :: r) ∧ 0 ≤ q ∧ q < 4294967296 := by
      by_cases h : i < m
      · obtain ⟨q, r, h1, h2⟩ := ky i.toNat (by omega)
        exact ⟨q, r, fun _ => h1, h2⟩
      · exact ⟨0, [], fun h' => absurd h' h, by omega, by omega⟩
    obtain ⟨q, rq, ky1, hq⟩ := key
    have hq : 0 ≤ q ∧ q < 4294967296 := hq
    obtain ⟨C, hC⟩ : ∃ C, mk q X = C := ⟨_, rfl⟩
    have cB : BL C := by rw [← hC]; exact mk_bl hq hXb (by omega)
    have cL : C.length = X.length + 8 := by rw [← hC]; exact mk_len
    have hrm := con_rmake q hq X X.length rfl hXb (by omega)
    rw [hC, ← cL] at hrm
    obtain ⟨Y, wl⟩ : ∃ Y, C.set (0 + Int.toNat ((C.length : Int) / 2) * 1) (ixor .u8 (C.getD (0 + Int.toNat ((C.length : Int) / 2) * 1) 0) 1) = Y := ⟨_, rfl⟩
    have yl : Y.length = C.length := by rw [← wl, List.length_set]
    have yB : BL Y := by rw [← wl]; exact BL.set cB (ixor_u8_bd _ _)
    have nx : (ls ++ [X] ++ [Y] ++ [C]).length = ls.length + 3 := by simp
    refine AWP.seq ?_
    refine AWP.seq ?_
    refine AWP.regionT tcok hmix [] [0, 1, 2, 3, 8, 9, 10, 38] [9] (os := []) (s' := St.mk [(0, tp (V.vs xs n)), (1, tp (V.vs ss m)), (2, tp (u8 w)), (3, tp (u8 sp)), (8, tp (vb false)), (9, tp (V.sl 9 0 (List.length ls))), (10, tp (i64 i)), (38, tp (vb (decide (i < 4) && decide (i < (↑n : Int)))))] [(9, Blk.mk (LL ls) true 0 (some (29, 1)))]) (by kernel_rfl) trivial ?_
    refine AWP.cond (b := decide (i < 4) && decide (i < (↑n : Int))) (by kernel_rfl) (fun hq1 => ?_) (fun hq1 => ?_)
    · simp only [decide_eq_true_eq, Bool.and_eq_true] at hq1
      refine AWP.skip ?_
      refine AWP.seq ?_
      refine AWP.block ?_
      refine AWP.seq ?_
      refine AWP.regionT tcok hmix [(2, ⟨some (V.vp (B8 c :: r)), none⟩), (4, ⟨none, some ⟨V.sl 5 0 (List.length X), [(5, Blk.mk (u8s X) true 0 (some (5, 1)))], []⟩⟩)] [0, 1, 2, 3, 8, 9, 10, 11] [9, 460005] (os := [(0 : Int) ≤ i ∧ i < (↑n : Int), V.vp (List.drop (Int.toNat i * 1) xs) = V.vp (B8 c :: r), Con Try.prog 18 [] [B8 c, i64 40] [(5, Blk.mk (u8s X) true 0 (some (5, 1)))] (V.sl 5 0 (List.length X))]) (s' := St.mk [(0, tp (V.vs xs n)), (1, tp (V.vs ss m)), (2, tp (u8 w)), (3, tp (u8 sp)), (8, tp (vb false)), (9, tp (V.sl 9 0 (List.length ls))), (10, tp (i64 i)), (11, tp (V.sl 460005 0 (List.length X)))] [(9, Blk.mk (LL ls) true 0 (some (29, 1))), (460005, Blk.mk (u8s X) true 0 (some (5, 1)))]) (by kernel_rfl) ⟨(by omega), (congrArg V.vp kx1), (hcut ), trivial⟩ ?_
      refine AWP.seq ?_
      refine AWP.seq ?_
      refine AWP.regionT tcok hmix [(2, ⟨some (u8 wz), none⟩), (3, ⟨some (u8 (wz % 2)), none⟩)] [0, 1, 2, 3, 8, 9, 10, 11, 56] [9, 460005] (os := [(0 : Int) ≤ i, u8 (ishr IntKind.u8 w i) = u8 wz, (2 : Int) ≠ (0 : Int), u8 (Int.tmod wz 2) = u8 (wz % 2)]) (s' := St.mk [(0, tp (V.vs xs n)), (1, tp (V.vs ss m)), (2, tp (u8 w)), (3, tp (u8 sp)), (8, tp (vb false)), (9, tp (V.sl 9 0 (List.length ls))), (10, tp (i64 i)), (11, tp (V.sl 460005 0 (List.length X))), (56, tp (vb (wz % 2 == 1 && decide (i < (↑m : Int)))))] [(9, Blk.mk (LL ls) true 0 (some (29, 1))), (460005, Blk.mk (u8s X) true 0 (some (5, 1)))]) (by kernel_rfl) ⟨(by omega), (in_eq wfw), (by omega), (tm_ (by omega)), trivial⟩ ?_
      refine AWP.cond (b := wz % 2 == 1 && decide (i < (↑m : Int))) (by kernel_rfl) (fun hq2 => ?_) (fun hq2 => ?_)
      · simp only [decide_eq_true_eq, Bool.and_eq_true, beq_iff_eq] at hq2
        refine AWP.seq ?_
        refine AWP.regionT tcok hmix [(2, ⟨some (V.vp (u32 q :: rq)), none⟩), (5, ⟨none, some ⟨V.sl 260003 0 (List.length C), [(260003, Blk.mk (u8s C) true 0 (some (5, 1)))], [(460005, true)]⟩⟩)] [0, 1, 2, 3, 8, 9, 10, 11] [9, 890003] (os := [(0 : Int) ≤ i ∧ i < (↑m : Int), V.vp (List.drop (Int.toNat i * 1) ss) = V.vp (u32 q :: rq), VO (V.sl (260003 : Nat) (0 : Nat) (List.length C)), VOH [((260003 : Nat), Blk.mk (u8s C) true (0 : Nat) (some ((5 : Nat), (1 : Nat))))], Con Try.prog 35 [] [u32 q, B8 X] [(260003, Blk.mk (u8s C) true 0 (some (5, 1)))] (V.sl 260003 0 (List.length C)), (0 : Nat) = (0 : Nat), List.length X * (1 : Nat) = List.length (u8s X)]) (s' := St.mk [(0, tp (V.vs xs n)), (1, tp (V.vs ss m)), (2, tp (u8 w)), (3, tp (u8 sp)), (8, tp (vb false)), (9, tp (V.sl 9 0 (List.length ls))), (10, tp (i64 i)), (11, tp (V.sl 890003 0 (List.length C)))] [(9, Blk.mk (LL ls) true 0 (some (29, 1))), (890003, Blk.mk (u8s C) true 0 (some (5, 1)))]) (by kernel_rfl) ⟨(by omega), (congrArg V.vp (ky1 (by omega))), (VO.sl _ _ _), ⟨(VOL.u8s _), trivial⟩, (hrm ), (by omega), (by (simp [len_u8s]; done)), trivial⟩ ?_
        refine AWP.seq ?_
        refine AWP.regionT tcok hmix [(2, ⟨some (u8 sz), none⟩), (3, ⟨some (u8 (sz % 2)), none⟩)] [0, 1, 2, 3, 8, 9, 10, 11, 67] [9, 890003] (os := [(0 : Int) ≤ i, u8 (ishr IntKind.u8 sp i) = u8 sz, (2 : Int) ≠ (0 : Int), u8 (Int.tmod sz 2) = u8 (sz % 2)]) (s' := St.mk [(0, tp (V.vs xs n)), (1, tp (V.vs ss m)), (2, tp (u8 w)), (3, tp (u8 sp)), (8, tp (vb false)), (9, tp (V.sl 9 0 (List.length ls))), (10, tp (i64 i)), (11, tp (V.sl 890003 0 (List.length C))), (67, tp (vb (sz % 2 == 1)))] [(9, Blk.mk (LL ls) true 0 (some (29, 1))), (890003, Blk.mk (u8s C) true 0 (some (5, 1)))]) (by kernel_rfl) ⟨(by omega), (in_eq wfs), (by omega), (tm_ (by omega)), trivial⟩ ?_
        refine AWP.cond (b := sz % 2 == 1) (by kernel_rfl) (fun hq3 => ?_) (fun hq3 => ?_)
        · simp only [beq_iff_eq] at hq3
          refine AWP.regionT tcok hmix [(3, ⟨some (i64 ((↑(List.length C) : Int) / 2)), none⟩), (4, ⟨some (V.ptr 890003 (0 + Int.toNat ((↑(List.length C) : Int) / 2) * 1)), none⟩), (5, ⟨some (u8 (List.getD C (0 + Int.toNat ((↑(List.length C) : Int) / 2) * 1) 0)), none⟩), (7, ⟨some (V.ptr 890003 (0 + Int.toNat ((↑(List.length C) : Int) / 2) * 1)), none⟩), (8, ⟨some (V.agg true (u8s Y)), none⟩)] [0, 1, 2, 3, 8, 9, 10, 11] [9, 890003] (os := [(2 : Int) ≠ (0 : Int), i64 (IntKind.wrap IntKind.i64 (Int.tdiv (↑(List.length C) : Int) 2)) = i64 ((↑(List.length C) : Int) / 2), (0 : Int) ≤ (↑(List.length C) : Int) / (2 : Int) ∧ (↑(List.length C) : Int) / (2 : Int) < (↑(List.length C) : Int), V.ptr 890003 (0 + Int.toNat ((↑(List.length C) : Int) / 2) * 1) = V.ptr 890003 (0 + Int.toNat ((↑(List.length C) : Int) / 2) * 1), (0 : Nat) + Int.toNat ((↑(List.length C) : Int) / (2 : Int)) * (1 : Nat) + (1 : Nat) ≤ List.length (u8s C), part_ true (isRow (TypeDesc.int IntKind.u8)) (u8s C) (0 + Int.toNat ((↑(List.length C) : Int) / 2) * 1) 1 = u8 (List.getD C (0 + Int.toNat ((↑(List.length C) : Int) / 2) * 1) 0), (0 : Int) ≤ (↑(List.length C) : Int) / (2 : Int) ∧ (↑(List.length C) : Int) / (2 : Int) < (↑(List.length C) : Int), V.ptr 890003 (0 + Int.toNat ((↑(List.length C) : Int) / 2) * 1) = V.ptr 890003 (0 + Int.toNat ((↑(List.length C) : Int) / 2) * 1), (1 : Nat) = (1 : Nat), (0 : Nat) + Int.toNat ((↑(List.length C) : Int) / (2 : Int)) * (1 : Nat) + (1 : Nat) ≤ List.length (u8s C), putC ((1 : Nat) == (1 : Nat)) (u8s C) ((0 : Nat) + Int.toNat ((↑(List.length C) : Int) / (2 : Int)) * (1 : Nat)) [u8 (ixor IntKind.u8 (List.getD C ((0 : Nat) + Int.toNat ((↑(List.length C) : Int) / (2 : Int)) * (1 : Nat)) (0 : Int)) (1 : Int))] = u8s Y]) (s' := St.mk [(0, tp (V.vs xs n)), (1, tp (V.vs ss m)), (2, tp (u8 w)), (3, tp (u8 sp)), (8, tp (vb false)), (9, tp (V.sl 9 0 (List.length ls))), (10, tp (i64 i)), (11, tp (V.sl 890003 0 (List.length C)))] [(9, Blk.mk (LL ls) true 0 (some (29, 1))), (890003, Blk.mk (u8s Y) true 0 (some (5, 1)))]) (by kernel_rfl) ⟨(by omega), (wtd (by omega) (wr_i64 (by omega) (by omega))), (by omega), rfl, (by (simp [len_u8s]; omega)), (part_u8s (by first | omega | exact hXb | (simp [len_u8s]; done) | (simp [len_u8s]; omega))), (by omega), rfl, (by omega), (by (simp [len_u8s]; omega)), ((set_u8s _ _ _).trans (congrArg u8s wl)), trivial⟩ ?_
          refine AWP.frz 890003 (s' := St.mk [(0, tp (V.vs xs n)), (1, tp (V.vs ss m)), (2, tp (u8 w)), (3, tp (u8 sp)), (8, tp (vb false)), (9, tp (V.sl 9 0 (List.length ls))), (10, tp (i64 i)), (11, tp (V.vs (u8s Y) (List.length C)))] [(9, Blk.mk (LL ls) true 0 (some (29, 1)))]) (by kernel_rfl) ?_
          refine AWP.region tcok hmix [(3, ⟨some (V.tup [V.agg true (LL ls ++ [V.vs (u8s Y) (List.length C)]), V.sl 0 0 (List.length ls + 1)]), none⟩)] (os := [(1 : Nat) ≤ (1 : Nat), List.length ls * (1 : Nat) = List.length (LL ls), List.length ls + (1 : Nat) ≤ (9223372036854775807 : Nat), (List.length ls + (1 : Nat)) * (24 : Nat) ≤ (140737488355328 : Nat), LL ls ++ List.take ((1 : Nat) * (1 : Nat)) (List.drop (0 : Nat) [V.vs (u8s Y) (List.length C)]) = LL ls ++ [V.vs (u8s Y) (List.length C)], List.length ls + (1 : Nat) = List.length ls + (1 : Nat)]) (sf := St.mk [(0, tp (V.vs xs n)), (1, tp (V.vs ss m)), (2, tp (u8 w)), (3, tp (u8 sp)), (8, tp (vb false)), (9, tp (V.sl 9 0 (List.length ls + 1))), (10, tp (i64 i)), (11, tp (V.vs (u8s Y) (List.length C))), (76, tp V.top), (77, tp (V.vs (u8s Y) (List.length C))), (78, tp (V.sl 78 0 1)), (79, tp (V.sl 9 0 (List.length ls + 1)))] [(9, Blk.mk (LL ls ++ [V.vs (u8s Y) (List.length C)]) true 0 (some (29, 1))), (78, Blk.mk [V.vs (u8s Y) (List.length C)] true 0 (some (29, 1)))]) (by kernel_rfl) ⟨(by omega), (by first | omega | (simp [len_u8s]; done) | (simp [len_u8s]; omega)), (by omega), (by omega), (by first | rfl | (simp only [u8s_drop, u8s_take, List.drop_zero, Nat.mul_one, Nat.one_mul, u8s_app, List.take_length, List.nil_append, List.append_nil]; done) | (simp [u8s]; done) | (simp [u8s]; omega)), (by omega), trivial⟩ ?_
          refine AWP.keep' [0, 1, 2, 3, 8, 9, 10] [9] (sf := St.mk [(0, tp (V.vs xs n)), (1, tp (V.vs ss m)), (2, tp (u8 w)), (3, tp (u8 sp)), (8, tp (vb false)), (9, tp (V.sl 9 0 (List.length ls + 1))), (10, tp (i64 i))] [(9, Blk.mk (LL ls ++ [V.vs (u8s Y) (List.length C)]) true 0 (some (29, 1)))]) (by kernel_rfl) ?_
          refine AWP.region tcok hmix [(1, ⟨some (i64 (i + 1)), none⟩)] (os := [i64 (IntKind.wrap IntKind.i64 (i + 1)) = i64 (i + 1)]) (sf := St.mk [(0, tp (V.vs xs n)), (1, tp (V.vs ss m)), (2, tp (u8 w)), (3, tp (u8 sp)), (8, tp (vb false)), (9, tp (V.sl 9 0 (List.length ls + 1))), (10, tp (i64 (i + 1))), (39, tp (i64 i)), (40, tp (i64 (i + 1)))] [(9, Blk.mk (LL ls ++ [V.vs (u8s Y) (List.length C)]) true 0 (some (29, 1)))]) (by kernel_rfl) ⟨(wr_i64 (by omega) (by omega)), trivial⟩ ?_
          refine ⟨St.mk [(0, tp (V.vs xs n)), (1, tp (V.vs ss m)), (2, tp (u8 w)), (3, tp (u8 sp)), (8, tp (vb false)), (9, tp (V.sl 9 0 (List.length ls + 1))), (10, tp (i64 (i + 1)))] [(9, Blk.mk (LL ls ++ [V.vs (u8s Y) (List.length C)]) true 0 (some (29, 1)))], by kernel_rfl, ?_⟩
          first | (exact ⟨(4 - (i + 1)).toNat, (by omega), ls ++ [Y], i + 1, (by rw [LLsn, List.length_append, yl]; rfl), (by rw [List.length_append]; simp; omega), (fun x hx => by rcases List.mem_append.1 hx with h | h; exact hls x h; rw [List.mem_singleton.1 h]; exact ⟨yB, by omega⟩), (by omega), (by omega), (by omega)⟩) | (exact ⟨(4 - (i + 1)).toNat, (by omega), ls ++ [C], i + 1, (by rw [LLsn, List.length_append]; rfl), (by rw [List.length_append]; simp; omega), (fun x hx => by rcases List.mem_append.1 hx with h | h; exact hls x h; rw [List.mem_singleton.1 h]; exact ⟨cB, by omega⟩), (by omega), (by omega), (by omega)⟩) | (exact ⟨(4 - (i + 1)).toNat, (by omega), ls ++ [X], i + 1, (by rw [LLsn, List.length_append]; rfl), (by rw [List.length_append]; simp; omega), (fun x hx => by rcases List.mem_append.1 hx with h | h; exact hls x h; rw [List.mem_singleton.1 h]; exact ⟨hXb, by omega⟩), (by omega), (by omega), (by omega)⟩)
        simp only [beq_eq_false_iff_ne] at hq3
        refine AWP.skip ?_
        refine AWP.frz 890003 (s' := St.mk [(0, tp (V.vs xs n)), (1, tp (V.vs ss m)), (2, tp (u8 w)), (3, tp (u8 sp)), (8, tp (vb false)), (9, tp (V.sl 9 0 (List.length ls))), (10, tp (i64 i)), (11, tp (B8 C)), (67, tp (vb (sz % 2 == 1)))] [(9, Blk.mk (LL ls) true 0 (some (29, 1)))]) (by kernel_rfl) ?_
        refine AWP.region tcok hmix [(3, ⟨some (V.tup [V.agg true (LL ls ++ [B8 C]), V.sl 0 0 (List.length ls + 1)]), none⟩)] (os := [(1 : Nat) ≤ (1 : Nat), List.length ls * (1 : Nat) = List.length (LL ls), List.length ls + (1 : Nat) ≤ (9223372036854775807 : Nat), (List.length ls + (1 : Nat)) * (24 : Nat) ≤ (140737488355328 : Nat), LL ls ++ List.take ((1 : Nat) * (1 : Nat)) (List.drop (0 : Nat) [B8 C]) = LL ls ++ [B8 C], List.length ls + (1 : Nat) = List.length ls + (1 : Nat)]) (sf := St.mk [(0, tp (V.vs xs n)), (1, tp (V.vs ss m)), (2, tp (u8 w)), (3, tp (u8 sp)), (8, tp (vb false)), (9, tp (V.sl 9 0 (List.length ls + 1))), (10, tp (i64 i)), (11, tp (B8 C)), (67, tp (vb (sz % 2 == 1))), (76, tp V.top), (77, tp (B8 C)), (78, tp (V.sl 78 0 1)), (79, tp (V.sl 9 0 (List.length ls + 1)))] [(9, Blk.mk (LL ls ++ [B8 C]) true 0 (some (29, 1))), (78, Blk.mk [B8 C] true 0 (some (29, 1)))]) (by kernel_rfl) ⟨(by omega), (by first | omega | (simp [len_u8s]; done) | (simp [len_u8s]; omega)), (by omega), (by omega), (by first | rfl | (simp only [u8s_drop, u8s_take, List.drop_zero, Nat.mul_one, Nat.one_mul, u8s_app, List.take_length, List.nil_append, List.append_nil]; done) | (simp [u8s]; done) | (simp [u8s]; omega)), (by omega), trivial⟩ ?_
        refine AWP.keep' [0, 1, 2, 3, 8, 9, 10] [9] (sf := St.mk [(0, tp (V.vs xs n)), (1, tp (V.vs ss m)), (2, tp (u8 w)), (3, tp (u8 sp)), (8, tp (vb false)), (9, tp (V.sl 9 0 (List.length ls + 1))), (10, tp (i64 i))] [(9, Blk.mk (LL ls ++ [B8 C]) true 0 (some (29, 1)))]) (by kernel_rfl) ?_
        refine AWP.region tcok hmix [(1, ⟨some (i64 (i + 1)), none⟩)] (os := [i64 (IntKind.wrap IntKind.i64 (i + 1)) = i64 (i + 1)]) (sf := St.mk [(0, tp (V.vs xs n)), (1, tp (V.vs ss m)), (2, tp (u8 w)), (3, tp (u8 sp)), (8, tp (vb false)), (9, tp (V.sl 9 0 (List.length ls + 1))), (10, tp (i64 (i + 1))), (39, tp (i64 i)), (40, tp (i64 (i + 1)))] [(9, Blk.mk (LL ls ++ [B8 C]) true 0 (some (29, 1)))]) (by kernel_rfl) ⟨(wr_i64 (by omega) (by omega)), trivial⟩ ?_
        refine ⟨St.mk [(0, tp (V.vs xs n)), (1, tp (V.vs ss m)), (2, tp (u8 w)), (3, tp (u8 sp)), (8, tp (vb false)), (9, tp (V.sl 9 0 (List.length ls + 1))), (10, tp (i64 (i + 1)))] [(9, Blk.mk (LL ls ++ [B8 C]) true 0 (some (29, 1)))], by kernel_rfl, ?_⟩
        first | (exact ⟨(4 - (i + 1)).toNat, (by omega), ls ++ [Y], i + 1, (by rw [LLsn, List.length_append, yl]; rfl), (by rw [List.length_append]; simp; omega), (fun x hx => by rcases List.mem_append.1 hx with h | h; exact hls x h; rw [List.mem_singleton.1 h]; exact ⟨yB, by omega⟩), (by omega), (by omega), (by omega)⟩) | (exact ⟨(4 - (i + 1)).toNat, (by omega), ls ++ [C], i + 1, (by rw [LLsn, List.length_append]; rfl), (by rw [List.length_append]; simp; omega), (fun x hx => by rcases List.mem_append.1 hx with h | h; exact hls x h; rw [List.mem_singleton.1 h]; exact ⟨cB, by omega⟩), (by omega), (by omega), (by omega)⟩) | (exact ⟨(4 - (i + 1)).toNat, (by omega), ls ++ [X], i + 1, (by rw [LLsn, List.length_append]; rfl), (by rw [List.length_append]; simp; omega), (fun x hx => by rcases List.mem_append.1 hx with h | h; exact hls x h; rw [List.mem_singleton.1 h]; exact ⟨hXb, by omega⟩), (by omega), (by omega), (by omega)⟩)
      simp only [decide_eq_false_iff_not, Bool.and_eq_false_iff, beq_eq_false_iff_ne] at hq2
      refine AWP.skip ?_
      refine AWP.frz 460005 (s' := St.mk [(0, tp (V.vs xs n)), (1, tp (V.vs ss m)), (2, tp (u8 w)), (3, tp (u8 sp)), (8, tp (vb false)), (9, tp (V.sl 9 0 (List.length ls))), (10, tp (i64 i)), (11, tp (B8 X)), (56, tp (vb (wz % 2 == 1 && decide (i < (↑m : Int)))))] [(9, Blk.mk (LL ls) true 0 (some (29, 1)))]) (by kernel_rfl) ?_
      refine AWP.region tcok hmix [(3, ⟨some (V.tup [V.agg true (LL ls ++ [B8 X]), V.sl 0 0 (List.length ls + 1)]), none⟩)] (os := [(1 : Nat) ≤ (1 : Nat), List.length ls * (1 : Nat) = List.length (LL ls), List.length ls + (1 : Nat) ≤ (9223372036854775807 : Nat), (List.length ls + (1 : Nat)) * (24 : Nat) ≤ (140737488355328 : Nat), LL ls ++ List.take ((1 : Nat) * (1 : Nat)) (List.drop (0 : Nat) [B8 X]) = LL ls ++ [B8 X], List.length ls + (1 : Nat) = List.length ls + (1 : Nat)]) (sf := St.mk [(0, tp (V.vs xs n)), (1, tp (V.vs ss m)), (2, tp (u8 w)), (3, tp (u8 sp)), (8, tp (vb false)), (9, tp (V.sl 9 0 (List.length ls + 1))), (10, tp (i64 i)), (11, tp (B8 X)), (56, tp (vb (wz % 2 == 1 && decide (i < (↑m : Int))))), (76, tp V.top), (77, tp (B8 X)), (78, tp (V.sl 78 0 1)), (79, tp (V.sl 9 0 (List.length ls + 1)))] [(9, Blk.mk (LL ls ++ [B8 X]) true 0 (some (29, 1))), (78, Blk.mk [B8 X] true 0 (some (29, 1)))]) (by kernel_rfl) ⟨(by omega), (by first | omega | (simp [len_u8s]; done) | (simp [len_u8s]; omega)), (by omega), (by omega), (by first | rfl | (simp only [u8s_drop, u8s_take, List.drop_zero, Nat.mul_one, Nat.one_mul, u8s_app, List.take_length, List.nil_append, List.append_nil]; done) | (simp [u8s]; done) | (simp [u8s]; omega)), (by omega), trivial⟩ ?_
      refine AWP.keep' [0, 1, 2, 3, 8, 9, 10] [9] (sf := St.mk [(0, tp (V.vs xs n)), (1, tp (V.vs ss m)), (2, tp (u8 w)), (3, tp (u8 sp)), (8, tp (vb false)), (9, tp (V.sl 9 0 (List.length ls + 1))), (10, tp (i64 i))] [(9, Blk.mk (LL ls ++ [B8 X]) true 0 (some (29, 1)))]) (by kernel_rfl) ?_
      refine AWP.region tcok hmix [(1, ⟨some (i64 (i + 1)), none⟩)] (os := [i64 (IntKind.wrap IntKind.i64 (i + 1)) = i64 (i + 1)]) (sf := St.mk [(0, tp (V.vs xs n)), (1, tp (V.vs ss m)), (2, tp (u8 w)), (3, tp (u8 sp)), (8, tp (vb false)), (9, tp (V.sl 9 0 (List.length ls + 1))), (10, tp (i64 (i + 1))), (39, tp (i64 i)), (40, tp (i64 (i + 1)))] [(9, Blk.mk (LL ls ++ [B8 X]) true 0 (some (29, 1)))]) (by kernel_rfl) ⟨(wr_i64 (by omega) (by omega)), trivial⟩ ?_
      refine ⟨St.mk [(0, tp (V.vs xs n)), (1, tp (V.vs ss m)), (2, tp (u8 w)), (3, tp (u8 sp)), (8, tp (vb false)), (9, tp (V.sl 9 0 (List.length ls + 1))), (10, tp (i64 (i + 1)))] [(9, Blk.mk (LL ls ++ [B8 X]) true 0 (some (29, 1)))], by kernel_rfl, ?_⟩
      first | (exact ⟨(4 - (i + 1)).toNat, (by omega), ls ++ [Y], i + 1, (by rw [LLsn, List.length_append, yl]; rfl), (by rw [List.length_append]; simp; omega), (fun x hx => by rcases List.mem_append.1 hx with h | h; exact hls x h; rw [List.mem_singleton.1 h]; exact ⟨yB, by omega⟩), (by omega), (by omega), (by omega)⟩) | (exact ⟨(4 - (i + 1)).toNat, (by omega), ls ++ [C], i + 1, (by rw [LLsn, List.length_append]; rfl), (by rw [List.length_append]; simp; omega), (fun x hx => by rcases List.mem_append.1 hx with h | h; exact hls x h; rw [List.mem_singleton.1 h]; exact ⟨cB, by omega⟩), (by omega), (by omega), (by omega)⟩) | (exact ⟨(4 - (i + 1)).toNat, (by omega), ls ++ [X], i + 1, (by rw [LLsn, List.length_append]; rfl), (by rw [List.length_append]; simp; omega), (fun x hx => by rcases List.mem_append.1 hx with h | h; exact hls x h; rw [List.mem_singleton.1 h]; exact ⟨hXb, by omega⟩), (by omega), (by omega), (by omega)⟩)
    simp only [decide_eq_false_iff_not, Bool.and_eq_false_iff] at hq1
    (exfalso; omega)
  have h4 : ls.length ≤ 4 := by omega
  have hl1 : ∀ l ∈ ls, BL l ∧ l.length ≤ 1000000 := fun l h => ⟨(hls l h).1, by have := (hls l h).2; omega⟩
  have v1 := con_vote ls ls.length rfl hl1 (by omega)
  have v2 := con_rvote ls ls.length rfl hl1 (by omega)
  have g1 := con_good ls ls.length rfl hl1 h4
  obtain ⟨G, hG⟩ : ∃ G, gsn ls ls.length = G := ⟨_, rfl⟩
  have hGb : 0 ≤ G ∧ G < 16 := by
    have := gsn_bd ls ls.length
    rw [hG] at this
    have hp : (2 : Int) ^ ls.length ≤ 2 ^ 4 := by
      have : ls.length = 0 ∨ ls.length = 1 ∨ ls.length = 2 ∨ ls.length = 3 ∨ ls.length = 4 := by omega
      rcases this with h | h | h | h | h <;> rw [h] <;> decide
    omega
  rw [hG] at g1
  obtain ⟨vn, hvn⟩ : ∃ x, vno ls = x := ⟨_, rfl⟩
  obtain ⟨vp, hvp⟩ : ∃ x, vpo ls = x := ⟨_, rfl⟩
  obtain ⟨ve, hve⟩ : ∃ x : Int, (if 2 ≤ (vst ls).1 then 0 else 3) = x := ⟨_, rfl⟩
  have hveb : ve = 0 ∨ ve = 3 := by rw [← hve]; split <;> simp
  have hvpl : vp.length ≤ 200 := by
    rw [← hvp]
    unfold vpo
    split
    · exact cPo_len _
    · exact Nat.zero_le _
  rw [hvn, hvp, hve] at v1 v2
  have hLL : (LL ls).length = ls.length := by simp [LL]
  refine AWP.frz 9 (s' := St.mk [(0, tp (V.vs xs n)), (1, tp (V.vs ss m)), (2, tp (u8 w)), (3, tp (u8 sp)), (8, tp (vb false)), (9, tp (V.vs (LL ls) ls.length)), (10, tp (i64 i))] []) (by kernel_rfl) ?_
  refine AWP.seq ?_
  refine AWP.seq ?_
  refine AWP.regionT tcok hmix [] [0, 1, 2, 3, 8, 9, 10, 38] [] (os := []) (s' := St.mk [(0, tp (V.vs xs n)), (1, tp (V.vs ss m)), (2, tp (u8 w)), (3, tp (u8 sp)), (8, tp (vb false)), (9, tp (V.vs (LL ls) (List.length ls))), (10, tp (i64 i)), (38, tp (vb (decide (i < 4) && decide (i < (↑n : Int)))))] []) (by kernel_rfl) trivial ?_
  refine AWP.cond (b := decide (i < 4) && decide (i < (↑n : Int))) (by kernel_rfl) (fun hq4 => ?_) (fun hq4 => ?_)
  · simp only [decide_eq_true_eq, Bool.and_eq_true] at hq4
    (exfalso; omega)
  simp only [decide_eq_false_iff_not, Bool.and_eq_false_iff] at hq4
  refine AWP.exit ?_
  refine AWP.seq ?_
  refine AWP.regionT tcok hmix [(1, ⟨none, some ⟨V.tup [u32 vn, B8 vp, i64 ve], [], []⟩⟩)] [8, 9, 12, 13, 14] [] (os := [Con Try.prog 37 [] [V.vs (LL ls) (List.length ls)] [] (V.tup [u32 vn, B8 vp, i64 ve])]) (s' := St.mk [(8, tp (vb false)), (9, tp (V.vs (LL ls) (List.length ls))), (12, tp (u32 vn)), (13, tp (B8 vp)), (14, tp (i64 ve))] []) (by kernel_rfl) ⟨(v1 ), trivial⟩ ?_
  refine AWP.seq ?_
  refine AWP.regionT tcok hmix [(1, ⟨none, some ⟨V.tup [u32 vn, B8 vp, i64 ve], [], []⟩⟩)] [8, 9, 12, 13, 14, 15, 16, 17] [] (os := [Con Try.prog 38 [] [V.vs (LL ls) (List.length ls)] [] (V.tup [u32 vn, B8 vp, i64 ve])]) (s' := St.mk [(8, tp (vb false)), (9, tp (V.vs (LL ls) (List.length ls))), (12, tp (u32 vn)), (13, tp (B8 vp)), (14, tp (i64 ve)), (15, tp (u32 vn)), (16, tp (B8 vp)), (17, tp (i64 ve))] []) (by kernel_rfl) ⟨(v2 ), trivial⟩ ?_
  refine AWP.seq ?_
  refine AWP.regionT tcok hmix [(1, ⟨none, some ⟨u16 G, [], []⟩⟩)] [8, 9, 12, 13, 14, 15, 16, 17, 18] [] (os := [Con Try.prog 39 [] [V.vs (LL ls) (List.length ls)] [] (u16 G)]) (s' := St.mk [(8, tp (vb false)), (9, tp (V.vs (LL ls) (List.length ls))), (12, tp (u32 vn)), (13, tp (B8 vp)), (14, tp (i64 ve)), (15, tp (u32 vn)), (16, tp (B8 vp)), (17, tp (i64 ve)), (18, tp (u16 G))] []) (by kernel_rfl) ⟨(g1 ), trivial⟩ ?_
  refine AWP.seq ?_
  refine AWP.seq ?_
  refine AWP.regionT tcok hmix [] [8, 9, 12, 13, 14, 15, 16, 17, 18, 94, 95, 96] [] (os := []) (s' := St.mk [(8, tp (vb false)), (9, tp (V.vs (LL ls) (List.length ls))), (12, tp (u32 vn)), (13, tp (B8 vp)), (14, tp (i64 ve)), (15, tp (u32 vn)), (16, tp (B8 vp)), (17, tp (i64 ve)), (18, tp (u16 G)), (94, tp (V.vs (LL ls) (List.length ls))), (95, tp (i64 (↑(List.length ls) : Int))), (96, tp (i64 0))] []) (by kernel_rfl) trivial ?_
  refine AWP.block ?_
  refine AWP.loopI [8, 9, 12, 13, 14, 15, 16, 17, 18, 94, 95, 96] [] (fun N s' => ∃ (i : Int), s' = St.mk [(8, tp (vb false)), (9, tp (V.vs (LL ls) ls.length)), (12, tp (u32 vn)), (13, tp (B8 vp)), (14, tp (i64 ve)), (15, tp (u32 vn)), (16, tp (B8 vp)), (17, tp (i64 ve)), (18, tp (u16 G)), (94, tp (V.vs (LL ls) ls.length)), (95, tp (i64 (ls.length : Int))), (96, tp (i64 i))] [] ∧ 0 ≤ i ∧ i ≤ ls.length ∧ (N : Int) = ls.length - i) ls.length (s0 := St.mk [(8, tp (vb false)), (9, tp (V.vs (LL ls) ls.length)), (12, tp (u32 vn)), (13, tp (B8 vp)), (14, tp (i64 ve)), (15, tp (u32 vn)), (16, tp (B8 vp)), (17, tp (i64 ve)), (18, tp (u16 G)), (94, tp (V.vs (LL ls) ls.length)), (95, tp (i64 (ls.length : Int))), (96, tp (i64 0))] []) (by kernel_rfl) ?_ ?_
  · exact ⟨0, rfl, by omega, by omega, by omega⟩
  rintro N s' ⟨i, rfl, hi, hi2, hN⟩
  by_cases hin : i < ls.length
  case neg =>
    refine AWP.seq ?_
    refine AWP.regionT tcok hmix [] [8, 9, 12, 13, 14, 15, 16, 17, 18, 94, 95, 96, 97] [] (os := []) (s' := St.mk [(8, tp (vb false)), (9, tp (V.vs (LL ls) (List.length ls))), (12, tp (u32 vn)), (13, tp (B8 vp)), (14, tp (i64 ve)), (15, tp (u32 vn)), (16, tp (B8 vp)), (17, tp (i64 ve)), (18, tp (u16 G)), (94, tp (V.vs (LL ls) (List.length ls))), (95, tp (i64 (↑(List.length ls) : Int))), (96, tp (i64 i)), (97, tp (vb (decide (i < (↑(List.length ls) : Int)))))] []) (by kernel_rfl) trivial ?_
    refine AWP.seq ?_
    refine AWP.cond (b := decide (i < (↑(List.length ls) : Int))) (by kernel_rfl) (fun hq5 => ?_) (fun hq5 => ?_)
    · simp only [decide_eq_true_eq] at hq5
      (exfalso; omega)
    simp only [decide_eq_false_iff_not] at hq5
    refine AWP.exit ?_
    refine AWP.seq ?_
    refine AWP.regionT tcok hmix [(6, ⟨none, some ⟨vb (decide (vp = vp)), [], []⟩⟩)] [8] [] (os := [(vn == vn) = true → Con Try.prog (23 : Nat) [] [B8 vp, B8 vp] [] (vb (decide (vp = vp))) ∧ True]) (s' := St.mk [(8, tp (vb (vn == vn && decide (vp = vp) && ve == ve)))] []) (by kernel_rfl) ⟨(by intro hc0; first | (cases hc0; done) | (try simp only [Bool.or_false, Bool.false_or, Bool.true_and, Bool.and_true, decide_eq_true_eq, decide_eq_false_iff_not, Bool.and_eq_true, Bool.or_eq_true, Bool.or_eq_false_iff, Bool.not_eq_true', Bool.and_eq_false_iff, beq_iff_eq, bne_iff_ne, bne_eq_false_iff_eq, beq_eq_false_iff_ne, Bool.not_eq_false'] at hc0; exact ⟨(con_samen (vp) (vp) (List.length vp) (List.length vp) (by omega) (by omega) (by omega) (by omega)), trivial⟩)), trivial⟩ ?_
    refine AWP.ret ?_
    refine ⟨Or.inr rfl, Eq.trans (b := some ([], vb (vn == vn && decide (vp = vp) && ve == ve))) (by kernel_rfl) ?_⟩
    first | rfl | (simp; done)
  have kx := LL_at ls i.toNat
  have hcm : ls.getD i.toNat [] ∈ ls := by
    rw [List.getD_eq_getElem?_getD, List.getElem?_eq_getElem (by omega)]
    exact List.getElem_mem _
  have hh := con_hass G i (by omega) hGb
  have hbit := gsn_bit ls i.toNat ls.length (by omega)
  rw [hG] at hbit
  rw [hbit] at hh
  generalize ls.getD i.toNat [] = c at kx hcm hh
  have hh : Con Try.prog 40 [] [u16 G, i64 i] [] (vb (cE c == 0)) := by
    by_cases h : cE c = 0
    · simpa [h] using hh
    · simpa [beq_eq_false_iff_ne.2 h, h] using hh
  have hcb := (hl1 c hcm).1
  have hcl := (hl1 c hcm).2
  refine AWP.seq ?_
  refine AWP.regionT tcok hmix [] [8, 9, 12, 13, 14, 15, 16, 17, 18, 94, 95, 96, 97] [] (os := []) (s' := St.mk [(8, tp (vb false)), (9, tp (V.vs (LL ls) (List.length ls))), (12, tp (u32 vn)), (13, tp (B8 vp)), (14, tp (i64 ve)), (15, tp (u32 vn)), (16, tp (B8 vp)), (17, tp (i64 ve)), (18, tp (u16 G)), (94, tp (V.vs (LL ls) (List.length ls))), (95, tp (i64 (↑(List.length ls) : Int))), (96, tp (i64 i)), (97, tp (vb (decide (i < (↑(List.length ls) : Int)))))] []) (by kernel_rfl) trivial ?_
  refine AWP.seq ?_
  refine AWP.cond (b := decide (i < (↑(List.length ls) : Int))) (by kernel_rfl) (fun hq6 => ?_) (fun hq6 => ?_)
  rotate_left
  · simp only [decide_eq_false_iff_not] at hq6
    (exfalso; omega)
  simp only [decide_eq_true_eq] at hq6
  refine AWP.skip ?_
  refine AWP.seq ?_
  refine AWP.block ?_
  refine AWP.seq ?_
  refine AWP.regionT tcok hmix [(1, ⟨some (V.vp (B8 c :: List.drop (Int.toNat i + 1) (LL ls))), none⟩)] [8, 9, 12, 13, 14, 15, 16, 17, 18, 19, 20, 94, 95, 96] [] (os := [(0 : Int) ≤ i ∧ i < (↑(List.length ls) : Int), V.vp (List.drop (Int.toNat i * 1) (LL ls)) = V.vp (B8 c :: List.drop (Int.toNat i + 1) (LL ls))]) (s' := St.mk [(8, tp (vb false)), (9, tp (V.vs (LL ls) (List.length ls))), (12, tp (u32 vn)), (13, tp (B8 vp)), (14, tp (i64 ve)), (15, tp (u32 vn)), (16, tp (B8 vp)), (17, tp (i64 ve)), (18, tp (u16 G)), (19, tp (i64 i)), (20, tp (B8 c)), (94, tp (V.vs (LL ls) (List.length ls))), (95, tp (i64 (↑(List.length ls) : Int))), (96, tp (i64 i))] []) (by kernel_rfl) ⟨(by omega), (congrArg V.vp (kx (by omega))), trivial⟩ ?_
  refine AWP.seq ?_
  refine AWP.regionT tcok hmix [(1, ⟨none, some ⟨V.tup [u32 (cNo c), V.sl 340005 0 (List.length (cPo c)), i64 (cE c)], [(340005, Blk.mk (u8s (cPo c)) true 0 (some (5, 1)))], []⟩⟩)] [8, 9, 12, 13, 14, 15, 16, 17, 18, 19, 20, 21, 23, 94, 95, 96] [] (os := [Con Try.prog 34 [] [B8 c] [(340005, Blk.mk (u8s (cPo c)) true 0 (some (5, 1)))] (V.tup [u32 (cNo c), V.sl 340005 0 (List.length (cPo c)), i64 (cE c)])]) (s' := St.mk [(8, tp (vb false)), (9, tp (V.vs (LL ls) (List.length ls))), (12, tp (u32 vn)), (13, tp (B8 vp)), (14, tp (i64 ve)), (15, tp (u32 vn)), (16, tp (B8 vp)), (17, tp (i64 ve)), (18, tp (u16 G)), (19, tp (i64 i)), (20, tp (B8 c)), (21, tp (u32 (cNo c))), (23, tp (i64 (cE c))), (94, tp (V.vs (LL ls) (List.length ls))), (95, tp (i64 (↑(List.length ls) : Int))), (96, tp (i64 i))] []) (by kernel_rfl) ⟨(con_rparse (c) (List.length c) (by omega) (by assumption) (by assumption)), trivial⟩ ?_
  refine AWP.seq ?_
  refine AWP.seq ?_
  refine AWP.regionT tcok hmix [(2, ⟨none, some ⟨vb (cE c == 0), [], []⟩⟩)] [8, 9, 12, 13, 14, 15, 16, 17, 18, 20, 21, 23, 94, 95, 96, 112] [] (os := [Con Try.prog 40 [] [u16 G, i64 i] [] (vb (cE c == 0))]) (s' := St.mk [(8, tp (vb false)), (9, tp (V.vs (LL ls) (List.length ls))), (12, tp (u32 vn)), (13, tp (B8 vp)), (14, tp (i64 ve)), (15, tp (u32 vn)), (16, tp (B8 vp)), (17, tp (i64 ve)), (18, tp (u16 G)), (20, tp (B8 c)), (21, tp (u32 (cNo c))), (23, tp (i64 (cE c))), (94, tp (V.vs (LL ls) (List.length ls))), (95, tp (i64 (↑(List.length ls) : Int))), (96, tp (i64 i)), (112, tp (vb (bl false ((cE c == 0) == (cE c == 0)))))] []) (by kernel_rfl) ⟨(hh ), trivial⟩ ?_
  refine AWP.cond (b := bl false ((cE c == 0) == (cE c == 0))) (by kernel_rfl) (fun hq7 => ?_) (fun hq7 => ?_)
  · (simp [bl] at hq7; done)
  refine AWP.skip ?_
  refine AWP.seq ?_
  refine AWP.regionT tcok hmix [] [8, 9, 12, 13, 14, 15, 16, 17, 18, 20, 21, 23, 94, 95, 96, 113, 114, 115] [] (os := []) (s' := St.mk [(8, tp (vb false)), (9, tp (V.vs (LL ls) (List.length ls))), (12, tp (u32 vn)), (13, tp (B8 vp)), (14, tp (i64 ve)), (15, tp (u32 vn)), (16, tp (B8 vp)), (17, tp (i64 ve)), (18, tp (u16 G)), (20, tp (B8 c)), (21, tp (u32 (cNo c))), (23, tp (i64 (cE c))), (94, tp (V.vs (LL ls) (List.length ls))), (95, tp (i64 (↑(List.length ls) : Int))), (96, tp (i64 i)), (113, tp (V.vs (LL ls) (List.length ls))), (114, tp (i64 (↑(List.length ls) : Int))), (115, tp (i64 0))] []) (by kernel_rfl) trivial ?_
  refine AWP.block ?_
  refine AWP.loopI [8, 9, 12, 13, 14, 15, 16, 17, 18, 20, 21, 23, 94, 95, 96, 113, 114, 115] [] (fun M s' => ∃ (j : Int), s' = St.mk [(8, tp (vb false)), (9, tp (V.vs (LL ls) ls.length)), (12, tp (u32 vn)), (13, tp (B8 vp)), (14, tp (i64 ve)), (15, tp (u32 vn)), (16, tp (B8 vp)), (17, tp (i64 ve)), (18, tp (u16 G)), (20, tp (B8 c)), (21, tp (u32 (cNo c))), (23, tp (i64 (cE c))), (94, tp (V.vs (LL ls) ls.length)), (95, tp (i64 (ls.length : Int))), (96, tp (i64 i)), (113, tp (V.vs (LL ls) ls.length)), (114, tp (i64 (ls.length : Int))), (115, tp (i64 j))] [] ∧ 0 ≤ j ∧ j ≤ ls.length ∧ (M : Int) = ls.length - j) ls.length (s0 := St.mk [(8, tp (vb false)), (9, tp (V.vs (LL ls) ls.length)), (12, tp (u32 vn)), (13, tp (B8 vp)), (14, tp (i64 ve)), (15, tp (u32 vn)), (16, tp (B8 vp)), (17, tp (i64 ve)), (18, tp (u16 G)), (20, tp (B8 c)), (21, tp (u32 (cNo c))), (23, tp (i64 (cE c))), (94, tp (V.vs (LL ls) ls.length)), (95, tp (i64 (ls.length : Int))), (96, tp (i64 i)), (113, tp (V.vs (LL ls) ls.length)), (114, tp (i64 (ls.length : Int))), (115, tp (i64 0))] []) (by kernel_rfl) ?_ ?_
  · exact ⟨0, rfl, by omega, by omega, by omega⟩
  rintro M s' ⟨j, rfl, hj, hj2, hM⟩
  by_cases hjn : j < ls.length
  case neg =>
    refine AWP.seq ?_
    refine AWP.regionT tcok hmix [] [8, 9, 12, 13, 14, 15, 16, 17, 18, 20, 21, 23, 94, 95, 96, 113, 114, 115, 116] [] (os := []) (s' := St.mk [(8, tp (vb false)), (9, tp (V.vs (LL ls) (List.length ls))), (12, tp (u32 vn)), (13, tp (B8 vp)), (14, tp (i64 ve)), (15, tp (u32 vn)), (16, tp (B8 vp)), (17, tp (i64 ve)), (18, tp (u16 G)), (20, tp (B8 c)), (21, tp (u32 (cNo c))), (23, tp (i64 (cE c))), (94, tp (V.vs (LL ls) (List.length ls))), (95, tp (i64 (↑(List.length ls) : Int))), (96, tp (i64 i)), (113, tp (V.vs (LL ls) (List.length ls))), (114, tp (i64 (↑(List.length ls) : Int))), (115, tp (i64 j)), (116, tp (vb (decide (j < (↑(List.length ls) : Int)))))] []) (by kernel_rfl) trivial ?_
    refine AWP.seq ?_
    refine AWP.cond (b := decide (j < (↑(List.length ls) : Int))) (by kernel_rfl) (fun hq8 => ?_) (fun hq8 => ?_)
    · simp only [decide_eq_true_eq] at hq8
      (exfalso; omega)
    simp only [decide_eq_false_iff_not] at hq8
    refine AWP.exit ?_
    refine AWP.region tcok hmix [(0, ⟨some (i64 (i + 1)), none⟩)] (os := [i64 (IntKind.wrap IntKind.i64 (i + 1)) = i64 (i + 1)]) (sf := St.mk [(8, tp (vb false)), (9, tp (V.vs (LL ls) (List.length ls))), (12, tp (u32 vn)), (13, tp (B8 vp)), (14, tp (i64 ve)), (15, tp (u32 vn)), (16, tp (B8 vp)), (17, tp (i64 ve)), (18, tp (u16 G)), (20, tp (B8 c)), (21, tp (u32 (cNo c))), (23, tp (i64 (cE c))), (94, tp (V.vs (LL ls) (List.length ls))), (95, tp (i64 (↑(List.length ls) : Int))), (96, tp (i64 (i + 1))), (113, tp (V.vs (LL ls) (List.length ls))), (114, tp (i64 (↑(List.length ls) : Int))), (115, tp (i64 j)), (116, tp (vb (decide (j < (↑(List.length ls) : Int))))), (141, tp (i64 (i + 1)))] []) (by kernel_rfl) ⟨(wr_i64 (by omega) (by omega)), trivial⟩ ?_
    refine ⟨St.mk [(8, tp (vb false)), (9, tp (V.vs (LL ls) (List.length ls))), (12, tp (u32 vn)), (13, tp (B8 vp)), (14, tp (i64 ve)), (15, tp (u32 vn)), (16, tp (B8 vp)), (17, tp (i64 ve)), (18, tp (u16 G)), (94, tp (V.vs (LL ls) (List.length ls))), (95, tp (i64 (↑(List.length ls) : Int))), (96, tp (i64 (i + 1)))] [], by kernel_rfl, ?_⟩
    (exact ⟨(ls.length - (i + 1)).toNat, (by omega), i + 1, rfl, (by omega), (by omega), (by omega)⟩)
  have ky2 := LL_at ls j.toNat
  have hdm : ls.getD j.toNat [] ∈ ls := by
    rw [List.getD_eq_getElem?_getD, List.getElem?_eq_getElem (by omega)]
    exact List.getElem_mem _
  generalize ls.getD j.toNat [] = d at ky2 hdm
  have hdb := (hl1 d hdm).1
  have hdl := (hl1 d hdm).2
  have nw := con_newer c c.length d d.length rfl rfl hcb hdb (by omega) (by omega)
  rw [show newer c d = (cE c == 0 && (cE d != 0 || decide (cNo c > cNo d))) from rfl] at nw
  refine AWP.seq ?_
  refine AWP.regionT tcok hmix [] [8, 9, 12, 13, 14, 15, 16, 17, 18, 20, 21, 23, 94, 95, 96, 113, 114, 115, 116] [] (os := []) (s' := St.mk [(8, tp (vb false)), (9, tp (V.vs (LL ls) (List.length ls))), (12, tp (u32 vn)), (13, tp (B8 vp)), (14, tp (i64 ve)), (15, tp (u32 vn)), (16, tp (B8 vp)), (17, tp (i64 ve)), (18, tp (u16 G)), (20, tp (B8 c)), (21, tp (u32 (cNo c))), (23, tp (i64 (cE c))), (94, tp (V.vs (LL ls) (List.length ls))), (95, tp (i64 (↑(List.length ls) : Int))), (96, tp (i64 i)), (113, tp (V.vs (LL ls) (List.length ls))), (114, tp (i64 (↑(List.length ls) : Int))), (115, tp (i64 j)), (116, tp (vb (decide (j < (↑(List.length ls) : Int)))))] []) (by kernel_rfl) trivial ?_
  refine AWP.seq ?_
  refine AWP.cond (b := decide (j < (↑(List.length ls) : Int))) (by kernel_rfl) (fun hq9 => ?_) (fun hq9 => ?_)
  · simp only [decide_eq_true_eq] at hq9
    refine AWP.skip ?_
    refine AWP.seq ?_
    refine AWP.block ?_
    refine AWP.seq ?_
    refine AWP.regionT tcok hmix [(0, ⟨some (V.vp (B8 d :: List.drop (Int.toNat j + 1) (LL ls))), none⟩)] [8, 9, 12, 13, 14, 15, 16, 17, 18, 20, 21, 23, 25, 94, 95, 96, 113, 114, 115] [] (os := [(0 : Int) ≤ j ∧ j < (↑(List.length ls) : Int), V.vp (List.drop (Int.toNat j * 1) (LL ls)) = V.vp (B8 d :: List.drop (Int.toNat j + 1) (LL ls))]) (s' := St.mk [(8, tp (vb false)), (9, tp (V.vs (LL ls) (List.length ls))), (12, tp (u32 vn)), (13, tp (B8 vp)), (14, tp (i64 ve)), (15, tp (u32 vn)), (16, tp (B8 vp)), (17, tp (i64 ve)), (18, tp (u16 G)), (20, tp (B8 c)), (21, tp (u32 (cNo c))), (23, tp (i64 (cE c))), (25, tp (B8 d)), (94, tp (V.vs (LL ls) (List.length ls))), (95, tp (i64 (↑(List.length ls) : Int))), (96, tp (i64 i)), (113, tp (V.vs (LL ls) (List.length ls))), (114, tp (i64 (↑(List.length ls) : Int))), (115, tp (i64 j))] []) (by kernel_rfl) ⟨(by omega), (congrArg V.vp (ky2 (by omega))), trivial⟩ ?_
    refine AWP.seq ?_
    refine AWP.regionT tcok hmix [(1, ⟨none, some ⟨V.tup [u32 (cNo d), V.sl 340005 0 (List.length (cPo d)), i64 (cE d)], [(340005, Blk.mk (u8s (cPo d)) true 0 (some (5, 1)))], []⟩⟩)] [8, 9, 12, 13, 14, 15, 16, 17, 18, 20, 21, 23, 25, 26, 28, 94, 95, 96, 113, 114, 115] [] (os := [Con Try.prog 34 [] [B8 d] [(340005, Blk.mk (u8s (cPo d)) true 0 (some (5, 1)))] (V.tup [u32 (cNo d), V.sl 340005 0 (List.length (cPo d)), i64 (cE d)])]) (s' := St.mk [(8, tp (vb false)), (9, tp (V.vs (LL ls) (List.length ls))), (12, tp (u32 vn)), (13, tp (B8 vp)), (14, tp (i64 ve)), (15, tp (u32 vn)), (16, tp (B8 vp)), (17, tp (i64 ve)), (18, tp (u16 G)), (20, tp (B8 c)), (21, tp (u32 (cNo c))), (23, tp (i64 (cE c))), (25, tp (B8 d)), (26, tp (u32 (cNo d))), (28, tp (i64 (cE d))), (94, tp (V.vs (LL ls) (List.length ls))), (95, tp (i64 (↑(List.length ls) : Int))), (96, tp (i64 i)), (113, tp (V.vs (LL ls) (List.length ls))), (114, tp (i64 (↑(List.length ls) : Int))), (115, tp (i64 j))] []) (by kernel_rfl) ⟨(con_rparse (d) (List.length d) (by omega) (by assumption) (by assumption)), trivial⟩ ?_
    refine AWP.seq ?_
    refine AWP.regionT tcok hmix [(2, ⟨none, some ⟨vb (cE c == 0 && (cE d != 0 || decide (cNo c > cNo d))), [], []⟩⟩)] [8, 9, 12, 13, 14, 15, 16, 17, 18, 20, 21, 23, 94, 95, 96, 113, 114, 115, 139] [] (os := [Con Try.prog 41 [] [B8 c, B8 d] [] (vb (cE c == 0 && (cE d != 0 || decide (cNo c > cNo d))))]) (s' := St.mk [(8, tp (vb false)), (9, tp (V.vs (LL ls) (List.length ls))), (12, tp (u32 vn)), (13, tp (B8 vp)), (14, tp (i64 ve)), (15, tp (u32 vn)), (16, tp (B8 vp)), (17, tp (i64 ve)), (18, tp (u16 G)), (20, tp (B8 c)), (21, tp (u32 (cNo c))), (23, tp (i64 (cE c))), (94, tp (V.vs (LL ls) (List.length ls))), (95, tp (i64 (↑(List.length ls) : Int))), (96, tp (i64 i)), (113, tp (V.vs (LL ls) (List.length ls))), (114, tp (i64 (↑(List.length ls) : Int))), (115, tp (i64 j)), (139, tp (vb (bl false ((cE c == 0 && (cE d != 0 || decide (cNo c > cNo d))) == (cE c == 0 && (cE d != 0 || decide (cNo c > cNo d)))))))] []) (by kernel_rfl) ⟨(nw ), trivial⟩ ?_
    refine AWP.cond (b := bl false ((cE c == 0 && (cE d != 0 || decide (cNo c > cNo d))) == (cE c == 0 && (cE d != 0 || decide (cNo c > cNo d))))) (by kernel_rfl) (fun hq10 => ?_) (fun hq10 => ?_)
    · (simp [bl] at hq10; done)
    refine AWP.skip ?_
    refine AWP.region tcok hmix [(0, ⟨some (i64 (j + 1)), none⟩)] (os := [i64 (IntKind.wrap IntKind.i64 (j + 1)) = i64 (j + 1)]) (sf := St.mk [(8, tp (vb false)), (9, tp (V.vs (LL ls) (List.length ls))), (12, tp (u32 vn)), (13, tp (B8 vp)), (14, tp (i64 ve)), (15, tp (u32 vn)), (16, tp (B8 vp)), (17, tp (i64 ve)), (18, tp (u16 G)), (20, tp (B8 c)), (21, tp (u32 (cNo c))), (23, tp (i64 (cE c))), (94, tp (V.vs (LL ls) (List.length ls))), (95, tp (i64 (↑(List.length ls) : Int))), (96, tp (i64 i)), (113, tp (V.vs (LL ls) (List.length ls))), (114, tp (i64 (↑(List.length ls) : Int))), (115, tp (i64 (j + 1))), (139, tp (vb (bl false ((cE c == 0 && (cE d != 0 || decide (cNo c > cNo d))) == (cE c == 0 && (cE d != 0 || decide (cNo c > cNo d))))))), (140, tp (i64 (j + 1)))] []) (by kernel_rfl) ⟨(wr_i64 (by omega) (by omega)), trivial⟩ ?_
    refine ⟨St.mk [(8, tp (vb false)), (9, tp (V.vs (LL ls) (List.length ls))), (12, tp (u32 vn)), (13, tp (B8 vp)), (14, tp (i64 ve)), (15, tp (u32 vn)), (16, tp (B8 vp)), (17, tp (i64 ve)), (18, tp (u16 G)), (20, tp (B8 c)), (21, tp (u32 (cNo c))), (23, tp (i64 (cE c))), (94, tp (V.vs (LL ls) (List.length ls))), (95, tp (i64 (↑(List.length ls) : Int))), (96, tp (i64 i)), (113, tp (V.vs (LL ls) (List.length ls))), (114, tp (i64 (↑(List.length ls) : Int))), (115, tp (i64 (j + 1)))] [], by kernel_rfl, ?_⟩
    (exact ⟨(ls.length - (j + 1)).toNat, (by omega), j + 1, rfl, (by omega), (by omega), (by omega)⟩)
  simp only [decide_eq_false_iff_not] at hq9
  (exfalso; omega)
theorem lists6 {w : V} (hw : TyV tc 9 40 w) : ∃ (xs : List V) (n : Nat), w = .vs xs n ∧ n ≤ 9223372036854775807 ∧ ∀ i : Nat, i < n → ∃ (l : List Int) (r : List V), xs.drop (i * 1) = .vs (u8s l) l.length :: r ∧ BL l ∧ l.length ≤ 9223372036854775807 := by
  obtain ⟨xs, n, e1, hn, h1⟩ := hw
  cases e1
  refine ⟨xs, n, rfl, hn, fun i hi => ?_⟩
  obtain ⟨r, rest, hr, h2⟩ := rows_drop (k := 1) (fun r hr => by obtain ⟨cs, m, rfl, _, _⟩ := hr; rfl) h1 i hi
  obtain ⟨cs, m, rfl, hm, h3⟩ := hr
  obtain ⟨l, rfl, rfl, hl⟩ := bytes_rows (fun r hr => by obtain ⟨z, rfl, z1, z2⟩ := hr; exact ⟨z, rfl, z1, Int.lt_add_one_of_le z2⟩) h3
  exact ⟨l, rest, h2, hl, hm⟩
theorem law_CellVotes (l seqs which spoil : V) (hl : TyV tc 9 40 l) (hs : TyV tc 9 63 seqs) (hw : TyV tc 9 5 which) (hp : TyV tc 9 5 spoil) : Con Try.prog 8 [] [l, seqs, which, spoil] [] (vb true) := by
  obtain ⟨xs, n, rfl, hn, kx⟩ := lists6 hl
  obtain ⟨w, e, w0, w1⟩ := hw
  cases e
  obtain ⟨p, e, k0, k1⟩ := hp
  cases e
  obtain ⟨ss, m, e1, hm, h1⟩ := hs
  cases e1
  refine votes6 xs ss n m w p hn hm ⟨w0, Int.lt_add_one_of_le w1⟩ ⟨k0, Int.lt_add_one_of_le k1⟩ kx (fun i hi => ?_)
  obtain ⟨r, rest, hr, h2⟩ := rows_drop (k := 1) (fun r hr => by obtain ⟨z, rfl, _, _⟩ := hr; rfl) h1 i hi
  obtain ⟨z, rfl, z1, z2⟩ := hr
  exact ⟨z, rest, h2, z1, Int.lt_add_one_of_le z2⟩
end Go.Proofs.Ytmeiemdnhjnpcaa
