/- Bytes: cut, compared. -/
import Derived.Test.YtieoaeidlcdggaaDoorRg
import Derived.Test.YtieoaeidlcdggaaDoorTc
import Derived.Test.YtieoaeidlcdggaaDoorAb24
namespace Go.Proofs.YtieoaeidlcdggaaDoor
open Go Go.Ab
set_option linter.unusedSimpArgs false
set_option linter.unusedVariables false
theorem cut_end {l : List Int} {m i : Nat} (h : l.length ≤ i) : l.take (min i m) = l.take m := by
  rcases Nat.le_total i m with h1 | h1
  · rw [Nat.min_eq_left h1, List.take_of_length_le h, List.take_of_length_le (by omega)]
  · rw [Nat.min_eq_right h1]
theorem cut_in {l : List Int} {m i : Nat} (h : i < l.length) (h2 : i < m) : l.take (min i m) ++ [l.getD i 0] = l.take (min (i + 1) m) := by
  rw [Nat.min_eq_left (by omega), Nat.min_eq_left (by omega), List.take_add_one]
  simp [List.getD_eq_getElem?_getD, List.getElem?_eq_getElem h]
theorem cut_out {l : List Int} {m i : Nat} (h : m ≤ i) : l.take (min i m) = l.take (min (i + 1) m) := by
  rw [Nat.min_eq_right (by omega), Nat.min_eq_right (by omega)]
theorem con_cut (l : List Int) (m : Int) (hm : 0 ≤ m) (hm2 : m ≤ 1000000) (hl : l.length ≤ 9223372036854775807) : Con Tryd.prog 6 [] [.vs (u8s l) l.length, i64 m] [(5, ⟨u8s (l.take m.toNat), true, 0, some (5, 1)⟩)] (.sl 5 0 (l.take m.toNat).length) := by
  refine Con.of (C := ⟨Tryd.prog, tc, Tryd.f6.ntmps⟩) [5] tcok Tryd.func6 rfl rfl (by kernel_rfl) (by kernel_rfl) ?_
  refine AWP.seq ?_
  refine AWP.regionT tcok hmix [] [0, 1, 4] [4] (os := []) (s' := St.mk [(0, tp (B8 l)), (1, tp (i64 m)), (4, tp (V.sl 4 0 0))] [(4, Blk.mk [] true 0 (some (5, 1)))]) (by kernel_rfl) trivial ?_
  refine xe0 [0, 1, 4, 5] [4, 5] (by kernel_rfl) ?_
  refine AWP.seq ?_
  refine xe0 [1, 4, 5, 8, 9, 10] [4, 5] (by kernel_rfl) ?_
  refine AWP.block ?_
  refine AWP.loopI [1, 4, 5, 8, 9, 10] [4, 5] (fun N s => ∃ (i : Int) (o : List Int), s = St.mk [(1, T.plain (i64 m)), (4, T.plain (V.sl 4 0 0)), (5, T.plain (V.sl 5 0 o.length)), (8, T.plain (V.vs (u8s l) (List.length l))), (9, T.plain (i64 (List.length l))), (10, T.plain (i64 i))] [(4, Blk.mk [] true 0 (some (5, 1))), (5, Blk.mk (u8s o) true 0 (some (5, 1)))]
      ∧ o = l.take (min i.toNat m.toNat) ∧ 0 ≤ i ∧ (N : Int) = l.length - i) l.length (s0 := St.mk [(1, T.plain (i64 m)), (4, T.plain (V.sl 4 0 0)), (5, T.plain (V.sl 5 0 0)), (8, T.plain (V.vs (u8s l) (List.length l))), (9, T.plain (i64 (List.length l))), (10, T.plain (i64 0))] [(4, Blk.mk [] true 0 (some (5, 1))), (5, Blk.mk [] true 0 (some (5, 1)))]) (by kernel_rfl) ?_ ?_
  · exact ⟨0, [], rfl, by simp, by omega, by omega⟩
  rintro N s ⟨i, o, rfl, ho, hi, hN⟩
  have kx := u8s_at l i.toNat
  have hol : o.length ≤ 1000000 := by rw [ho, List.length_take]; omega
  refine AWP.seq ?_
  refine AWP.regionT tcok hmix [] [1, 4, 5, 8, 9, 10, 11] [4, 5] (os := []) (s' := St.mk [(1, tp (i64 m)), (4, tp (V.sl 4 0 0)), (5, tp (V.sl 5 0 (List.length o))), (8, tp (B8 l)), (9, tp (i64 (↑(List.length l) : Int))), (10, tp (i64 i)), (11, tp (vb (decide (i < (↑(List.length l) : Int)))))] [(4, Blk.mk [] true 0 (some (5, 1))), (5, Blk.mk (u8s o) true 0 (some (5, 1)))]) (by kernel_rfl) trivial ?_
  refine AWP.seq ?_
  refine AWP.cond (b := decide (i < (↑(List.length l) : Int))) (by kernel_rfl) (fun hq0 => ?_) (fun hq0 => ?_)
  · simp only [decide_eq_true_eq] at hq0
    refine AWP.skip ?_
    refine AWP.seq ?_
    refine AWP.block ?_
    refine AWP.seq ?_
    refine AWP.regionT tcok hmix [(1, ⟨some (V.vp (u8 (List.getD l (Int.toNat i) 0) :: u8s (List.drop (Int.toNat i + 1) l))), none⟩)] [1, 4, 5, 6, 7, 8, 9, 10] [4, 5] (os := [(0 : Int) ≤ i ∧ i < (↑(List.length l) : Int), V.vp (List.drop (Int.toNat i * 1) (u8s l)) = V.vp (u8 (List.getD l (Int.toNat i) 0) :: u8s (List.drop (Int.toNat i + 1) l))]) (s' := St.mk [(1, tp (i64 m)), (4, tp (V.sl 4 0 0)), (5, tp (V.sl 5 0 (List.length o))), (6, tp (i64 i)), (7, tp (u8 (List.getD l (Int.toNat i) 0))), (8, tp (B8 l)), (9, tp (i64 (↑(List.length l) : Int))), (10, tp (i64 i))] [(4, Blk.mk [] true 0 (some (5, 1))), (5, Blk.mk (u8s o) true 0 (some (5, 1)))]) (by kernel_rfl) ⟨(by omega), (congrArg V.vp (kx (by omega))), trivial⟩ ?_
    refine xe0 [1, 4, 5, 7, 8, 9, 10, 17] [4, 5] (by kernel_rfl) ?_
    refine AWP.cond (b := decide (i < m)) (by kernel_rfl) (fun hq1 => ?_) (fun hq1 => ?_)
    · simp only [decide_eq_true_eq] at hq1
      refine AWP.region tcok hmix [(3, ⟨some (V.tup [V.agg true (u8s (o ++ [List.getD l (Int.toNat i) 0])), V.sl 0 0 (List.length (o ++ [List.getD l (Int.toNat i) 0]))]), none⟩)] (os := [(1 : Nat) ≤ (1 : Nat), List.length o * (1 : Nat) = List.length (u8s o), List.length o + (1 : Nat) ≤ (9223372036854775807 : Nat), (List.length o + (1 : Nat)) * (1 : Nat) ≤ (140737488355328 : Nat), u8s o ++ List.take ((1 : Nat) * (1 : Nat)) (List.drop (0 : Nat) [u8 (List.getD l (Int.toNat i) (0 : Int))]) = u8s (o ++ [List.getD l (Int.toNat i) (0 : Int)]), List.length o + (1 : Nat) = List.length (o ++ [List.getD l (Int.toNat i) (0 : Int)])]) (sf := St.mk [(1, tp (i64 m)), (4, tp (V.sl 4 0 0)), (5, tp (V.sl 5 0 (List.length (o ++ [List.getD l (Int.toNat i) 0])))), (7, tp (u8 (List.getD l (Int.toNat i) 0))), (8, tp (B8 l)), (9, tp (i64 (↑(List.length l) : Int))), (10, tp (i64 i)), (17, tp (vb (decide (i < m)))), (18, tp V.top), (19, tp (u8 (List.getD l (Int.toNat i) 0))), (20, tp (V.sl 20 0 1)), (21, tp (V.sl 5 0 (List.length (o ++ [List.getD l (Int.toNat i) 0]))))] [(4, Blk.mk [] true 0 (some (5, 1))), (5, Blk.mk (u8s (o ++ [List.getD l (Int.toNat i) 0])) true 0 (some (5, 1))), (20, Blk.mk [u8 (List.getD l (Int.toNat i) 0)] true 0 (some (5, 1)))]) (by kernel_rfl) ⟨(by omega), (by (simp [len_u8s]; done)), (by omega), (by omega), (by first | rfl | (show u8s (o) ++ _ = _; simp only [u8s_drop, u8s_take, List.drop_zero, Nat.mul_one, Nat.one_mul, u8s_app, List.take_length, List.nil_append, List.append_nil]; done) | (simp [u8s]; done) | (simp [u8s]; omega)), (by (simp [len_u8s]; done)), trivial⟩ ?_
      refine AWP.keep' [1, 4, 5, 8, 9, 10] [4, 5] (sf := St.mk [(1, tp (i64 m)), (4, tp (V.sl 4 0 0)), (5, tp (V.sl 5 0 (List.length (o ++ [List.getD l (Int.toNat i) 0])))), (8, tp (B8 l)), (9, tp (i64 (↑(List.length l) : Int))), (10, tp (i64 i))] [(4, Blk.mk [] true 0 (some (5, 1))), (5, Blk.mk (u8s (o ++ [List.getD l (Int.toNat i) 0])) true 0 (some (5, 1)))]) (by kernel_rfl) ?_
      refine AWP.region tcok hmix [(0, ⟨some (i64 (i + 1)), none⟩)] (os := [i64 (IntKind.wrap IntKind.i64 (i + 1)) = i64 (i + 1)]) (sf := St.mk [(1, tp (i64 m)), (4, tp (V.sl 4 0 0)), (5, tp (V.sl 5 0 (List.length (o ++ [List.getD l (Int.toNat i) 0])))), (8, tp (B8 l)), (9, tp (i64 (↑(List.length l) : Int))), (10, tp (i64 (i + 1))), (22, tp (i64 (i + 1)))] [(4, Blk.mk [] true 0 (some (5, 1))), (5, Blk.mk (u8s (o ++ [List.getD l (Int.toNat i) 0])) true 0 (some (5, 1)))]) (by kernel_rfl) ⟨(wr_i64 (by omega) (by omega)), trivial⟩ ?_
      refine ⟨St.mk [(1, tp (i64 m)), (4, tp (V.sl 4 0 0)), (5, tp (V.sl 5 0 (List.length (o ++ [List.getD l (Int.toNat i) 0])))), (8, tp (B8 l)), (9, tp (i64 (↑(List.length l) : Int))), (10, tp (i64 (i + 1)))] [(4, Blk.mk [] true 0 (some (5, 1))), (5, Blk.mk (u8s (o ++ [List.getD l (Int.toNat i) 0])) true 0 (some (5, 1)))], by kernel_rfl, ?_⟩
      first | (have e := ho.trans (cut_end (by omega)); rw [e]; done) | (exact ⟨(l.length - (i + 1)).toNat, (by omega), i + 1, _, rfl, (by rw [ho, show (i + 1).toNat = i.toNat + 1 by omega]; exact cut_in (by omega) (by omega)), (by omega), (by omega)⟩) | (exact ⟨(l.length - (i + 1)).toNat, (by omega), i + 1, _, rfl, (by rw [ho, show (i + 1).toNat = i.toNat + 1 by omega]; exact cut_out (by omega)), (by omega), (by omega)⟩)
    simp only [decide_eq_false_iff_not] at hq1
    refine AWP.skip ?_
    refine AWP.region tcok hmix [(0, ⟨some (i64 (i + 1)), none⟩)] (os := [i64 (IntKind.wrap IntKind.i64 (i + 1)) = i64 (i + 1)]) (sf := St.mk [(1, tp (i64 m)), (4, tp (V.sl 4 0 0)), (5, tp (V.sl 5 0 (List.length o))), (7, tp (u8 (List.getD l (Int.toNat i) 0))), (8, tp (B8 l)), (9, tp (i64 (↑(List.length l) : Int))), (10, tp (i64 (i + 1))), (17, tp (vb (decide (i < m)))), (22, tp (i64 (i + 1)))] [(4, Blk.mk [] true 0 (some (5, 1))), (5, Blk.mk (u8s o) true 0 (some (5, 1)))]) (by kernel_rfl) ⟨(wr_i64 (by omega) (by omega)), trivial⟩ ?_
    refine ⟨St.mk [(1, tp (i64 m)), (4, tp (V.sl 4 0 0)), (5, tp (V.sl 5 0 (List.length o))), (8, tp (B8 l)), (9, tp (i64 (↑(List.length l) : Int))), (10, tp (i64 (i + 1)))] [(4, Blk.mk [] true 0 (some (5, 1))), (5, Blk.mk (u8s o) true 0 (some (5, 1)))], by kernel_rfl, ?_⟩
    first | (have e := ho.trans (cut_end (by omega)); rw [e]; done) | (exact ⟨(l.length - (i + 1)).toNat, (by omega), i + 1, _, rfl, (by rw [ho, show (i + 1).toNat = i.toNat + 1 by omega]; exact cut_in (by omega) (by omega)), (by omega), (by omega)⟩) | (exact ⟨(l.length - (i + 1)).toNat, (by omega), i + 1, _, rfl, (by rw [ho, show (i + 1).toNat = i.toNat + 1 by omega]; exact cut_out (by omega)), (by omega), (by omega)⟩)
  simp only [decide_eq_false_iff_not] at hq0
  refine AWP.exit ?_
  refine AWP.seq ?_
  refine AWP.keep' [5] [5] (sf := St.mk [(5, tp (V.sl 5 0 (List.length o)))] [(5, Blk.mk (u8s o) true 0 (some (5, 1)))]) (by kernel_rfl) ?_
  refine AWP.regionT tcok hmix [] [4] [5] (os := []) (s' := St.mk [(4, tp (V.sl 5 0 (List.length o)))] [(5, Blk.mk (u8s o) true 0 (some (5, 1)))]) (by kernel_rfl) trivial ?_
  refine AWP.ret ?_
  refine ⟨Or.inr rfl, Eq.trans (b := some ([(5, Blk.mk (u8s o) true 0 (some (5, 1)))], V.sl 5 0 (List.length o))) (by kernel_rfl) ?_⟩
  first | (have e := ho.trans (cut_end (by omega)); rw [e]; done) | (exact ⟨(l.length - (i + 1)).toNat, (by omega), i + 1, _, rfl, (by rw [ho, show (i + 1).toNat = i.toNat + 1 by omega]; exact cut_in (by omega) (by omega)), (by omega), (by omega)⟩) | (exact ⟨(l.length - (i + 1)).toNat, (by omega), i + 1, _, rfl, (by rw [ho, show (i + 1).toNat = i.toNat + 1 by omega]; exact cut_out (by omega)), (by omega), (by omega)⟩)
theorem same_ext {l k : List Int} (h : l.length = k.length) (hall : ∀ j, j < l.length → l.getD j 0 = k.getD j 0) : l = k := by
  apply List.ext_getElem h
  intro j h1 h2
  have := hall j h1
  simpa [List.getD_eq_getElem?_getD, List.getElem?_eq_getElem h1, List.getElem?_eq_getElem h2] using this
theorem con_same (l k : List Int) (hl : l.length ≤ 9223372036854775807) (hk : k.length ≤ 9223372036854775807) : Con Tryd.prog 12 [] [.vs (u8s l) l.length, .vs (u8s k) k.length] [] (vb (decide (l = k))) := by
  refine Con.of (C := ⟨Tryd.prog, tc, Tryd.f12.ntmps⟩) [] tcok Tryd.func12 rfl rfl (by kernel_rfl) (by kernel_rfl) ?_
  refine AWP.seq ?_
  refine AWP.regionT tcok hmix [] [0, 1, 4] [] (os := []) (s' := St.mk [(0, tp (B8 l)), (1, tp (B8 k)), (4, tp (vb false))] []) (by kernel_rfl) trivial ?_
  refine AWP.seq ?_
  refine xe0 [0, 1, 4, 10] [] (by kernel_rfl) ?_
  refine AWP.cond (b := (↑(List.length l) : Int) != (↑(List.length k) : Int)) (by kernel_rfl) (fun hq2 => ?_) (fun hq2 => ?_)
  · simp only [bne_iff_ne] at hq2
    refine AWP.seq ?_
    refine AWP.regionT tcok hmix [] [0, 1, 4] [] (os := []) (s' := St.mk [(0, tp (B8 l)), (1, tp (B8 k)), (4, tp (vb false))] []) (by kernel_rfl) trivial ?_
    refine AWP.ret ?_
    refine ⟨Or.inr rfl, Eq.trans (b := some ([], vb false)) (by kernel_rfl) ?_⟩
    first | (have e : ¬ l = k := (fun h => by subst h; simp at hq0); simp [e]; done) | (have e : ¬ l = k := (fun h => by subst h; omega); simp [e]; done)
  simp only [bne_eq_false_iff_eq] at hq2
  refine AWP.skip ?_
  refine AWP.seq ?_
  refine AWP.seq ?_
  refine AWP.regionT tcok hmix [] [0, 1, 4, 12, 13] [] (os := []) (s' := St.mk [(0, tp (B8 l)), (1, tp (B8 k)), (4, tp (vb false)), (12, tp (i64 (↑(List.length l) : Int))), (13, tp (i64 0))] []) (by kernel_rfl) trivial ?_
  refine AWP.block ?_
  refine AWP.loopI [0, 1, 4, 12, 13] [] (fun N s => ∃ (i : Int), s = St.mk [(0, T.plain (V.vs (u8s l) (List.length l))), (1, T.plain (V.vs (u8s k) (List.length k))), (4, T.plain (vb false)), (12, T.plain (i64 (List.length l))), (13, T.plain (i64 i))] []
      ∧ (∀ j : Nat, j < i.toNat → l.getD j 0 = k.getD j 0) ∧ 0 ≤ i ∧ (N : Int) = l.length - i) l.length (s0 := St.mk [(0, T.plain (V.vs (u8s l) (List.length l))), (1, T.plain (V.vs (u8s k) (List.length k))), (4, T.plain (vb false)), (12, T.plain (i64 (List.length l))), (13, T.plain (i64 0))] []) (by kernel_rfl) ?_ ?_
  · exact ⟨0, rfl, fun j hj => by simp at hj, by omega, by omega⟩
  rintro N s ⟨i, rfl, hall, hi, hN⟩
  have kx := u8s_at l i.toNat
  have ky := u8s_at k i.toNat
  have hlk : l.length = k.length := by first | omega | (simp at *; omega)
  refine AWP.seq ?_
  refine AWP.regionT tcok hmix [] [0, 1, 4, 12, 13, 14] [] (os := []) (s' := St.mk [(0, tp (B8 l)), (1, tp (B8 k)), (4, tp (vb false)), (12, tp (i64 (↑(List.length l) : Int))), (13, tp (i64 i)), (14, tp (vb (decide (i < (↑(List.length l) : Int)))))] []) (by kernel_rfl) trivial ?_
  refine AWP.seq ?_
  refine AWP.cond (b := decide (i < (↑(List.length l) : Int))) (by kernel_rfl) (fun hq3 => ?_) (fun hq3 => ?_)
  · simp only [decide_eq_true_eq] at hq3
    refine AWP.skip ?_
    refine AWP.seq ?_
    refine AWP.block ?_
    refine AWP.seq ?_
    refine AWP.regionT tcok hmix [] [0, 1, 4, 5, 12, 13] [] (os := []) (s' := St.mk [(0, tp (B8 l)), (1, tp (B8 k)), (4, tp (vb false)), (5, tp (i64 i)), (12, tp (i64 (↑(List.length l) : Int))), (13, tp (i64 i))] []) (by kernel_rfl) trivial ?_
    refine xe1 (os := [(0 : Int) ≤ i ∧ i < (↑(List.length l) : Int), V.vp (List.drop (Int.toNat i * 1) (u8s l)) = V.vp (u8 (List.getD l (Int.toNat i) 0) :: u8s (List.drop (Int.toNat i + 1) l)), (0 : Int) ≤ i ∧ i < (↑(List.length k) : Int), V.vp (List.drop (Int.toNat i * 1) (u8s k)) = V.vp (u8 (List.getD k (Int.toNat i) 0) :: u8s (List.drop (Int.toNat i + 1) k))]) [(2, ⟨some (V.vp (u8 (List.getD l (Int.toNat i) 0) :: u8s (List.drop (Int.toNat i + 1) l))), none⟩), (6, ⟨some (V.vp (u8 (List.getD k (Int.toNat i) 0) :: u8s (List.drop (Int.toNat i + 1) k))), none⟩)] [0, 1, 4, 12, 13, 24] [] (by kernel_rfl) ⟨(by omega), (congrArg V.vp (kx (by omega))), (by omega), (congrArg V.vp (ky (by omega))), trivial⟩ ?_
    refine AWP.cond (b := List.getD l (Int.toNat i) 0 != List.getD k (Int.toNat i) 0) (by kernel_rfl) (fun hq4 => ?_) (fun hq4 => ?_)
    · simp only [bne_iff_ne] at hq4
      refine AWP.seq ?_
      refine AWP.regionT tcok hmix [] [0, 1, 4, 12, 13] [] (os := []) (s' := St.mk [(0, tp (B8 l)), (1, tp (B8 k)), (4, tp (vb false)), (12, tp (i64 (↑(List.length l) : Int))), (13, tp (i64 i))] []) (by kernel_rfl) trivial ?_
      refine AWP.ret ?_
      refine ⟨Or.inr rfl, Eq.trans (b := some ([], vb false)) (by kernel_rfl) ?_⟩
      first | (have e : l = k := same_ext hlk (fun j hj => hall j (by omega)); simp [e]; done) | (have e : ¬ l = k := (fun h => by subst h; omega); simp [e]; done) | (exact ⟨(l.length - (i + 1)).toNat, (by omega), i + 1, rfl, (fun j hj => by by_cases e : j = i.toNat; (subst e; omega); exact hall j (by omega)), (by omega), (by omega)⟩)
    simp only [bne_eq_false_iff_eq] at hq4
    refine AWP.skip ?_
    refine AWP.region tcok hmix [(0, ⟨some (i64 (i + 1)), none⟩)] (os := [i64 (IntKind.wrap IntKind.i64 (i + 1)) = i64 (i + 1)]) (sf := St.mk [(0, tp (B8 l)), (1, tp (B8 k)), (4, tp (vb false)), (12, tp (i64 (↑(List.length l) : Int))), (13, tp (i64 (i + 1))), (24, tp (vb (List.getD l (Int.toNat i) 0 != List.getD k (Int.toNat i) 0))), (25, tp (i64 (i + 1)))] []) (by kernel_rfl) ⟨(wr_i64 (by omega) (by omega)), trivial⟩ ?_
    refine ⟨St.mk [(0, tp (B8 l)), (1, tp (B8 k)), (4, tp (vb false)), (12, tp (i64 (↑(List.length l) : Int))), (13, tp (i64 (i + 1)))] [], by kernel_rfl, ?_⟩
    first | (have e : l = k := same_ext hlk (fun j hj => hall j (by omega)); simp [e]; done) | (have e : ¬ l = k := (fun h => by subst h; omega); simp [e]; done) | (exact ⟨(l.length - (i + 1)).toNat, (by omega), i + 1, rfl, (fun j hj => by by_cases e : j = i.toNat; (subst e; omega); exact hall j (by omega)), (by omega), (by omega)⟩)
  simp only [decide_eq_false_iff_not] at hq3
  refine AWP.exit ?_
  refine AWP.seq ?_
  refine AWP.regionT tcok hmix [] [4] [] (os := []) (s' := St.mk [(4, tp (vb true))] []) (by kernel_rfl) trivial ?_
  refine AWP.ret ?_
  refine ⟨Or.inr rfl, Eq.trans (b := some ([], vb true)) (by kernel_rfl) ?_⟩
  first | (have e : l = k := same_ext hlk (fun j hj => hall j (by omega)); simp [e]; done) | (have e : ¬ l = k := (fun h => by subst h; omega); simp [e]; done) | (exact ⟨(l.length - (i + 1)).toNat, (by omega), i + 1, rfl, (fun j hj => by by_cases e : j = i.toNat; (subst e; omega); exact hall j (by omega)), (by omega), (by omega)⟩)
end Go.Proofs.YtieoaeidlcdggaaDoor
