/- What the ground says: a phrase that is none. -/
import Derived.Test.YtieoaeidlcdggaaGreatDoorRg
import Derived.Test.YtieoaeidlcdggaaGreatDoorGsI
namespace Go.Proofs.YtieoaeidlcdggaaGreatDoor
open Go Go.Ab
set_option linter.unusedSimpArgs false
set_option linter.unusedVariables false
set_option maxRecDepth 100000
theorem numsO_snoc : ∀ {l : List ByteArray} {ds : List Int} {x : ByteArray}, numsO l = some ds → numsO (l ++ [x]) = (numO x).map fun n => ds ++ [(n : Int)]
  | [], ds, x, h => by
    cases h
    show numsO [x] = _
    unfold numsO
    cases numO x <;> rfl
  | y :: r, ds, x, h => by
    unfold numsO at h
    rw [List.cons_append, numsO]
    split at h
    · cases h
    · rename_i n hn
      obtain ⟨l, h1, rfl⟩ := Option.map_eq_some_iff.1 h
      rw [numsO_snoc h1]
      cases numO x <;> rfl
theorem numsO_len : ∀ {l : List ByteArray} {ds : List Int}, numsO l = some ds → ds.length = l.length := fun h => (numsO_all h).1
theorem sayO_no {s : ByteArray} (h : sayO s = none) : ∃ hd tl, spl s = hd :: tl ∧ ∀ ds, numsO tl = some ds → ∀ w ∈ wds, isWd hd ds.length w = false := by
  obtain ⟨hd, tl, hsp⟩ : ∃ hd tl, spl s = hd :: tl := by
    cases hh : spl s with
    | nil => have := spl_pos s; rw [hh] at this; simp at this
    | cons a b => exact ⟨a, b, rfl⟩
  refine ⟨hd, tl, hsp, fun ds hd2 w hw => ?_⟩
  unfold sayO at h
  rw [hsp] at h
  simp only [hd2, Option.map_eq_none_iff] at h
  have := List.find?_eq_none.1 h w hw
  simpa using this
theorem con_say_no (s : ByteArray) (hs : s.size ≤ 1000) (h : sayO s = none) : Con Tryz.prog 12 [] [strV s] [] (.tup [.agg true [u8 0, u8 0, u8 0, u16 0, .val (.slice none 0 0)], i64 13]) := by
  have c1 := con_split s (by omega)
  obtain ⟨hd, tl, hsp, hno⟩ := sayO_no h
  have hX0 : (spl s).map strV = strV hd :: tl.map strV := by rw [hsp]; rfl
  have hN0 : (spl s).length = tl.length + 1 := by rw [hsp]; rfl
  have htl : tl.length ≤ 1001 := by have := spl_len s; omega
  have hsm : ∀ x ∈ tl, x.size ≤ 1000 := fun x hx => by have := spl_small s x (by rw [hsp]; simp [hx]); omega
  generalize (spl s).map strV = X at c1 hX0
  generalize (spl s).length = n at c1 hN0
  have hY0 : ∃ Y, Y = tl.map strV := ⟨_, rfl⟩
  obtain ⟨Y, hY0⟩ := hY0
  have hY : subV X (some (i64 1)) none (Int.toNat 1 * 1) (Int.toNat (n : Int) * 1) ((Int.toNat (n : Int) - Int.toNat 1) * 1) = Y := by
    rw [hY0, hX0]
    simp only [subV, Int.toNat_natCast, hN0]
    have e : tl.length + 1 - 1 = (tl.map strV).length := by simp
    simp
    rw [List.take_of_length_le (by simp)]
  have hm : Int.toNat (n : Int) - 1 = tl.length := by omega
  refine Con.of (C := ⟨Tryz.prog, tc, Tryz.f12.ntmps⟩) [] tcok Tryz.func12 rfl rfl (by kernel_rfl) (by kernel_rfl) ?_
  refine AWP.seq ?_
  refine AWP.regionT tcok hmix [] [0, 2, 3] [2] (os := []) (s' := St.mk [(0, tp (V.val (Value.string s))), (2, tp (V.ptr 2 0)), (3, tp (i64 0))] [(2, Blk.mk [u8 0, u8 0, u8 0, u16 0, V.val (Value.slice none 0 0)] true 5 none)]) (by kernel_rfl) trivial ?_
  refine xe1 (os := [Con Tryz.prog 24 [] [V.val (Value.string s), V.val (Value.string (ByteArray.mk #[32]))] [(5, Blk.mk X true 0 (some (9, 1)))] (V.sl 5 0 n)]) [(1, ⟨none, some ⟨V.sl 5 0 n, [(5, Blk.mk X true 0 (some (9, 1)))], []⟩⟩)] [2, 3, 4] [2, 140005] (by kernel_rfl) ⟨(c1 ), trivial⟩ ?_
  refine xe0 [2, 3, 4, 5] [2, 5, 140005] (by kernel_rfl) ?_
  refine AWP.seq ?_
  refine AWP.seq ?_
  refine AWP.frz 140005 (s' := St.mk [(2, T.plain (V.ptr 2 0)), (3, T.plain (i64 0)), (4, T.plain (V.vs X n)), (5, T.plain (V.sl 5 0 0))] [(2, Blk.mk [u8 0, u8 0, u8 0, u16 0, V.val (Value.slice none 0 0)] true 5 none), (5, Blk.mk [] true 0 (some (5, 1)))]) (by kernel_rfl) ?_
  refine xg1 (os := [(0 : Int) ≤ (1 : Int) ∧ (1 : Int) ≤ (↑n : Int) ∧ (↑n : Int) ≤ (↑n : Int), V.vs (subV X (some (i64 1)) none (Int.toNat 1 * 1) (Int.toNat (↑n : Int) * 1) ((Int.toNat (↑n : Int) - Int.toNat 1) * 1)) (Int.toNat (↑n : Int) - 1) = V.vs (subV X (some (i64 1)) none (Int.toNat 1 * 1) (Int.toNat (↑n : Int) * 1) ((Int.toNat (↑n : Int) - Int.toNat 1) * 1)) (Int.toNat (↑n : Int) - 1)]) [(1, ⟨some (V.vs (subV X (some (i64 1)) none (Int.toNat 1 * 1) (Int.toNat (↑n : Int) * 1) ((Int.toNat (↑n : Int) - Int.toNat 1) * 1)) (Int.toNat (↑n : Int) - 1)), none⟩)] [2, 3, 4, 5, 15, 16, 17] [2, 5] (by kernel_rfl) ⟨(by omega), rfl, trivial⟩ ?_
  refine AWP.block ?_
  rw [hY, hm]
  refine AWP.loopI [2, 3, 4, 5, 15, 16, 17] [2, 5] (fun N st => ∃ (i : Int) (o : List Int), st = St.mk [(2, T.plain (V.ptr 2 0)), (3, T.plain (i64 0)), (4, T.plain (V.vs X n)), (5, T.plain (V.sl 5 0 o.length)), (15, T.plain (V.vs Y tl.length)), (16, T.plain (i64 (tl.length : Int))), (17, T.plain (i64 i))] [(2, Blk.mk [u8 0, u8 0, u8 0, u16 0, V.val (Value.slice none 0 0)] true 5 none), (5, Blk.mk (u8s o) true 0 (some (5, 1)))]
      ∧ numsO (tl.take i.toNat) = some o ∧ 0 ≤ i ∧ i ≤ tl.length ∧ (N : Int) = tl.length - i) tl.length (s0 := St.mk [(2, T.plain (V.ptr 2 0)), (3, T.plain (i64 0)), (4, T.plain (V.vs X n)), (5, T.plain (V.sl 5 0 0)), (15, T.plain (V.vs Y tl.length)), (16, T.plain (i64 (tl.length : Int))), (17, T.plain (i64 0))] [(2, Blk.mk [u8 0, u8 0, u8 0, u16 0, V.val (Value.slice none 0 0)] true 5 none), (5, Blk.mk [] true 0 (some (5, 1)))]) (by kernel_rfl) ?_ ?_
  · exact ⟨0, [], rfl, rfl, by omega, by omega, by omega⟩
  rintro N st ⟨i, o, rfl, ho, hi, hi2, hN⟩
  have hol : o.length ≤ 1001 := by rw [numsO_len ho, List.length_take]; omega
  by_cases hlt : i < tl.length
  · have hi' : i.toNat < tl.length := by omega
    obtain ⟨x, hx⟩ : ∃ x, tl[i.toNat]? = some x := ⟨_, List.getElem?_eq_getElem hi'⟩
    have hdr : List.drop (i.toNat * 1) Y = strV x :: List.drop (i.toNat + 1) Y := by rw [hY0]; exact vs_drop strV tl _ x hx
    cases hk1 : numO x with
    | some k =>
      have c2 := con_num_ok x (by have := hsm x (List.mem_of_getElem? hx); omega) k hk1
      have hk256 := (numO_some hk1).1
      have hnx : numsO (tl.take (i.toNat + 1)) = some (o ++ [(k : Int)]) := by
        rw [List.take_add_one, hx]
        show numsO (_ ++ [x]) = _
        rw [numsO_snoc ho, hk1]
        rfl
      refine AWP.seq ?_
      refine AWP.regionT tcok hmix [] [2, 3, 4, 5, 15, 16, 17, 18] [2, 5] (os := []) (s' := St.mk [(2, tp (V.ptr 2 0)), (3, tp (i64 0)), (4, tp (V.vs X n)), (5, tp (V.sl 5 0 (List.length o))), (15, tp (V.vs Y (List.length tl))), (16, tp (i64 (↑(List.length tl) : Int))), (17, tp (i64 i)), (18, tp (vb (decide (i < (↑(List.length tl) : Int)))))] [(2, Blk.mk [u8 0, u8 0, u8 0, u16 0, V.val (Value.slice none 0 0)] true 5 none), (5, Blk.mk (u8s o) true 0 (some (5, 1)))]) (by kernel_rfl) trivial ?_
      refine AWP.seq ?_
      refine AWP.cond (b := decide (i < (↑(List.length tl) : Int))) (by kernel_rfl) (fun hq0 => ?_) (fun hq0 => ?_)
      · simp only [decide_eq_true_eq] at hq0
        refine AWP.skip ?_
        refine AWP.seq ?_
        refine AWP.block ?_
        refine AWP.seq ?_
        refine AWP.regionT tcok hmix [(0, ⟨some (V.vp (strV x :: List.drop (Int.toNat i + 1) Y)), none⟩)] [2, 3, 4, 5, 7, 15, 16, 17] [2, 5] (os := [(0 : Int) ≤ i ∧ i < (↑(List.length tl) : Int), V.vp (List.drop (Int.toNat i * 1) Y) = V.vp (V.val (Value.string x) :: List.drop (Int.toNat i + 1) Y)]) (s' := St.mk [(2, tp (V.ptr 2 0)), (3, tp (i64 0)), (4, tp (V.vs X n)), (5, tp (V.sl 5 0 (List.length o))), (7, tp (V.val (Value.string x))), (15, tp (V.vs Y (List.length tl))), (16, tp (i64 (↑(List.length tl) : Int))), (17, tp (i64 i))] [(2, Blk.mk [u8 0, u8 0, u8 0, u16 0, V.val (Value.slice none 0 0)] true 5 none), (5, Blk.mk (u8s o) true 0 (some (5, 1)))]) (by kernel_rfl) ⟨(by omega), (congrArg V.vp hdr), trivial⟩ ?_
        refine xe1 (os := [Con Tryz.prog 25 [] [V.val (Value.string x)] [] (V.tup [u8 (↑k : Int), vb true])]) [(1, ⟨none, some ⟨V.tup [u8 (↑k : Int), vb true], [], []⟩⟩)] [2, 3, 4, 5, 8, 9, 15, 16, 17] [2, 5] (by kernel_rfl) ⟨(c2 ), trivial⟩ ?_
        refine AWP.seq ?_
        refine xe0 [2, 3, 4, 5, 8, 15, 16, 17, 27] [2, 5] (by kernel_rfl) ?_
        refine AWP.condF (by kernel_rfl) ?_
        refine AWP.skip ?_
        refine AWP.region tcok hmix [(3, ⟨some (V.tup [V.agg true (u8s (o ++ [(↑k : Int)])), V.sl 0 0 (List.length (o ++ [(↑k : Int)]))]), none⟩)] (os := [(1 : Nat) ≤ (1 : Nat), List.length o * (1 : Nat) = List.length (u8s o), List.length o + (1 : Nat) ≤ (9223372036854775807 : Nat), (List.length o + (1 : Nat)) * (1 : Nat) ≤ (140737488355328 : Nat), u8s o ++ List.take ((1 : Nat) * (1 : Nat)) (List.drop (0 : Nat) [u8 (↑k : Int)]) = u8s (o ++ [(↑k : Int)]), List.length o + (1 : Nat) = List.length (o ++ [(↑k : Int)])]) (sf := St.mk [(2, tp (V.ptr 2 0)), (3, tp (i64 0)), (4, tp (V.vs X n)), (5, tp (V.sl 5 0 (List.length (o ++ [(↑k : Int)])))), (8, tp (u8 (↑k : Int))), (15, tp (V.vs Y (List.length tl))), (16, tp (i64 (↑(List.length tl) : Int))), (17, tp (i64 i)), (27, tp (vb false)), (29, tp V.top), (30, tp (u8 (↑k : Int))), (31, tp (V.sl 31 0 1)), (32, tp (V.sl 5 0 (List.length (o ++ [(↑k : Int)]))))] [(2, Blk.mk [u8 0, u8 0, u8 0, u16 0, V.val (Value.slice none 0 0)] true 5 none), (5, Blk.mk (u8s (o ++ [(↑k : Int)])) true 0 (some (5, 1))), (31, Blk.mk [u8 (↑k : Int)] true 0 (some (5, 1)))]) (by kernel_rfl) ⟨(by omega), (by (simp [len_u8s]; done)), (by omega), (by omega), (by first | rfl | (show u8s (o) ++ _ = _; simp only [u8s_drop, u8s_take, List.drop_zero, Nat.mul_one, Nat.one_mul, u8s_app, List.take_length, List.nil_append, List.append_nil]; done) | (simp [u8s]; done) | (simp [u8s]; omega)), (by (simp [len_u8s]; done)), trivial⟩ ?_
        refine AWP.keep' [2, 3, 4, 5, 15, 16, 17] [2, 5] (sf := St.mk [(2, tp (V.ptr 2 0)), (3, tp (i64 0)), (4, tp (V.vs X n)), (5, tp (V.sl 5 0 (List.length (o ++ [(↑k : Int)])))), (15, tp (V.vs Y (List.length tl))), (16, tp (i64 (↑(List.length tl) : Int))), (17, tp (i64 i))] [(2, Blk.mk [u8 0, u8 0, u8 0, u16 0, V.val (Value.slice none 0 0)] true 5 none), (5, Blk.mk (u8s (o ++ [(↑k : Int)])) true 0 (some (5, 1)))]) (by kernel_rfl) ?_
        refine AWP.region tcok hmix [(0, ⟨some (i64 (i + 1)), none⟩)] (os := [i64 (IntKind.wrap IntKind.i64 (i + 1)) = i64 (i + 1)]) (sf := St.mk [(2, tp (V.ptr 2 0)), (3, tp (i64 0)), (4, tp (V.vs X n)), (5, tp (V.sl 5 0 (List.length (o ++ [(↑k : Int)])))), (15, tp (V.vs Y (List.length tl))), (16, tp (i64 (↑(List.length tl) : Int))), (17, tp (i64 (i + 1))), (33, tp (i64 (i + 1)))] [(2, Blk.mk [u8 0, u8 0, u8 0, u16 0, V.val (Value.slice none 0 0)] true 5 none), (5, Blk.mk (u8s (o ++ [(↑k : Int)])) true 0 (some (5, 1)))]) (by kernel_rfl) ⟨(wr_i64 (by omega) (by omega)), trivial⟩ ?_
        refine ⟨St.mk [(2, tp (V.ptr 2 0)), (3, tp (i64 0)), (4, tp (V.vs X n)), (5, tp (V.sl 5 0 (List.length (o ++ [(↑k : Int)])))), (15, tp (V.vs Y (List.length tl))), (16, tp (i64 (↑(List.length tl) : Int))), (17, tp (i64 (i + 1)))] [(2, Blk.mk [u8 0, u8 0, u8 0, u16 0, V.val (Value.slice none 0 0)] true 5 none), (5, Blk.mk (u8s (o ++ [(↑k : Int)])) true 0 (some (5, 1)))], by kernel_rfl, ?_⟩
        exact ⟨(tl.length - (i + 1)).toNat, (by omega), i + 1, o ++ [(k : Int)], rfl, (by rw [show (i + 1).toNat = i.toNat + 1 by omega]; exact hnx), (by omega), (by omega), (by omega)⟩
      simp only [decide_eq_false_iff_not] at hq0
      (exfalso; omega)
    | none =>
      have c2 := con_num_no x (by have := hsm x (List.mem_of_getElem? hx); omega) hk1
      have hnb : 0 ≤ nbO x ∧ nbO x < 256 := by unfold nbO; rw [wrap8]; omega
      refine AWP.seq ?_
      refine AWP.regionT tcok hmix [] [2, 3, 4, 5, 15, 16, 17, 18] [2, 5] (os := []) (s' := St.mk [(2, tp (V.ptr 2 0)), (3, tp (i64 0)), (4, tp (V.vs X n)), (5, tp (V.sl 5 0 (List.length o))), (15, tp (V.vs Y (List.length tl))), (16, tp (i64 (↑(List.length tl) : Int))), (17, tp (i64 i)), (18, tp (vb (decide (i < (↑(List.length tl) : Int)))))] [(2, Blk.mk [u8 0, u8 0, u8 0, u16 0, V.val (Value.slice none 0 0)] true 5 none), (5, Blk.mk (u8s o) true 0 (some (5, 1)))]) (by kernel_rfl) trivial ?_
      refine AWP.seq ?_
      refine AWP.cond (b := decide (i < (↑(List.length tl) : Int))) (by kernel_rfl) (fun hq2 => ?_) (fun hq2 => ?_)
      · simp only [decide_eq_true_eq] at hq2
        refine AWP.skip ?_
        refine AWP.seq ?_
        refine AWP.block ?_
        refine AWP.seq ?_
        refine AWP.regionT tcok hmix [(0, ⟨some (V.vp (strV x :: List.drop (Int.toNat i + 1) Y)), none⟩)] [2, 3, 4, 5, 7, 15, 16, 17] [2, 5] (os := [(0 : Int) ≤ i ∧ i < (↑(List.length tl) : Int), V.vp (List.drop (Int.toNat i * 1) Y) = V.vp (V.val (Value.string x) :: List.drop (Int.toNat i + 1) Y)]) (s' := St.mk [(2, tp (V.ptr 2 0)), (3, tp (i64 0)), (4, tp (V.vs X n)), (5, tp (V.sl 5 0 (List.length o))), (7, tp (V.val (Value.string x))), (15, tp (V.vs Y (List.length tl))), (16, tp (i64 (↑(List.length tl) : Int))), (17, tp (i64 i))] [(2, Blk.mk [u8 0, u8 0, u8 0, u16 0, V.val (Value.slice none 0 0)] true 5 none), (5, Blk.mk (u8s o) true 0 (some (5, 1)))]) (by kernel_rfl) ⟨(by omega), (congrArg V.vp hdr), trivial⟩ ?_
        refine xe1 (os := [Con Tryz.prog 25 [] [V.val (Value.string x)] [] (V.tup [u8 (nbO x), vb false])]) [(1, ⟨none, some ⟨V.tup [u8 (nbO x), vb false], [], []⟩⟩)] [2, 3, 4, 5, 8, 9, 15, 16, 17] [2, 5] (by kernel_rfl) ⟨(c2 ), trivial⟩ ?_
        refine AWP.seq ?_
        refine xe0 [2, 3, 4, 5, 8, 15, 16, 17, 27] [2, 5] (by kernel_rfl) ?_
        refine AWP.condT (by kernel_rfl) ?_
        refine xe0 [2, 3, 4, 5, 8, 15, 16, 17] [2, 5] (by kernel_rfl) ?_
        refine AWP.ret ?_
        refine ⟨Or.inr rfl, Eq.trans (b := some ([], V.tup [V.agg true [u8 0, u8 0, u8 0, u16 0, V.val (Value.slice none 0 0)], i64 13])) (by kernel_rfl) ?_⟩
        rfl
      simp only [decide_eq_false_iff_not] at hq2
      (exfalso; omega)
  · rw [List.take_of_length_le (by omega)] at ho
    have hno := hno o ho
    clear hY hm
    refine AWP.seq ?_
    refine AWP.regionT tcok hmix [] [2, 3, 4, 5, 15, 16, 17, 18] [2, 5] (os := []) (s' := St.mk [(2, tp (V.ptr 2 0)), (3, tp (i64 0)), (4, tp (V.vs X n)), (5, tp (V.sl 5 0 (List.length o))), (15, tp (V.vs Y (List.length tl))), (16, tp (i64 (↑(List.length tl) : Int))), (17, tp (i64 i)), (18, tp (vb (decide (i < (↑(List.length tl) : Int)))))] [(2, Blk.mk [u8 0, u8 0, u8 0, u16 0, V.val (Value.slice none 0 0)] true 5 none), (5, Blk.mk (u8s o) true 0 (some (5, 1)))]) (by kernel_rfl) trivial ?_
    refine AWP.seq ?_
    refine AWP.cond (b := decide (i < (↑(List.length tl) : Int))) (by kernel_rfl) (fun hq4 => ?_) (fun hq4 => ?_)
    · simp only [decide_eq_true_eq] at hq4
      (exfalso; omega)
    simp only [decide_eq_false_iff_not] at hq4
    refine AWP.exit ?_
    refine AWP.seq ?_
    refine AWP.keep' [2, 3, 4, 5] [2, 5] (sf := ⟨[(2, .plain (.ptr 2 0)), (3, .plain (i64 0)), (4, .plain (.vs X n)), (5, .plain (.sl 5 0 o.length))], [(2, ⟨[u8 0, u8 0, u8 0, u16 0, .val (.slice none 0 0)], true, 5, none⟩), (5, ⟨u8s o, true, 0, some (5, 1)⟩)]⟩) (by kernel_rfl) ?_
    refine AWP.rangeM tcok 1 (hs0 := [(0, ⟨none, some ⟨V.mp 1, [(1, ⟨mcells, true, 0, some (0, 0)⟩)], []⟩⟩)]) (os := [Con Tryz.prog 26 [] [] [(1, ⟨mcells, true, 0, some (0, 0)⟩)] (.mp 1)])
      (s1 := ⟨[(2, .plain (.ptr 2 0)), (3, .plain (i64 0)), (4, .plain (.vs X n)), (5, .plain (.sl 5 0 o.length)), (34, .plain (.mp 350001))], [(2, ⟨[u8 0, u8 0, u8 0, u16 0, .val (.slice none 0 0)], true, 5, none⟩), (5, ⟨u8s o, true, 0, some (5, 1)⟩), (350001, ⟨mcells, true, 0, some (0, 0)⟩)]⟩)
      (sk := ⟨[(2, .plain (.ptr 2 0)), (3, .plain (i64 0)), (4, .plain (.vs X n)), (5, .plain (.sl 5 0 o.length))], [(2, ⟨[u8 0, u8 0, u8 0, u16 0, .val (.slice none 0 0)], true, 5, none⟩), (5, ⟨u8s o, true, 0, some (5, 1)⟩)]⟩)
      (by kernel_rfl) ⟨con_words, trivial⟩ (dit := 35) (dn := 36) (dm := 37) (pair := 38) ⟨_, rfl, rfl, rfl, rfl⟩ ⟨_, _, rfl, ⟨rfl, rfl, rfl⟩, rfl, rfl, rfl⟩ ⟨_, _, rfl, rfl, rfl, rfl⟩ (by kernel_rfl) (ti := ti_75) (by kernel_rfl) rfl (id := 350001) (blk := ⟨mcells, true, 0, some (0, 0)⟩) (by kernel_rfl) (by kernel_rfl) (by kernel_rfl) kvs rfl (by kernel_rfl) [2, 3, 4, 5] [2, 5] [2, 3, 4, 5, 35] (by kernel_rfl) (by kernel_rfl)
      (fun r R st => st = St.mk [(2, .plain (.ptr 2 0)), (3, .plain (i64 0)), (4, .plain (.vs X n)), (5, .plain (.sl 5 0 o.length)), (35, .plain (iterV r))] [(2, ⟨[u8 0, u8 0, u8 0, u16 0, .val (.slice none 0 0)], true, 5, none⟩), (5, ⟨u8s o, true, 0, some (5, 1)⟩)] ∧ ∀ p ∈ R, p ∈ kvs)
      (fun r R st h => by rw [h.1]; kernel_rfl) (fun r R hp => ⟨_, by kernel_rfl, rfl, fun p hpR => hp.mem_iff.2 hpR⟩) ?_ ?_
    · rintro r st ⟨rfl, _⟩
      refine ⟨⟨[(2, .plain (.ptr 2 0)), (3, .plain (i64 0)), (4, .plain (.vs X n)), (5, .plain (.sl 5 0 o.length)), (35, .plain (iterV r)), (36, .plain .top), (37, .plain .top)], [(2, ⟨[u8 0, u8 0, u8 0, u16 0, .val (.slice none 0 0)], true, 5, none⟩), (5, ⟨u8s o, true, 0, some (5, 1)⟩)]⟩, by kernel_rfl, ?_⟩
      refine AWP.seq ?_
      refine AWP.regionT tcok hmix [] [2, 3] [2] (os := []) (s' := St.mk [(2, tp (V.ptr 2 0)), (3, tp (i64 13))] [(2, Blk.mk [u8 0, u8 0, u8 0, u16 0, V.val (Value.slice none 0 0)] true 5 none)]) (by kernel_rfl) trivial ?_
      refine AWP.ret ?_
      refine ⟨Or.inr rfl, Eq.trans (b := some ([], V.tup [V.agg true [u8 0, u8 0, u8 0, u16 0, V.val (Value.slice none 0 0)], i64 13])) (by kernel_rfl) ?_⟩
      rfl
    rintro r x y st p ⟨rfl, hR2⟩
    obtain ⟨w1, hw1, rfl⟩ := List.mem_map.1 (hR2 p (by simp))
    refine ⟨⟨[(2, .plain (.ptr 2 0)), (3, .plain (i64 0)), (4, .plain (.vs X n)), (5, .plain (.sl 5 0 o.length)), (35, .plain (iterV r)), (36, .plain .top), (37, .plain .top)], [(2, ⟨[u8 0, u8 0, u8 0, u16 0, .val (.slice none 0 0)], true, 5, none⟩), (5, ⟨u8s o, true, 0, some (5, 1)⟩)]⟩, ⟨[(2, .plain (.ptr 2 0)), (3, .plain (i64 0)), (4, .plain (.vs X n)), (5, .plain (.sl 5 0 o.length)), (35, .plain (iterV r)), (36, .plain .top), (37, .plain .top), (38, .plain (.tup [(wkv w1).1, (wkv w1).2]))], [(2, ⟨[u8 0, u8 0, u8 0, u16 0, .val (.slice none 0 0)], true, 5, none⟩), (5, ⟨u8s o, true, 0, some (5, 1)⟩)]⟩, [], [], ⟨[(2, .plain (.ptr 2 0)), (3, .plain (i64 0)), (4, .plain (.vs X n)), (5, .plain (.sl 5 0 o.length)), (10, .plain (.ptr 10 0)), (11, .plain (.ptr 11 0)), (35, .plain (iterV r)), (36, .plain .top), (37, .plain .top), (38, .plain (.tup [(wkv w1).1, (wkv w1).2])), (39, .plain (wkv w1).1), (40, .plain (wkv w1).2)], [(2, ⟨[u8 0, u8 0, u8 0, u16 0, .val (.slice none 0 0)], true, 5, none⟩), (5, ⟨u8s o, true, 0, some (5, 1)⟩), (10, ⟨[u8 w1.a, u8 w1.b], true, 2, none⟩), (11, ⟨[strV w1.nm, i64 w1.n], true, 2, none⟩)]⟩, by kernel_rfl, by kernel_rfl, by kernel_rfl, trivial, ?_⟩
    have hd0 : List.drop (Int.toNat 0 * 1) X = strV hd :: List.map strV tl := hX0
    have hnw := hno w1 hw1
    refine AWP.seq ?_
    refine AWP.regionT tcok hmix [(3, ⟨some (V.vp (strV hd :: List.map strV tl)), none⟩)] [2, 3, 4, 5, 10, 35, 53] [2, 5, 10] (os := [(0 : Int) ≤ (0 : Int) ∧ (0 : Int) < (↑n : Int), V.vp (List.drop (Int.toNat 0 * 1) X) = V.vp (V.val (Value.string hd) :: List.map strV tl)]) (s' := St.mk [(2, tp (V.ptr 2 0)), (3, tp (i64 0)), (4, tp (V.vs X n)), (5, tp (V.sl 5 0 (List.length o))), (10, tp (V.ptr 10 0)), (35, tp (V.val (Value.pointer (some (Addr.mk r 0 none))))), (53, tp (vb (w1.nm.data.toList == hd.data.toList && w1.n == (↑(List.length o) : Int))))] [(2, Blk.mk [u8 0, u8 0, u8 0, u16 0, V.val (Value.slice none 0 0)] true 5 none), (5, Blk.mk (u8s o) true 0 (some (5, 1))), (10, Blk.mk [u8 w1.a, u8 w1.b] true 2 none)]) (by kernel_rfl) ⟨(by omega), (congrArg V.vp hd0), trivial⟩ ?_
    refine AWP.cond (b := w1.nm.data.toList == hd.data.toList && w1.n == (↑(List.length o) : Int)) (by kernel_rfl) (fun hq5 => ?_) (fun hq5 => ?_)
    · simp only [Bool.and_eq_true, beq_iff_eq] at hq5
      refine AWP.seq ?_
      refine AWP.regionT tcok hmix [] [2, 3, 4, 5, 35] [2, 5] (os := []) (s' := St.mk [(2, tp (V.ptr 2 0)), (3, tp (i64 0)), (4, tp (V.vs X n)), (5, tp (V.sl 5 0 (List.length o))), (35, tp (V.val (Value.pointer (some (Addr.mk r 0 none)))))] [(2, Blk.mk [u8 9, u8 w1.a, u8 w1.b, u16 0, V.sl 5 0 (List.length o)] false 5 none), (5, Blk.mk (u8s o) true 0 (some (5, 1)))]) (by kernel_rfl) trivial ?_
      refine AWP.ret ?_
      refine ⟨Or.inr rfl, Eq.trans (b := none) (by kernel_rfl) ?_⟩
      first | (exact absurd (isWd_iff.2 hq5) (by rw [hnw]; simp)) | (exact ⟨_, (by kernel_rfl), rfl, (fun p hp => hR2 p (mem_more hp))⟩)
    simp only [Bool.and_eq_false_iff, beq_eq_false_iff_ne] at hq5
    refine AWP.skip ?_
    first | (exact absurd (isWd_iff.2 hq5) (by rw [hnw]; simp)) | (exact ⟨_, (by kernel_rfl), rfl, (fun p hp => hR2 p (mem_more hp))⟩)
end Go.Proofs.YtieoaeidlcdggaaGreatDoor
