/- What the document says of a phrase. -/
import Derived.Test.YtieoaeidlcdggaaGreatDoorRg
import Derived.Test.YtieoaeidlcdggaaGreatDoorGsJ
namespace Go.Proofs.YtieoaeidlcdggaaGreatDoor
open Go Go.Ab
set_option linter.unusedSimpArgs false
set_option linter.unusedVariables false
set_option maxRecDepth 100000
theorem drop_past {α : Type} (a b : List α) (k : Nat) : (a ++ b).drop (a.length + k) = b.drop k := by
  rw [List.drop_append, List.drop_eq_nil_of_le (by omega), Nat.add_sub_cancel_left]
  rfl
theorem flat4_drop {α : Type} (f : α → List V) (hf : ∀ x, (f x).length = 4) : ∀ (l : List α) (i : Nat) (x : α), l[i]? = some x → (l.flatMap f).drop (i * 4) = f x ++ (l.flatMap f).drop ((i + 1) * 4)
  | [], i, x, h => by simp at h
  | y :: r, 0, x, h => by
    simp only [List.getElem?_cons_zero, Option.some.injEq] at h
    subst h
    rw [List.flatMap_cons, Nat.zero_mul, List.drop_zero, Nat.zero_add, Nat.one_mul, ← hf y, List.drop_left]
  | y :: r, i + 1, x, h => by
    have := flat4_drop f hf r i x (by simpa using h)
    rw [List.flatMap_cons, show (i + 1) * 4 = (f y).length + i * 4 by rw [hf]; omega, show (i + 1 + 1) * 4 = (f y).length + (i + 1) * 4 by rw [hf]; omega, drop_past, drop_past]
    exact this
theorem wcells_drop {i : Nat} {w : Wd} (h : wds[i]? = some w) : wcells.drop (i * 4) = strV w.nm :: u8 w.a :: u8 w.b :: i64 w.n :: wcells.drop ((i + 1) * 4) :=
  flat4_drop (fun w : Wd => [strV w.nm, u8 w.a, u8 w.b, i64 w.n]) (fun _ => rfl) wds i w h
theorem con_rsay (s : ByteArray) (hs : s.size ≤ 1000) (w : Wd) (ds : List Int) (h : sayO s = some (w, ds)) : Con Tryz.prog 6 [] [strV s] [(5, ⟨u8s ds, true, 0, some (5, 1)⟩)] (.tup [.agg false [u8 9, u8 w.a, u8 w.b, u16 0, .sl 5 0 ds.length], vb true]) := by
  have c1 := con_rsplit s (by omega)
  obtain ⟨hd, tl, hsp, hn, hw⟩ := sayO_parts h
  have hX0 : (spl s).map strV = strV hd :: tl.map strV := by rw [hsp]; rfl
  have hN0 : (spl s).length = tl.length + 1 := by rw [hsp]; rfl
  have htl : tl.length ≤ 1001 := by have := spl_len s; omega
  have hsm : ∀ x ∈ tl, x.size ≤ 1000 := fun x hx => by have := spl_small s x (by rw [hsp]; simp [hx]); omega
  have hds := numsO_all hn
  have hY0 : ∃ Y, Y = tl.map strV := ⟨_, rfl⟩
  obtain ⟨Y, hY0⟩ := hY0
  generalize (spl s).map strV = X at c1 hX0
  generalize (spl s).length = n at c1 hN0
  have hY : subV X (some (i64 1)) none (Int.toNat 1 * 1) (Int.toNat (n : Int) * 1) ((Int.toNat (n : Int) - Int.toNat 1) * 1) = Y := by
    rw [hY0, hX0]
    simp only [subV, Int.toNat_natCast, hN0]
    simp
    rw [List.take_of_length_le (by simp)]
  have hm : Int.toNat (n : Int) - 1 = tl.length := by omega
  have c2 := con_rwords
  generalize hW : wcells = Wc at c2
  refine Con.of (C := ⟨Tryz.prog, tc, Tryz.f6.ntmps⟩) [5] tcok Tryz.func6 rfl rfl (by kernel_rfl) (by kernel_rfl) ?_
  refine AWP.seq ?_
  refine AWP.regionT tcok hmix [] [0, 2, 3] [2] (os := []) (s' := St.mk [(0, tp (V.val (Value.string s))), (2, tp (V.ptr 2 0)), (3, tp (vb false))] [(2, Blk.mk [u8 0, u8 0, u8 0, u16 0, V.val (Value.slice none 0 0)] true 5 none)]) (by kernel_rfl) trivial ?_
  refine xe1 (os := [Con Tryz.prog 14 [] [V.val (Value.string s), u8 32] [(5, Blk.mk X true 0 (some (9, 1)))] (V.sl 5 0 n)]) [(1, ⟨none, some ⟨V.sl 5 0 n, [(5, Blk.mk X true 0 (some (9, 1)))], []⟩⟩)] [2, 3, 4] [2, 130005] (by kernel_rfl) ⟨(c1 ), trivial⟩ ?_
  refine AWP.seq ?_
  refine xe1 (os := [Con Tryz.prog 15 [] [] [(19, Blk.mk Wc true 0 (some (56, 4)))] (V.sl 19 0 18)]) [(0, ⟨none, some ⟨V.sl 19 0 18, [(19, Blk.mk Wc true 0 (some (56, 4)))], []⟩⟩)] [2, 3, 4, 13, 14, 15] [2, 130005, 140019] (by kernel_rfl) ⟨(c2 ), trivial⟩ ?_
  refine AWP.block ?_
  refine AWP.frz 130005 (s' := St.mk [(2, T.plain (V.ptr 2 0)), (3, T.plain (vb false)), (4, T.plain (V.vs X n)), (13, T.plain (V.sl 140019 0 18)), (14, T.plain (i64 18)), (15, T.plain (i64 0))] [(2, Blk.mk [u8 0, u8 0, u8 0, u16 0, V.val (Value.slice none 0 0)] true 5 none), (140019, Blk.mk Wc true 0 (some (56, 4)))]) (by kernel_rfl) ?_
  refine AWP.frz 140019 (s' := St.mk [(2, T.plain (V.ptr 2 0)), (3, T.plain (vb false)), (4, T.plain (V.vs X n)), (13, T.plain (V.vs Wc 18)), (14, T.plain (i64 18)), (15, T.plain (i64 0))] [(2, Blk.mk [u8 0, u8 0, u8 0, u16 0, V.val (Value.slice none 0 0)] true 5 none)]) (by kernel_rfl) ?_
  refine AWP.loopI [2, 3, 4, 13, 14, 15] [2] (fun N st => ∃ (i : Int), st = St.mk [(2, T.plain (V.ptr 2 0)), (3, T.plain (vb false)), (4, T.plain (V.vs X n)), (13, T.plain (V.vs Wc 18)), (14, T.plain (i64 18)), (15, T.plain (i64 i))] [(2, Blk.mk [u8 0, u8 0, u8 0, u16 0, V.val (Value.slice none 0 0)] true 5 none)]
      ∧ (∀ j : Nat, j < i.toNat → wds[j]? ≠ some w) ∧ 0 ≤ i ∧ i ≤ 18 ∧ (N : Int) = 18 - i) 18 (s0 := St.mk [(2, T.plain (V.ptr 2 0)), (3, T.plain (vb false)), (4, T.plain (V.vs X n)), (13, T.plain (V.vs Wc 18)), (14, T.plain (i64 18)), (15, T.plain (i64 0))] [(2, Blk.mk [u8 0, u8 0, u8 0, u16 0, V.val (Value.slice none 0 0)] true 5 none)]) (by kernel_rfl) ?_ ?_
  · exact ⟨0, rfl, fun j hj => by simp at hj, by omega, by omega, by omega⟩
  rintro N st ⟨i, rfl, hj, hi, hi2, hN⟩
  obtain ⟨jw, hjw⟩ := List.mem_iff_getElem?.1 (List.mem_of_find?_eq_some hw)
  have hjw18 : jw < 18 := (List.getElem?_eq_some_iff.1 hjw).1
  have hijw : i.toNat ≤ jw := by
    refine Classical.byContradiction fun hc => hj jw (by omega) hjw
  have hi18 : i.toNat < wds.length := by show _ < 18; omega
  obtain ⟨w1, hw1⟩ : ∃ w1, wds[i.toNat]? = some w1 := ⟨_, List.getElem?_eq_getElem hi18⟩
  have hdr : List.drop (i.toNat * 4) Wc = strV w1.nm :: u8 w1.a :: u8 w1.b :: i64 w1.n :: List.drop ((i.toNat + 1) * 4) Wc := by rw [← hW]; exact wcells_drop hw1
  have hd0 : List.drop (Int.toNat 0 * 1) X = strV hd :: List.map strV tl := hX0
  refine AWP.seq ?_
  refine AWP.regionT tcok hmix [] [2, 3, 4, 13, 14, 15, 16] [2] (os := []) (s' := St.mk [(2, tp (V.ptr 2 0)), (3, tp (vb false)), (4, tp (V.vs X n)), (13, tp (V.vs Wc 18)), (14, tp (i64 18)), (15, tp (i64 i)), (16, tp (vb (decide (i < 18))))] [(2, Blk.mk [u8 0, u8 0, u8 0, u16 0, V.val (Value.slice none 0 0)] true 5 none)]) (by kernel_rfl) trivial ?_
  refine AWP.seq ?_
  refine AWP.cond (b := decide (i < 18)) (by kernel_rfl) (fun hq0 => ?_) (fun hq0 => ?_)
  rotate_left
  · simp only [decide_eq_false_iff_not] at hq0
    (exfalso; omega)
  simp only [decide_eq_true_eq] at hq0
  refine AWP.skip ?_
  refine AWP.seq ?_
  refine AWP.block ?_
  refine AWP.seq ?_
  refine AWP.regionT tcok hmix [(0, ⟨some (V.vp (strV w1.nm :: u8 w1.a :: u8 w1.b :: i64 w1.n :: List.drop ((Int.toNat i + 1) * 4) Wc)), none⟩)] [2, 3, 4, 6, 13, 14, 15] [2, 6] (os := [(0 : Int) ≤ i ∧ i < (↑(18 : Nat) : Int), V.vp (List.drop (Int.toNat i * 4) Wc) = V.vp (V.val (Value.string w1.nm) :: u8 w1.a :: u8 w1.b :: i64 w1.n :: List.drop ((Int.toNat i + 1) * 4) Wc)]) (s' := St.mk [(2, tp (V.ptr 2 0)), (3, tp (vb false)), (4, tp (V.vs X n)), (6, tp (V.ptr 6 0)), (13, tp (V.vs Wc 18)), (14, tp (i64 18)), (15, tp (i64 i))] [(2, Blk.mk [u8 0, u8 0, u8 0, u16 0, V.val (Value.slice none 0 0)] true 5 none), (6, Blk.mk [V.val (Value.string w1.nm), u8 w1.a, u8 w1.b, i64 w1.n] true 4 none)]) (by kernel_rfl) ⟨(by omega), (congrArg V.vp hdr), trivial⟩ ?_
  refine AWP.seq ?_
  refine xe1 (os := [(0 : Int) ≤ (0 : Int) ∧ (0 : Int) < (↑n : Int), V.vp (List.drop (Int.toNat 0 * 1) X) = V.vp (V.val (Value.string hd) :: List.map strV tl), (!w1.nm.data.toList == hd.data.toList) = false → i64 (IntKind.wrap IntKind.i64 ((↑n : Int) - (1 : Int))) = i64 ((↑n : Int) - (1 : Int)) ∧ True]) [(3, ⟨some (V.vp (strV hd :: List.map strV tl)), none⟩), (11, ⟨some (i64 ((↑n : Int) - 1)), none⟩)] [2, 3, 4, 6, 13, 14, 15, 32] [2, 6] (by kernel_rfl) ⟨(by omega), (congrArg V.vp hd0), (by intro hc0; first | (cases hc0; done) | ((try simp only [Bool.or_false, Bool.false_or, Bool.true_and, Bool.and_true, decide_eq_true_eq, decide_eq_false_iff_not, Bool.and_eq_true, Bool.or_eq_true, Bool.or_eq_false_iff, Bool.not_eq_true', Bool.and_eq_false_iff, beq_iff_eq, bne_iff_ne, bne_eq_false_iff_eq, beq_eq_false_iff_ne, Bool.not_eq_false'] at hc0); exact ⟨(wr_i64 (by omega) (by omega)), trivial⟩)), trivial⟩ ?_
  refine AWP.cond (b := !w1.nm.data.toList == hd.data.toList || w1.n != (↑n : Int) - 1) (by kernel_rfl) (fun hq1 => ?_) (fun hq1 => ?_)
  · simp only [Bool.or_eq_true, Bool.not_eq_true', bne_iff_ne, beq_eq_false_iff_ne] at hq1
    refine AWP.exit ?_
    refine AWP.region tcok hmix [(0, ⟨some (i64 (i + 1)), none⟩)] (os := [i64 (IntKind.wrap IntKind.i64 (i + 1)) = i64 (i + 1)]) (sf := St.mk [(2, tp (V.ptr 2 0)), (3, tp (vb false)), (4, tp (V.vs X n)), (6, tp (V.ptr 6 0)), (13, tp (V.vs Wc 18)), (14, tp (i64 18)), (15, tp (i64 (i + 1))), (32, tp (vb (!w1.nm.data.toList == hd.data.toList || w1.n != (↑n : Int) - 1))), (59, tp (i64 (i + 1)))] [(2, Blk.mk [u8 0, u8 0, u8 0, u16 0, V.val (Value.slice none 0 0)] true 5 none), (6, Blk.mk [V.val (Value.string w1.nm), u8 w1.a, u8 w1.b, i64 w1.n] true 4 none)]) (by kernel_rfl) ⟨(wr_i64 (by omega) (by omega)), trivial⟩ ?_
    refine ⟨St.mk [(2, tp (V.ptr 2 0)), (3, tp (vb false)), (4, tp (V.vs X n)), (13, tp (V.vs Wc 18)), (14, tp (i64 18)), (15, tp (i64 (i + 1)))] [(2, Blk.mk [u8 0, u8 0, u8 0, u16 0, V.val (Value.slice none 0 0)] true 5 none)], by kernel_rfl, ?_⟩
    exact ⟨(18 - (i + 1)).toNat, (by omega), i + 1, rfl, (fun j hj1 hj2 => by by_cases e : j = i.toNat; (subst e; rw [hw1] at hj2; cases hj2; have q := isWd_iff.1 (List.find?_some hw); have hl := hds.1; rcases hq1 with z | z; exact z q.1; exact z (by rw [q.2]; omega)); exact hj j (by omega) hj2), (by omega), (by omega), (by omega)⟩
  simp only [Bool.or_eq_false_iff, beq_iff_eq, bne_eq_false_iff_eq, Bool.not_eq_false'] at hq1
  refine AWP.skip ?_
  refine AWP.seq ?_
  refine AWP.regionT tcok hmix [] [2, 3, 4, 7, 13, 14, 15] [2, 7] (os := []) (s' := St.mk [(2, tp (V.ptr 2 0)), (3, tp (vb false)), (4, tp (V.vs X n)), (7, tp (V.ptr 7 0)), (13, tp (V.vs Wc 18)), (14, tp (i64 18)), (15, tp (i64 i))] [(2, Blk.mk [u8 0, u8 0, u8 0, u16 0, V.val (Value.slice none 0 0)] true 5 none), (7, Blk.mk [u8 9, u8 w1.a, u8 w1.b, u16 0, V.val (Value.slice none 0 0)] true 5 none)]) (by kernel_rfl) trivial ?_
  refine AWP.seq ?_
  refine xe1 (os := [(0 : Int) ≤ (1 : Int) ∧ (1 : Int) ≤ (↑n : Int) ∧ (↑n : Int) ≤ (↑n : Int), V.vs (subV X (some (i64 1)) none (Int.toNat 1 * 1) (Int.toNat (↑n : Int) * 1) ((Int.toNat (↑n : Int) - Int.toNat 1) * 1)) (Int.toNat (↑n : Int) - 1) = V.vs (subV X (some (i64 1)) none (Int.toNat 1 * 1) (Int.toNat (↑n : Int) * 1) ((Int.toNat (↑n : Int) - Int.toNat 1) * 1)) (Int.toNat (↑n : Int) - 1)]) [(1, ⟨some (V.vs (subV X (some (i64 1)) none (Int.toNat 1 * 1) (Int.toNat (↑n : Int) * 1) ((Int.toNat (↑n : Int) - Int.toNat 1) * 1)) (Int.toNat (↑n : Int) - 1)), none⟩)] [2, 3, 4, 7, 13, 14, 15, 39, 40, 41] [2, 7] (by kernel_rfl) ⟨(by omega), rfl, trivial⟩ ?_
  refine AWP.block ?_
  rw [hY, hm]
  obtain rfl : w1 = w := wds_uniq (List.mem_of_getElem? hw1) (List.mem_of_find?_eq_some hw) (hq1.1.trans (isWd_iff.1 (List.find?_some hw)).1.symm)
  refine AWP.nb 7 4 5 5 1 (s' := St.mk [(2, T.plain (V.ptr 2 0)), (3, T.plain (vb false)), (4, T.plain (V.vs X n)), (7, T.plain (V.ptr 7 0)), (13, T.plain (V.vs Wc 18)), (14, T.plain (i64 18)), (15, T.plain (i64 i)), (39, T.plain (V.vs Y tl.length)), (40, T.plain (i64 (tl.length : Int))), (41, T.plain (i64 0))] [(2, Blk.mk [u8 0, u8 0, u8 0, u16 0, V.val (Value.slice none 0 0)] true 5 none), (5, Blk.mk [] true 0 (some (5, 1))), (7, Blk.mk [u8 9, u8 w1.a, u8 w1.b, u16 0, V.sl 5 0 0] false 5 none)]) (by kernel_rfl) ?_
  refine AWP.loopI [2, 3, 4, 7, 13, 14, 15, 39, 40, 41] [2, 5, 7] (fun N2 st => ∃ (i2 : Int) (o : List Int), st = St.mk [(2, T.plain (V.ptr 2 0)), (3, T.plain (vb false)), (4, T.plain (V.vs X n)), (7, T.plain (V.ptr 7 0)), (13, T.plain (V.vs Wc 18)), (14, T.plain (i64 18)), (15, T.plain (i64 i)), (39, T.plain (V.vs Y tl.length)), (40, T.plain (i64 (tl.length : Int))), (41, T.plain (i64 i2))] [(2, Blk.mk [u8 0, u8 0, u8 0, u16 0, V.val (Value.slice none 0 0)] true 5 none), (5, Blk.mk (u8s o) true 0 (some (5, 1))), (7, Blk.mk [u8 9, u8 w1.a, u8 w1.b, u16 0, V.sl 5 0 o.length] false 5 none)]
      ∧ o = ds.take i2.toNat ∧ 0 ≤ i2 ∧ i2 ≤ tl.length ∧ (N2 : Int) = tl.length - i2) tl.length (s0 := St.mk [(2, T.plain (V.ptr 2 0)), (3, T.plain (vb false)), (4, T.plain (V.vs X n)), (7, T.plain (V.ptr 7 0)), (13, T.plain (V.vs Wc 18)), (14, T.plain (i64 18)), (15, T.plain (i64 i)), (39, T.plain (V.vs Y tl.length)), (40, T.plain (i64 (tl.length : Int))), (41, T.plain (i64 0))] [(2, Blk.mk [u8 0, u8 0, u8 0, u16 0, V.val (Value.slice none 0 0)] true 5 none), (5, Blk.mk [] true 0 (some (5, 1))), (7, Blk.mk [u8 9, u8 w1.a, u8 w1.b, u16 0, V.sl 5 0 0] false 5 none)]) (by kernel_rfl) ?_ ?_
  · exact ⟨0, [], rfl, by simp, by omega, by omega, by omega⟩
  rintro N2 st ⟨i2, o, rfl, ho, hi3, hi4, hN2⟩
  have hol : o.length ≤ 1001 := by rw [ho, List.length_take]; omega
  by_cases hlt : i2 < tl.length
  · have hi' : i2.toNat < tl.length := by omega
    obtain ⟨x, hx⟩ : ∃ x, tl[i2.toNat]? = some x := ⟨_, List.getElem?_eq_getElem hi'⟩
    obtain ⟨k, hk1, hk2⟩ := hds.2 _ x hx
    have c3 := con_rnumber x (by have := hsm x (List.mem_of_getElem? hx); omega)
    rw [show rnV x = (k : Int) by unfold rnV; rw [hk1]] at c3
    have hdr2 : List.drop (i2.toNat * 1) Y = strV x :: List.drop (i2.toNat + 1) Y := by rw [hY0]; exact vs_drop strV tl _ x hx
    have hk256 := (numO_some hk1).1
    refine AWP.seq ?_
    refine AWP.regionT tcok hmix [] [2, 3, 4, 7, 13, 14, 15, 39, 40, 41, 42] [2, 5, 7] (os := []) (s' := St.mk [(2, tp (V.ptr 2 0)), (3, tp (vb false)), (4, tp (V.vs X n)), (7, tp (V.ptr 7 0)), (13, tp (V.vs Wc 18)), (14, tp (i64 18)), (15, tp (i64 i)), (39, tp (V.vs Y (List.length tl))), (40, tp (i64 (↑(List.length tl) : Int))), (41, tp (i64 i2)), (42, tp (vb (decide (i2 < (↑(List.length tl) : Int)))))] [(2, Blk.mk [u8 0, u8 0, u8 0, u16 0, V.val (Value.slice none 0 0)] true 5 none), (5, Blk.mk (u8s o) true 0 (some (5, 1))), (7, Blk.mk [u8 9, u8 w1.a, u8 w1.b, u16 0, V.sl 5 0 (List.length o)] false 5 none)]) (by kernel_rfl) trivial ?_
    refine AWP.seq ?_
    refine AWP.cond (b := decide (i2 < (↑(List.length tl) : Int))) (by kernel_rfl) (fun hq2 => ?_) (fun hq2 => ?_)
    · simp only [decide_eq_true_eq] at hq2
      refine AWP.skip ?_
      refine AWP.seq ?_
      refine AWP.block ?_
      refine AWP.seq ?_
      refine AWP.regionT tcok hmix [(0, ⟨some (V.vp (strV x :: List.drop (Int.toNat i2 + 1) Y)), none⟩)] [2, 3, 4, 7, 9, 13, 14, 15, 39, 40, 41] [2, 7, 5] (os := [(0 : Int) ≤ i2 ∧ i2 < (↑(List.length tl) : Int), V.vp (List.drop (Int.toNat i2 * 1) Y) = V.vp (V.val (Value.string x) :: List.drop (Int.toNat i2 + 1) Y)]) (s' := St.mk [(2, tp (V.ptr 2 0)), (3, tp (vb false)), (4, tp (V.vs X n)), (7, tp (V.ptr 7 0)), (9, tp (V.val (Value.string x))), (13, tp (V.vs Wc 18)), (14, tp (i64 18)), (15, tp (i64 i)), (39, tp (V.vs Y (List.length tl))), (40, tp (i64 (↑(List.length tl) : Int))), (41, tp (i64 i2))] [(2, Blk.mk [u8 0, u8 0, u8 0, u16 0, V.val (Value.slice none 0 0)] true 5 none), (5, Blk.mk (u8s o) true 0 (some (5, 1))), (7, Blk.mk [u8 9, u8 w1.a, u8 w1.b, u16 0, V.sl 5 0 (List.length o)] false 5 none)]) (by kernel_rfl) ⟨(by omega), (congrArg V.vp hdr2), trivial⟩ ?_
      refine xe1 (os := [Con Tryz.prog 16 [] [V.val (Value.string x)] [] (i64 (↑k : Int))]) [(1, ⟨none, some ⟨i64 (↑k : Int), [], []⟩⟩)] [2, 3, 4, 7, 10, 13, 14, 15, 39, 40, 41] [2, 7, 5] (by kernel_rfl) ⟨(c3 ), trivial⟩ ?_
      refine AWP.seq ?_
      refine xe0 [2, 3, 4, 7, 10, 13, 14, 15, 39, 40, 41, 48] [2, 7, 5] (by kernel_rfl) ?_
      refine AWP.condF (by kernel_rfl) ?_
      refine AWP.skip ?_
      refine AWP.region tcok hmix [(3, ⟨some (u8 (↑k : Int)), none⟩), (5, ⟨some (V.tup [V.agg true (u8s (o ++ [(↑k : Int)])), V.sl 0 0 (List.length (o ++ [(↑k : Int)]))]), none⟩)] (os := [u8 (IntKind.wrap IntKind.u8 (↑k : Int)) = u8 (↑k : Int), (1 : Nat) ≤ (1 : Nat), List.length o * (1 : Nat) = List.length (u8s o), List.length o + (1 : Nat) ≤ (9223372036854775807 : Nat), (List.length o + (1 : Nat)) * (1 : Nat) ≤ (140737488355328 : Nat), u8s o ++ List.take ((1 : Nat) * (1 : Nat)) (List.drop (0 : Nat) [u8 (↑k : Int)]) = u8s (o ++ [(↑k : Int)]), List.length o + (1 : Nat) = List.length (o ++ [(↑k : Int)])]) (sf := St.mk [(2, tp (V.ptr 2 0)), (3, tp (vb false)), (4, tp (V.vs X n)), (7, tp (V.ptr 7 0)), (10, tp (i64 (↑k : Int))), (13, tp (V.vs Wc 18)), (14, tp (i64 18)), (15, tp (i64 i)), (39, tp (V.vs Y (List.length tl))), (40, tp (i64 (↑(List.length tl) : Int))), (41, tp (i64 i2)), (48, tp (vb false)), (50, tp (V.ptr 7 4)), (51, tp V.top), (52, tp (i64 (↑k : Int))), (53, tp (u8 (↑k : Int))), (54, tp (V.sl 54 0 1)), (55, tp (V.sl 5 0 (List.length (o ++ [(↑k : Int)])))), (56, tp (V.ptr 7 4))] [(2, Blk.mk [u8 0, u8 0, u8 0, u16 0, V.val (Value.slice none 0 0)] true 5 none), (5, Blk.mk (u8s (o ++ [(↑k : Int)])) true 0 (some (5, 1))), (7, Blk.mk [u8 9, u8 w1.a, u8 w1.b, u16 0, V.sl 5 0 (List.length (o ++ [(↑k : Int)]))] false 5 none), (54, Blk.mk [u8 (↑k : Int)] true 0 (some (5, 1)))]) (by kernel_rfl) ⟨(wr_u8 (by omega) (by omega)), (by omega), (by (simp [len_u8s]; done)), (by omega), (by omega), (by first | rfl | (show u8s (o) ++ _ = _; simp only [u8s_drop, u8s_take, List.drop_zero, Nat.mul_one, Nat.one_mul, u8s_app, List.take_length, List.nil_append, List.append_nil]; done) | (simp [u8s]; done) | (simp [u8s]; omega)), (by (simp [len_u8s]; done)), trivial⟩ ?_
      refine AWP.keep' [2, 3, 4, 7, 13, 14, 15, 39, 40, 41] [2, 7, 5] (sf := St.mk [(2, tp (V.ptr 2 0)), (3, tp (vb false)), (4, tp (V.vs X n)), (7, tp (V.ptr 7 0)), (13, tp (V.vs Wc 18)), (14, tp (i64 18)), (15, tp (i64 i)), (39, tp (V.vs Y (List.length tl))), (40, tp (i64 (↑(List.length tl) : Int))), (41, tp (i64 i2))] [(2, Blk.mk [u8 0, u8 0, u8 0, u16 0, V.val (Value.slice none 0 0)] true 5 none), (5, Blk.mk (u8s (o ++ [(↑k : Int)])) true 0 (some (5, 1))), (7, Blk.mk [u8 9, u8 w1.a, u8 w1.b, u16 0, V.sl 5 0 (List.length (o ++ [(↑k : Int)]))] false 5 none)]) (by kernel_rfl) ?_
      refine AWP.region tcok hmix [(0, ⟨some (i64 (i2 + 1)), none⟩)] (os := [i64 (IntKind.wrap IntKind.i64 (i2 + 1)) = i64 (i2 + 1)]) (sf := St.mk [(2, tp (V.ptr 2 0)), (3, tp (vb false)), (4, tp (V.vs X n)), (7, tp (V.ptr 7 0)), (13, tp (V.vs Wc 18)), (14, tp (i64 18)), (15, tp (i64 i)), (39, tp (V.vs Y (List.length tl))), (40, tp (i64 (↑(List.length tl) : Int))), (41, tp (i64 (i2 + 1))), (57, tp (i64 (i2 + 1)))] [(2, Blk.mk [u8 0, u8 0, u8 0, u16 0, V.val (Value.slice none 0 0)] true 5 none), (5, Blk.mk (u8s (o ++ [(↑k : Int)])) true 0 (some (5, 1))), (7, Blk.mk [u8 9, u8 w1.a, u8 w1.b, u16 0, V.sl 5 0 (List.length (o ++ [(↑k : Int)]))] false 5 none)]) (by kernel_rfl) ⟨(wr_i64 (by omega) (by omega)), trivial⟩ ?_
      refine ⟨St.mk [(2, tp (V.ptr 2 0)), (3, tp (vb false)), (4, tp (V.vs X n)), (7, tp (V.ptr 7 0)), (13, tp (V.vs Wc 18)), (14, tp (i64 18)), (15, tp (i64 i)), (39, tp (V.vs Y (List.length tl))), (40, tp (i64 (↑(List.length tl) : Int))), (41, tp (i64 (i2 + 1)))] [(2, Blk.mk [u8 0, u8 0, u8 0, u16 0, V.val (Value.slice none 0 0)] true 5 none), (5, Blk.mk (u8s (o ++ [(↑k : Int)])) true 0 (some (5, 1))), (7, Blk.mk [u8 9, u8 w1.a, u8 w1.b, u16 0, V.sl 5 0 (List.length (o ++ [(↑k : Int)]))] false 5 none)], by kernel_rfl, ?_⟩
      exact ⟨(tl.length - (i2 + 1)).toNat, (by omega), i2 + 1, o ++ [(k : Int)], rfl, (by rw [show (i2 + 1).toNat = i2.toNat + 1 by omega, List.take_add_one, hk2, ho]; rfl), (by omega), (by omega), (by omega)⟩
    simp only [decide_eq_false_iff_not] at hq2
    (exfalso; omega)
  · have ho' : o = ds := by rw [ho, List.take_of_length_le (by omega)]
    subst ho'
    refine AWP.seq ?_
    refine AWP.regionT tcok hmix [] [2, 3, 4, 7, 13, 14, 15, 39, 40, 41, 42] [2, 5, 7] (os := []) (s' := St.mk [(2, tp (V.ptr 2 0)), (3, tp (vb false)), (4, tp (V.vs X n)), (7, tp (V.ptr 7 0)), (13, tp (V.vs Wc 18)), (14, tp (i64 18)), (15, tp (i64 i)), (39, tp (V.vs Y (List.length tl))), (40, tp (i64 (↑(List.length tl) : Int))), (41, tp (i64 i2)), (42, tp (vb (decide (i2 < (↑(List.length tl) : Int)))))] [(2, Blk.mk [u8 0, u8 0, u8 0, u16 0, V.val (Value.slice none 0 0)] true 5 none), (5, Blk.mk (u8s o) true 0 (some (5, 1))), (7, Blk.mk [u8 9, u8 w1.a, u8 w1.b, u16 0, V.sl 5 0 (List.length o)] false 5 none)]) (by kernel_rfl) trivial ?_
    refine AWP.seq ?_
    refine AWP.cond (b := decide (i2 < (↑(List.length tl) : Int))) (by kernel_rfl) (fun hq4 => ?_) (fun hq4 => ?_)
    · simp only [decide_eq_true_eq] at hq4
      (exfalso; omega)
    simp only [decide_eq_false_iff_not] at hq4
    refine AWP.exit ?_
    refine AWP.seq ?_
    refine AWP.regionT tcok hmix [] [2, 3, 4, 13, 14, 15] [2, 5] (os := []) (s' := St.mk [(2, tp (V.ptr 2 0)), (3, tp (vb true)), (4, tp (V.vs X n)), (13, tp (V.vs Wc 18)), (14, tp (i64 18)), (15, tp (i64 i))] [(2, Blk.mk [u8 9, u8 w1.a, u8 w1.b, u16 0, V.sl 5 0 (List.length o)] false 5 none), (5, Blk.mk (u8s o) true 0 (some (5, 1)))]) (by kernel_rfl) trivial ?_
    refine AWP.ret ?_
    refine ⟨Or.inr rfl, Eq.trans (b := some ([(5, Blk.mk (u8s o) true 0 (some (5, 1)))], V.tup [V.agg false [u8 9, u8 w1.a, u8 w1.b, u16 0, V.sl 5 0 (List.length o)], vb true])) (by kernel_rfl) ?_⟩
    rfl
end Go.Proofs.YtieoaeidlcdggaaGreatDoor
