/- GroundSends, of typed arguments. -/
import Derived.Test.YtieoaeidlcdggaaGreatDoorRg
import Derived.Test.YtieoaeidlcdggaaGreatDoorGtI
import Derived.Test.YtieoaeidlcdggaaGreatDoorGtF
import Derived.Test.YtieoaeidlcdggaaGreatDoorGsO
import Derived.Test.YtieoaeidlcdggaaGreatDoorGsL
namespace Go.Proofs.YtieoaeidlcdggaaGreatDoor
open Go Go.Ab
set_option linter.unusedSimpArgs false
set_option linter.unusedVariables false
set_option maxRecDepth 100000
set_option maxHeartbeats 8000000
theorem pkO_get {ap : Int} {L : List ByteArray} {i : Nat} (hi : i < L.length) {w : Wd} {ds : List Int} (h : sayO (L.getD i ⟨#[]⟩) = some (w, ds)) :
    gI (pkO ap L) (0 + i * 1) = .vs (u8s (pkB ap i (cmdB w.a w.b ds))) (5 + ds.length + 8) := by
  have e := pkO_take (ap := ap) hi h
  have hl : (pkO ap L).length = L.length := by simp [pkO]
  have h1 := congrArg (fun l : List V => l[i]?) e
  change (List.take i (pkO ap L) ++ _)[i]? = (List.take (i + 1) (pkO ap L))[i]? at h1
  rw [List.getElem?_append_right (by rw [List.length_take]; omega), List.length_take, Nat.min_eq_left (by omega), Nat.sub_self, List.getElem?_take, if_pos (by omega)] at h1
  rw [Nat.zero_add, Nat.mul_one]
  unfold gI
  rw [List.getD_eq_getElem?_getD, ← h1]
  rfl
theorem row_all : (wds.all fun w => (List.range 19).any fun k => (sOf k == w.a) && (tOf k == w.b) && (mOf k == w.n)) = true := by decide +kernel
theorem row_of {s : ByteArray} {w : Wd} {ds : List Int} (h : sayO s = some (w, ds)) : ∃ k, k < 19 ∧ sOf k = w.a ∧ tOf k = w.b ∧ mOf k = ds.length := by
  obtain ⟨h1, h2⟩ := sayO_mem h
  have := List.all_eq_true.1 row_all w h1
  obtain ⟨k, hk, e⟩ := List.any_eq_true.1 this
  simp only [Bool.and_eq_true, beq_iff_eq] at e
  exact ⟨k, List.mem_range.1 hk, e.1.1, e.1.2, by omega⟩
theorem txt_size (s : ByteArray) (m : Nat) : (txt s m).size ≤ m := by
  unfold txt
  rw [ByteArray.size_extract]
  omega
theorem sends (Q : List ByteArray) (hQ : ∀ s ∈ Q, s.size ≤ 9223372036854775807) (hQl : Q.length ≤ 9223372036854775807) (ap : Int) (hap : 0 ≤ ap ∧ ap < 65536) (bad : ByteArray) (hbad : bad.size ≤ 9223372036854775807) :
    Con Tryz.prog 3 [] [.vs (Q.map strV) Q.length, u16 ap, strV bad] [] (vb true) := by
  have c0 := con_awake
  have hXr : ∀ i : Nat, i < Q.length → List.drop (i * 1) (Q.map strV) = strV (Q.getD i ⟨#[]⟩) :: List.drop (i + 1) (Q.map strV) := fun i hi => by
    rw [Nat.mul_one, List.drop_eq_getElem_cons (by simpa using hi)]
    simp [List.getD_eq_getElem?_getD, List.getElem?_eq_getElem hi]
  have hXs : ∀ i : Nat, i < Q.length → (Q.getD i ⟨#[]⟩).size ≤ 9223372036854775807 := fun i hi => by
    rw [List.getD_eq_getElem?_getD, List.getElem?_eq_getElem hi]
    exact hQ _ (List.getElem_mem hi)
  obtain ⟨X, hX⟩ : ∃ X, Q.map strV = X := ⟨_, rfl⟩
  obtain ⟨n, hn⟩ : ∃ n, Q.length = n := ⟨_, rfl⟩
  have hXl : X.length = n := by rw [← hX, List.length_map, hn]
  rw [hX] at hXr
  rw [hn] at hXr hXs hQl
  rw [hX, hn]
  refine Con.of (C := ⟨Tryz.prog, tc, Tryz.f3.ntmps⟩) [] tcok Tryz.func3 rfl rfl (by kernel_rfl) (by kernel_rfl) ?_
  refine AWP.seq ?_
  refine AWP.regionT tcok hmix [] [0, 1, 2, 6] [] (os := []) (s' := St.mk [(0, tp (V.vs X n)), (1, tp (u16 ap)), (2, tp (V.val (Value.string bad))), (6, tp (vb false))] []) (by kernel_rfl) trivial ?_
  refine AWP.seq ?_
  refine xe1 (os := [Con Tryz.prog 4 [] [] [] (vb true)]) [(0, ⟨none, some ⟨vb true, [], []⟩⟩)] [0, 1, 2, 6, 29] [] (by kernel_rfl) ⟨(c0 ), trivial⟩ ?_
  refine AWP.condF (by kernel_rfl) ?_
  refine AWP.skip ?_
  refine xe0 [0, 1, 2, 6, 7] [7] (by kernel_rfl) ?_
  refine AWP.seq ?_
  refine xe0 [1, 2, 6, 7, 30, 31, 32] [7] (by kernel_rfl) ?_
  refine AWP.block ?_
  refine AWP.loopI [1, 2, 6, 7, 30, 31, 32] [7] (fun N s' => ∃ (i : Int) (M : List ByteArray), s' = St.mk [(1, T.plain (u16 ap)), (2, T.plain (strV bad)), (6, T.plain (vb false)), (7, T.plain (V.sl 7 0 M.length)), (30, T.plain (V.vs X n)), (31, T.plain (i64 (n : Int))), (32, T.plain (i64 i))] [(7, Blk.mk (M.map strV) true 0 (some (9, 1)))]
      ∧ 0 ≤ i ∧ i ≤ n ∧ (M.length : Int) ≤ i ∧ M.length ≤ 12 ∧ (∀ s ∈ M, s.size ≤ 40 ∧ sayO s ≠ none) ∧ (N : Int) = n - i) n (s0 := St.mk [(1, T.plain (u16 ap)), (2, T.plain (strV bad)), (6, T.plain (vb false)), (7, T.plain (V.sl 7 0 0)), (30, T.plain (V.vs X n)), (31, T.plain (i64 (n : Int))), (32, T.plain (i64 0))] [(7, Blk.mk ([]) true 0 (some (9, 1)))]) (by kernel_rfl) ?_ ?_
  · exact ⟨0, [], rfl, by omega, by omega, by simp, by simp, by simp, by omega⟩
  rintro N s' ⟨i, M, rfl, hi, hi2, hM1, hM2, hM3, hN⟩
  by_cases hin : i < n
  · have hr := hXr i.toNat (by omega)
    have hz := hXs i.toNat (by omega)
    generalize Q.getD i.toNat ⟨#[]⟩ = s at *
    have c1 := con_text s 40 (by omega) hz
    have hsz := txt_size s 40
    rw [show Int.toNat 40 = 40 from rfl] at c1
    generalize txt s 40 = p at *
    obtain ⟨Z, hZ⟩ : ∃ Z, M.map strV = Z := ⟨_, rfl⟩
    have hZl : Z.length = M.length := by rw [← hZ, List.length_map]
    have hZn : Z ++ [strV p] = (M ++ [p]).map strV := by rw [← hZ, List.map_append]; rfl
    rcases hq : sayO p with _ | ⟨w, ds⟩
    · have c2 := con_rsay_no p (by omega) hq
      refine AWP.seq ?_
      refine AWP.regionT tcok hmix [] [1, 2, 6, 7, 30, 31, 32, 33] [7] (os := []) (s' := St.mk [(1, tp (u16 ap)), (2, tp (V.val (Value.string bad))), (6, tp (vb false)), (7, tp (V.sl 7 0 (List.length M))), (30, tp (V.vs X n)), (31, tp (i64 (↑n : Int))), (32, tp (i64 i)), (33, tp (vb (decide (i < (↑n : Int)))))] [(7, Blk.mk (List.map strV M) true 0 (some (9, 1)))]) (by kernel_rfl) trivial ?_
      refine AWP.seq ?_
      refine AWP.cond (b := decide (i < (↑n : Int))) (by kernel_rfl) (fun hq1 => ?_) (fun hq1 => ?_)
      · simp only [decide_eq_true_eq] at hq1
        refine AWP.skip ?_
        refine AWP.seq ?_
        refine AWP.block ?_
        refine AWP.seq ?_
        refine AWP.regionT tcok hmix [(1, ⟨some (V.vp (strV s :: List.drop (Int.toNat i + 1) X)), none⟩)] [1, 2, 6, 7, 8, 9, 30, 31, 32] [7] (os := [(0 : Int) ≤ i ∧ i < (↑n : Int), V.vp (List.drop (Int.toNat i * 1) X) = V.vp (V.val (Value.string s) :: List.drop (Int.toNat i + 1) X)]) (s' := St.mk [(1, tp (u16 ap)), (2, tp (V.val (Value.string bad))), (6, tp (vb false)), (7, tp (V.sl 7 0 (List.length M))), (8, tp (i64 i)), (9, tp (V.val (Value.string s))), (30, tp (V.vs X n)), (31, tp (i64 (↑n : Int))), (32, tp (i64 i))] [(7, Blk.mk (List.map strV M) true 0 (some (9, 1)))]) (by kernel_rfl) ⟨(by omega), (congrArg V.vp hr), trivial⟩ ?_
        refine xe1 (os := [Con Tryz.prog 5 [] [V.val (Value.string s), i64 40] [] (V.val (Value.string p))]) [(1, ⟨none, some ⟨strV p, [], []⟩⟩)] [1, 2, 6, 7, 8, 9, 30, 31, 32] [7] (by kernel_rfl) ⟨(c1 ), trivial⟩ ?_
        refine xe1 (os := [Con Tryz.prog 6 [] [V.val (Value.string p)] [] (V.tup [V.agg true [u8 0, u8 0, u8 0, u16 0, V.val (Value.slice none 0 0)], vb false])]) [(1, ⟨none, some ⟨V.tup [V.agg true [u8 0, u8 0, u8 0, u16 0, V.val (Value.slice none 0 0)], vb false], [], []⟩⟩)] [1, 2, 6, 7, 8, 9, 11, 30, 31, 32] [7] (by kernel_rfl) ⟨(c2 ), trivial⟩ ?_
        refine xe0 [1, 2, 6, 7, 9, 30, 31, 32, 48] [7] (by kernel_rfl) ?_
        refine AWP.condF (by kernel_rfl) ?_
        refine AWP.skip ?_
        refine AWP.region tcok hmix [(0, ⟨some (i64 (i + 1)), none⟩)] (os := [i64 (IntKind.wrap IntKind.i64 (i + 1)) = i64 (i + 1)]) (sf := St.mk [(1, tp (u16 ap)), (2, tp (V.val (Value.string bad))), (6, tp (vb false)), (7, tp (V.sl 7 0 (List.length M))), (9, tp (V.val (Value.string p))), (30, tp (V.vs X n)), (31, tp (i64 (↑n : Int))), (32, tp (i64 (i + 1))), (48, tp (vb false)), (53, tp (i64 (i + 1)))] [(7, Blk.mk (List.map strV M) true 0 (some (9, 1)))]) (by kernel_rfl) ⟨(wr_i64 (by omega) (by omega)), trivial⟩ ?_
        refine ⟨St.mk [(1, tp (u16 ap)), (2, tp (V.val (Value.string bad))), (6, tp (vb false)), (7, tp (V.sl 7 0 (List.length M))), (30, tp (V.vs X n)), (31, tp (i64 (↑n : Int))), (32, tp (i64 (i + 1)))] [(7, Blk.mk (List.map strV M) true 0 (some (9, 1)))], by kernel_rfl, ?_⟩
        (exact ⟨(n - (i + 1)).toNat, (by omega), i + 1, M, (by rw [hZ]; done), (by omega), (by omega), (by omega), hM2, hM3, (by omega)⟩)
      simp only [decide_eq_false_iff_not] at hq1
      (exfalso; omega)
    · have c2 := con_rsay p (by omega) w ds hq
      rw [hZ]
      by_cases h12 : i < 12
      · refine AWP.seq ?_
        refine AWP.regionT tcok hmix [] [1, 2, 6, 7, 30, 31, 32, 33] [7] (os := []) (s' := St.mk [(1, tp (u16 ap)), (2, tp (V.val (Value.string bad))), (6, tp (vb false)), (7, tp (V.sl 7 0 (List.length M))), (30, tp (V.vs X n)), (31, tp (i64 (↑n : Int))), (32, tp (i64 i)), (33, tp (vb (decide (i < (↑n : Int)))))] [(7, Blk.mk Z true 0 (some (9, 1)))]) (by kernel_rfl) trivial ?_
        refine AWP.seq ?_
        refine AWP.cond (b := decide (i < (↑n : Int))) (by kernel_rfl) (fun hq3 => ?_) (fun hq3 => ?_)
        · simp only [decide_eq_true_eq] at hq3
          refine AWP.skip ?_
          refine AWP.seq ?_
          refine AWP.block ?_
          refine AWP.seq ?_
          refine AWP.regionT tcok hmix [(1, ⟨some (V.vp (strV s :: List.drop (Int.toNat i + 1) X)), none⟩)] [1, 2, 6, 7, 8, 9, 30, 31, 32] [7] (os := [(0 : Int) ≤ i ∧ i < (↑n : Int), V.vp (List.drop (Int.toNat i * 1) X) = V.vp (V.val (Value.string s) :: List.drop (Int.toNat i + 1) X)]) (s' := St.mk [(1, tp (u16 ap)), (2, tp (V.val (Value.string bad))), (6, tp (vb false)), (7, tp (V.sl 7 0 (List.length M))), (8, tp (i64 i)), (9, tp (V.val (Value.string s))), (30, tp (V.vs X n)), (31, tp (i64 (↑n : Int))), (32, tp (i64 i))] [(7, Blk.mk Z true 0 (some (9, 1)))]) (by kernel_rfl) ⟨(by omega), (congrArg V.vp hr), trivial⟩ ?_
          refine xe1 (os := [Con Tryz.prog 5 [] [V.val (Value.string s), i64 40] [] (V.val (Value.string p))]) [(1, ⟨none, some ⟨strV p, [], []⟩⟩)] [1, 2, 6, 7, 8, 9, 30, 31, 32] [7] (by kernel_rfl) ⟨(c1 ), trivial⟩ ?_
          refine xe1 (os := [Con Tryz.prog 6 [] [V.val (Value.string p)] [(5, Blk.mk (u8s ds) true 0 (some (5, 1)))] (V.tup [V.agg false [u8 9, u8 w.a, u8 w.b, u16 0, V.sl 5 0 (List.length ds)], vb true])]) [(1, ⟨none, some ⟨V.tup [V.agg false [u8 9, u8 w.a, u8 w.b, u16 0, V.sl 5 0 (List.length ds)], vb true], [(5, Blk.mk (u8s ds) true 0 (some (5, 1)))], []⟩⟩)] [1, 2, 6, 7, 8, 9, 11, 30, 31, 32] [7] (by kernel_rfl) ⟨(c2 ), trivial⟩ ?_
          refine xe0 [1, 2, 6, 7, 9, 30, 31, 32, 48] [7] (by kernel_rfl) ?_
          refine AWP.cond (b := true && decide (i < 12)) (by kernel_rfl) (fun hq4 => ?_) (fun hq4 => ?_)
          · simp only [Bool.true_and, decide_eq_true_eq] at hq4
            refine AWP.region tcok hmix [(3, ⟨some (V.tup [V.agg true (Z ++ [V.val (Value.string p)]), V.sl 0 0 (List.length M + 1)]), none⟩)] (os := [(1 : Nat) ≤ (1 : Nat), List.length M * (1 : Nat) = List.length Z, List.length M + (1 : Nat) ≤ (9223372036854775807 : Nat), (List.length M + (1 : Nat)) * (16 : Nat) ≤ (140737488355328 : Nat), Z ++ List.take ((1 : Nat) * (1 : Nat)) (List.drop (0 : Nat) [V.val (Value.string p)]) = Z ++ [V.val (Value.string p)], List.length M + (1 : Nat) = List.length M + (1 : Nat)]) (sf := St.mk [(1, tp (u16 ap)), (2, tp (V.val (Value.string bad))), (6, tp (vb false)), (7, tp (V.sl 7 0 (List.length M + 1))), (9, tp (V.val (Value.string p))), (30, tp (V.vs X n)), (31, tp (i64 (↑n : Int))), (32, tp (i64 i)), (48, tp (vb (true && decide (i < 12)))), (49, tp V.top), (50, tp (V.val (Value.string p))), (51, tp (V.sl 51 0 1)), (52, tp (V.sl 7 0 (List.length M + 1)))] [(7, Blk.mk (Z ++ [V.val (Value.string p)]) true 0 (some (9, 1))), (51, Blk.mk [V.val (Value.string p)] true 0 (some (9, 1)))]) (by kernel_rfl) ⟨(by omega), (by omega), (by omega), (by omega), (by first | rfl | (simp only [u8s_drop, u8s_take, List.drop_zero, Nat.mul_one, Nat.one_mul, u8s_app, List.take_length, List.nil_append, List.append_nil]; done) | (simp [u8s]; done) | (simp [u8s]; omega)), (by omega), trivial⟩ ?_
            refine AWP.keep' [1, 2, 6, 7, 30, 31, 32] [7] (sf := St.mk [(1, tp (u16 ap)), (2, tp (V.val (Value.string bad))), (6, tp (vb false)), (7, tp (V.sl 7 0 (List.length M + 1))), (30, tp (V.vs X n)), (31, tp (i64 (↑n : Int))), (32, tp (i64 i))] [(7, Blk.mk (Z ++ [V.val (Value.string p)]) true 0 (some (9, 1)))]) (by kernel_rfl) ?_
            refine AWP.region tcok hmix [(0, ⟨some (i64 (i + 1)), none⟩)] (os := [i64 (IntKind.wrap IntKind.i64 (i + 1)) = i64 (i + 1)]) (sf := St.mk [(1, tp (u16 ap)), (2, tp (V.val (Value.string bad))), (6, tp (vb false)), (7, tp (V.sl 7 0 (List.length M + 1))), (30, tp (V.vs X n)), (31, tp (i64 (↑n : Int))), (32, tp (i64 (i + 1))), (53, tp (i64 (i + 1)))] [(7, Blk.mk (Z ++ [V.val (Value.string p)]) true 0 (some (9, 1)))]) (by kernel_rfl) ⟨(wr_i64 (by omega) (by omega)), trivial⟩ ?_
            refine ⟨St.mk [(1, tp (u16 ap)), (2, tp (V.val (Value.string bad))), (6, tp (vb false)), (7, tp (V.sl 7 0 (List.length M + 1))), (30, tp (V.vs X n)), (31, tp (i64 (↑n : Int))), (32, tp (i64 (i + 1)))] [(7, Blk.mk (Z ++ [V.val (Value.string p)]) true 0 (some (9, 1)))], by kernel_rfl, ?_⟩
            first | (exfalso; omega) | (exact ⟨(n - (i + 1)).toNat, (by omega), i + 1, M ++ [p], (by rw [← hZn, List.length_append]; rfl), (by omega), (by omega), (by rw [List.length_append]; show ((M.length + 1 : Nat) : Int) ≤ i + 1; omega), (by rw [List.length_append]; show M.length + 1 ≤ 12; omega), (fun s hs => (List.mem_append.1 hs).elim (hM3 s) (fun h => by rw [List.mem_singleton.1 h]; exact ⟨hsz, by rw [hq]; simp⟩)), (by omega)⟩)
          simp only [Bool.true_and, decide_eq_false_iff_not] at hq4
          (exfalso; omega)
        simp only [decide_eq_false_iff_not] at hq3
        (exfalso; omega)
      · refine AWP.seq ?_
        refine AWP.regionT tcok hmix [] [1, 2, 6, 7, 30, 31, 32, 33] [7] (os := []) (s' := St.mk [(1, tp (u16 ap)), (2, tp (V.val (Value.string bad))), (6, tp (vb false)), (7, tp (V.sl 7 0 (List.length M))), (30, tp (V.vs X n)), (31, tp (i64 (↑n : Int))), (32, tp (i64 i)), (33, tp (vb (decide (i < (↑n : Int)))))] [(7, Blk.mk Z true 0 (some (9, 1)))]) (by kernel_rfl) trivial ?_
        refine AWP.seq ?_
        refine AWP.cond (b := decide (i < (↑n : Int))) (by kernel_rfl) (fun hq5 => ?_) (fun hq5 => ?_)
        · simp only [decide_eq_true_eq] at hq5
          refine AWP.skip ?_
          refine AWP.seq ?_
          refine AWP.block ?_
          refine AWP.seq ?_
          refine AWP.regionT tcok hmix [(1, ⟨some (V.vp (strV s :: List.drop (Int.toNat i + 1) X)), none⟩)] [1, 2, 6, 7, 8, 9, 30, 31, 32] [7] (os := [(0 : Int) ≤ i ∧ i < (↑n : Int), V.vp (List.drop (Int.toNat i * 1) X) = V.vp (V.val (Value.string s) :: List.drop (Int.toNat i + 1) X)]) (s' := St.mk [(1, tp (u16 ap)), (2, tp (V.val (Value.string bad))), (6, tp (vb false)), (7, tp (V.sl 7 0 (List.length M))), (8, tp (i64 i)), (9, tp (V.val (Value.string s))), (30, tp (V.vs X n)), (31, tp (i64 (↑n : Int))), (32, tp (i64 i))] [(7, Blk.mk Z true 0 (some (9, 1)))]) (by kernel_rfl) ⟨(by omega), (congrArg V.vp hr), trivial⟩ ?_
          refine xe1 (os := [Con Tryz.prog 5 [] [V.val (Value.string s), i64 40] [] (V.val (Value.string p))]) [(1, ⟨none, some ⟨strV p, [], []⟩⟩)] [1, 2, 6, 7, 8, 9, 30, 31, 32] [7] (by kernel_rfl) ⟨(c1 ), trivial⟩ ?_
          refine xe1 (os := [Con Tryz.prog 6 [] [V.val (Value.string p)] [(5, Blk.mk (u8s ds) true 0 (some (5, 1)))] (V.tup [V.agg false [u8 9, u8 w.a, u8 w.b, u16 0, V.sl 5 0 (List.length ds)], vb true])]) [(1, ⟨none, some ⟨V.tup [V.agg false [u8 9, u8 w.a, u8 w.b, u16 0, V.sl 5 0 (List.length ds)], vb true], [(5, Blk.mk (u8s ds) true 0 (some (5, 1)))], []⟩⟩)] [1, 2, 6, 7, 8, 9, 11, 30, 31, 32] [7] (by kernel_rfl) ⟨(c2 ), trivial⟩ ?_
          refine xe0 [1, 2, 6, 7, 9, 30, 31, 32, 48] [7] (by kernel_rfl) ?_
          refine AWP.cond (b := true && decide (i < 12)) (by kernel_rfl) (fun hq6 => ?_) (fun hq6 => ?_)
          · simp only [Bool.true_and, decide_eq_true_eq] at hq6
            (exfalso; omega)
          simp only [Bool.true_and, decide_eq_false_iff_not] at hq6
          refine AWP.skip ?_
          refine AWP.region tcok hmix [(0, ⟨some (i64 (i + 1)), none⟩)] (os := [i64 (IntKind.wrap IntKind.i64 (i + 1)) = i64 (i + 1)]) (sf := St.mk [(1, tp (u16 ap)), (2, tp (V.val (Value.string bad))), (6, tp (vb false)), (7, tp (V.sl 7 0 (List.length M))), (9, tp (V.val (Value.string p))), (30, tp (V.vs X n)), (31, tp (i64 (↑n : Int))), (32, tp (i64 (i + 1))), (48, tp (vb (true && decide (i < 12)))), (53, tp (i64 (i + 1)))] [(7, Blk.mk Z true 0 (some (9, 1)))]) (by kernel_rfl) ⟨(wr_i64 (by omega) (by omega)), trivial⟩ ?_
          refine ⟨St.mk [(1, tp (u16 ap)), (2, tp (V.val (Value.string bad))), (6, tp (vb false)), (7, tp (V.sl 7 0 (List.length M))), (30, tp (V.vs X n)), (31, tp (i64 (↑n : Int))), (32, tp (i64 (i + 1)))] [(7, Blk.mk Z true 0 (some (9, 1)))], by kernel_rfl, ?_⟩
          first | (exfalso; omega) | (exact ⟨(n - (i + 1)).toNat, (by omega), i + 1, M, (by rw [hZ]; done), (by omega), (by omega), (by omega), hM2, hM3, (by omega)⟩)
        simp only [decide_eq_false_iff_not] at hq5
        (exfalso; omega)
  clear hXr hXs hX hXl
  obtain ⟨Z, hZ⟩ : ∃ Z, M.map strV = Z := ⟨_, rfl⟩
  have hZl : Z.length = M.length := by rw [← hZ, List.length_map]
  have hall : ∀ i : Nat, i < M.length → (M.getD i ⟨#[]⟩).size ≤ 60 ∧ sayO (M.getD i ⟨#[]⟩) ≠ none := fun i hi => by
    rw [List.getD_eq_getElem?_getD, List.getElem?_eq_getElem hi]
    have := hM3 _ (List.getElem_mem hi)
    exact ⟨Nat.le_trans this.1 (by decide), this.2⟩
  have wfa : ap.tmod 2048 = ap % 2048 := Int.tmod_eq_emod_of_nonneg hap.1
  have ha : 0 ≤ ap % 2048 ∧ ap % 2048 < 2048 := by omega
  generalize ap % 2048 = a at *
  have c1 := con_packets a ha M (by omega) hall
  have hZg : ∀ i : Nat, i < M.length → gI Z (0 + i * 1) = strV (M.getD i ⟨#[]⟩) := fun i hi => by
    rw [← hZ, Nat.zero_add, Nat.mul_one]
    simp [gI, List.getD_eq_getElem?_getD, List.getElem?_eq_getElem hi]
  have hOg : ∀ (i : Nat) (w : Wd) (ds : List Int), i < M.length → sayO (M.getD i ⟨#[]⟩) = some (w, ds) → gI (pkO a M) (0 + i * 1) = .vs (u8s (pkB a i (cmdB w.a w.b ds))) (5 + ds.length + 8) := fun i w ds hi hw => pkO_get hi hw
  have hOl : (pkO a M).length = M.length := by simp [pkO]
  rw [hZ] at c1 ⊢
  generalize hm : M.length = m at *
  generalize pkO a M = O at *
  refine AWP.seq ?_
  refine AWP.regionT tcok hmix [] [1, 2, 6, 7, 30, 31, 32, 33] [7] (os := []) (s' := St.mk [(1, tp (u16 ap)), (2, tp (V.val (Value.string bad))), (6, tp (vb false)), (7, tp (V.sl 7 0 m)), (30, tp (V.vs X n)), (31, tp (i64 (↑n : Int))), (32, tp (i64 i)), (33, tp (vb (decide (i < (↑n : Int)))))] [(7, Blk.mk Z true 0 (some (9, 1)))]) (by kernel_rfl) trivial ?_
  refine AWP.seq ?_
  refine AWP.cond (b := decide (i < (↑n : Int))) (by kernel_rfl) (fun hq7 => ?_) (fun hq7 => ?_)
  · simp only [decide_eq_true_eq] at hq7
    (exfalso; omega)
  simp only [decide_eq_false_iff_not] at hq7
  refine AWP.exit ?_
  refine AWP.seq ?_
  refine AWP.regionT tcok hmix [(1, ⟨some (u16 a), none⟩)] [1, 2, 6, 7] [7] (os := [(2048 : Int) ≠ (0 : Int), u16 (Int.tmod ap 2048) = u16 a]) (s' := St.mk [(1, tp (u16 a)), (2, tp (V.val (Value.string bad))), (6, tp (vb false)), (7, tp (V.sl 7 0 m))] [(7, Blk.mk Z true 0 (some (9, 1)))]) (by kernel_rfl) ⟨(by omega), (in_eq wfa), trivial⟩ ?_
  refine xe1 (os := [Con Tryz.prog 7 [(2000000000, Blk.mk Z true 0 (some (9, 1)))] [u16 a, V.sl 2000000000 0 m] [(6, Blk.mk O true 0 (some (26, 1))), (2000000000, Blk.mk Z true 0 (some (9, 1)))] (V.tup [V.sl 6 0 m, i64 0])]) [(2, ⟨some (V.tup [V.sl 2000000000 7 0]), some ⟨V.tup [V.sl 6 0 m, i64 0], [(6, Blk.mk O true 0 (some (26, 1))), (2000000000, Blk.mk Z true 0 (some (9, 1)))], []⟩⟩)] [1, 2, 6, 7, 12, 13] [7, 600006] (by kernel_rfl) ⟨(c1 ), trivial⟩ ?_
  refine AWP.seq ?_
  refine xe0 [1, 2, 6, 7, 12, 70] [7, 600006] (by kernel_rfl) ?_
  refine AWP.cond (b := false || (↑m : Int) != (↑m : Int)) (by kernel_rfl) (fun hq8 => ?_) (fun hq8 => ?_)
  · simp only [Bool.false_or, bne_iff_ne] at hq8
    (exfalso; omega)
  simp only [Bool.false_or, bne_eq_false_iff_eq] at hq8
  refine AWP.skip ?_
  refine AWP.seq ?_
  refine AWP.seq ?_
  refine AWP.regionT tcok hmix [] [1, 2, 6, 7, 71, 72, 73] [7, 600006] (os := []) (s' := St.mk [(1, tp (u16 a)), (2, tp (V.val (Value.string bad))), (6, tp (vb false)), (7, tp (V.sl 7 0 m)), (71, tp (V.sl 600006 0 m)), (72, tp (i64 (↑m : Int))), (73, tp (i64 0))] [(7, Blk.mk Z true 0 (some (9, 1))), (600006, Blk.mk O true 0 (some (26, 1)))]) (by kernel_rfl) trivial ?_
  refine AWP.block ?_
  clear c1
  refine AWP.loopI [1, 2, 6, 7, 71, 72, 73] [7, 600006] (fun N s' => ∃ j : Int, s' = St.mk [(1, T.plain (u16 a)), (2, T.plain (strV bad)), (6, T.plain (vb false)), (7, T.plain (V.sl 7 0 m)), (71, T.plain (V.sl 600006 0 m)), (72, T.plain (i64 (m : Int))), (73, T.plain (i64 j))] [(7, Blk.mk Z true 0 (some (9, 1))), (600006, Blk.mk O true 0 (some (26, 1)))]
      ∧ 0 ≤ j ∧ j ≤ m ∧ (N : Int) = m - j) m (s0 := St.mk [(1, T.plain (u16 a)), (2, T.plain (strV bad)), (6, T.plain (vb false)), (7, T.plain (V.sl 7 0 m)), (71, T.plain (V.sl 600006 0 m)), (72, T.plain (i64 (m : Int))), (73, T.plain (i64 0))] [(7, Blk.mk Z true 0 (some (9, 1))), (600006, Blk.mk O true 0 (some (26, 1)))]) (by kernel_rfl) ?_ ?_
  · exact ⟨0, rfl, by omega, by omega, by omega⟩
  rintro N' s' ⟨j, rfl, hj, hj2, hN'⟩
  by_cases hjm : j < m
  · obtain ⟨hz, hsn⟩ := hall j.toNat (by omega)
    obtain ⟨⟨w, ds⟩, hw⟩ := Option.ne_none_iff_exists'.1 hsn
    have wgz := hZg j.toNat (by omega)
    have wgo := hOg j.toNat w ds (by omega) hw
    rw [show ((j.toNat : Nat) : Int) = j by omega] at wgo
    obtain ⟨k, hk, e1, e2, e3⟩ := row_of hw
    have h4 := sayO_len4 hw
    have hb := wds_bd (sayO_mem hw).1
    have hds := sayO_bl hw
    have c2 := con_rsay _ (by omega) w ds hw
    have c3 := con_judge a j ha ⟨by omega, by omega⟩ ds hds (by omega) k hk e3
    have hcb : BL (cmdB w.a w.b ds) := (BL.cons ⟨by omega, by omega⟩ (BL.cons hb.1 (BL.cons hb.2 (BL.cons ⟨by omega, by omega⟩ (BL.cons ⟨by omega, by omega⟩ BL.nil))))).app hds
    have hcl := cmdB_len w.a w.b ds
    have c4 := con_rpk a j ha ⟨by omega, by omega⟩ (cmdB w.a w.b ds) hcb (by omega) (by omega)
    rw [hcl] at c4
    rw [e1, e2] at c3
    have c5 := con_rows
    have c6 := con_same ds ds (by omega) (by omega)
    rw [decide_eq_true rfl] at c6
    generalize M.getD j.toNat ⟨#[]⟩ = s at *
    generalize pkB a j (cmdB w.a w.b ds) = P at *
    generalize cmdB w.a w.b ds = D at *
    generalize w.a = wa at *
    generalize w.b = wb at *
    generalize rcells = R at *
    clear hZg hOg hall hM3
    refine AWP.seq ?_
    refine AWP.regionT tcok hmix [] [1, 2, 6, 7, 71, 72, 73, 74] [7, 600006] (os := []) (s' := St.mk [(1, tp (u16 a)), (2, tp (V.val (Value.string bad))), (6, tp (vb false)), (7, tp (V.sl 7 0 m)), (71, tp (V.sl 600006 0 m)), (72, tp (i64 (↑m : Int))), (73, tp (i64 j)), (74, tp (vb (decide (j < (↑m : Int)))))] [(7, Blk.mk Z true 0 (some (9, 1))), (600006, Blk.mk O true 0 (some (26, 1)))]) (by kernel_rfl) trivial ?_
    refine AWP.seq ?_
    refine AWP.cond (b := decide (j < (↑m : Int))) (by kernel_rfl) (fun hq9 => ?_) (fun hq9 => ?_)
    · simp only [decide_eq_true_eq] at hq9
      refine AWP.skip ?_
      refine AWP.seq ?_
      refine AWP.block ?_
      refine AWP.seq ?_
      refine AWP.regionT tcok hmix [(1, ⟨some (V.ptr 600006 (0 + Int.toNat j * 1)), none⟩), (2, ⟨some (V.vs (u8s P) (5 + List.length ds + 8)), none⟩)] [1, 2, 6, 7, 14, 15, 71, 72, 73] [7, 600006] (os := [(0 : Int) ≤ j ∧ j < (↑m : Int), V.ptr 600006 (0 + Int.toNat j * 1) = V.ptr 600006 (0 + Int.toNat j * 1), (0 : Nat) + Int.toNat j * (1 : Nat) + (1 : Nat) ≤ List.length O, part_ true (isRow (TypeDesc.slice 5)) O (0 + Int.toNat j * 1) 1 = V.vs (u8s P) (5 + List.length ds + 8)]) (s' := St.mk [(1, tp (u16 a)), (2, tp (V.val (Value.string bad))), (6, tp (vb false)), (7, tp (V.sl 7 0 m)), (14, tp (i64 j)), (15, tp (V.vs (u8s P) (5 + List.length ds + 8))), (71, tp (V.sl 600006 0 m)), (72, tp (i64 (↑m : Int))), (73, tp (i64 j))] [(7, Blk.mk Z true 0 (some (9, 1))), (600006, Blk.mk O true 0 (some (26, 1)))]) (by kernel_rfl) ⟨(by omega), rfl, (by omega), (wgo ), trivial⟩ ?_
      refine xe1 (os := [Con Tryz.prog 8 [] [V.vs (u8s P) (5 + List.length ds + 8)] [(610005, Blk.mk (u8s D) true 0 (some (5, 1)))] (V.tup [V.agg false [vb true, u16 a, u16 j, V.sl 610005 0 (5 + List.length ds)], i64 0])]) [(1, ⟨none, some ⟨V.tup [V.agg false [vb true, u16 a, u16 j, V.sl 610005 0 (5 + List.length ds)], i64 0], [(610005, Blk.mk (u8s D) true 0 (some (5, 1)))], []⟩⟩)] [1, 2, 6, 7, 14, 15, 16, 17, 71, 72, 73] [7, 16, 600006, 1420005] (by kernel_rfl) ⟨(c4 ), trivial⟩ ?_
      refine xe1 (os := [Con Tryz.prog 10 [] [] [] (V.vs R 19), Con Tryz.prog 9 [] [V.vs (u8s P) (5 + List.length ds + 8), u16 a, V.vs R 19] [(960005, Blk.mk (u8s ds) true 0 (some (5, 1)))] (V.tup [i64 0, V.agg false [u8 9, u8 wa, u8 wb, u16 0, V.sl 960005 0 (List.length ds)]])]) [(2, ⟨none, some ⟨V.vs R 19, [], []⟩⟩), (3, ⟨none, some ⟨V.tup [i64 0, V.agg false [u8 9, u8 wa, u8 wb, u16 0, V.sl 960005 0 (List.length ds)]], [(960005, Blk.mk (u8s ds) true 0 (some (5, 1)))], []⟩⟩)] [1, 2, 6, 7, 14, 16, 17, 18, 19, 71, 72, 73] [7, 16, 19, 600006, 1420005, 1840005] (by kernel_rfl) ⟨(c5 ), (c3 ), trivial⟩ ?_
      refine xe1 (os := [(0 : Int) ≤ j ∧ j < (↑m : Int), V.ptr 7 (0 + Int.toNat j * 1) = V.ptr 7 (0 + Int.toNat j * 1), (0 : Nat) + Int.toNat j * (1 : Nat) + (1 : Nat) ≤ List.length Z, part_ true (isRow TypeDesc.string) Z (0 + Int.toNat j * 1) 1 = V.val (Value.string s), Con Tryz.prog 6 [] [V.val (Value.string s)] [(5, Blk.mk (u8s ds) true 0 (some (5, 1)))] (V.tup [V.agg false [u8 9, u8 wa, u8 wb, u16 0, V.sl 5 0 (List.length ds)], vb true])]) [(2, ⟨some (V.ptr 7 (0 + Int.toNat j * 1)), none⟩), (3, ⟨some (strV s), none⟩), (4, ⟨none, some ⟨V.tup [V.agg false [u8 9, u8 wa, u8 wb, u16 0, V.sl 5 0 (List.length ds)], vb true], [(5, Blk.mk (u8s ds) true 0 (some (5, 1)))], []⟩⟩)] [1, 2, 6, 7, 14, 16, 17, 18, 19, 20, 71, 72, 73] [7, 16, 19, 20, 600006, 1420005, 1840005, 960005] (by kernel_rfl) ⟨(by omega), rfl, (by omega), (wgz ), (c2 ), trivial⟩ ?_
      refine xe1 (os := [false = false → i64 (IntKind.wrap IntKind.i64 j) = i64 j ∧ True, (false || j != j || false) = false → VO (vb true) ∧ VOH [] ∧ Con Tryz.prog (11 : Nat) [] [B8 ds, B8 ds] [] (vb true) ∧ (0 : Nat) = (0 : Nat) ∧ List.length ds * (1 : Nat) = List.length (u8s ds) ∧ (0 : Nat) = (0 : Nat) ∧ List.length ds * (1 : Nat) = List.length (u8s ds) ∧ True]) [(5, ⟨some (i64 j), none⟩), (18, ⟨none, some ⟨vb true, [], [(960005, true), (1840005, true)]⟩⟩)] [1, 2, 6, 7, 71, 72, 73, 125] [7, 600006] (by kernel_rfl) ⟨(by intro hc0; first | (cases hc0; done) | ((try simp only [Bool.or_false, Bool.false_or, Bool.true_and, Bool.and_true, decide_eq_true_eq, decide_eq_false_iff_not, Bool.and_eq_true, Bool.or_eq_true, Bool.or_eq_false_iff, Bool.not_eq_true', Bool.and_eq_false_iff, beq_iff_eq, bne_iff_ne, bne_eq_false_iff_eq, beq_eq_false_iff_ne, Bool.not_eq_false'] at hc0); exact ⟨(wr_i64 (by omega) (by omega)), trivial⟩)), (by intro hc0; first | (cases hc0; done) | ((try simp only [Bool.or_false, Bool.false_or, Bool.true_and, Bool.and_true, decide_eq_true_eq, decide_eq_false_iff_not, Bool.and_eq_true, Bool.or_eq_true, Bool.or_eq_false_iff, Bool.not_eq_true', Bool.and_eq_false_iff, beq_iff_eq, bne_iff_ne, bne_eq_false_iff_eq, beq_eq_false_iff_ne, Bool.not_eq_false'] at hc0); exact ⟨(VO.val _), trivial, (c6 ), (by omega), (by (simp [len_u8s]; done)), (by omega), (by (simp [len_u8s]; done)), trivial⟩)), trivial⟩ ?_
      refine AWP.cond (b := false || j != j || false || false || wa != wa) (by kernel_rfl) (fun hq10 => ?_) (fun hq10 => ?_)
      · simp only [Bool.or_false, Bool.false_or, Bool.or_eq_true, bne_iff_ne] at hq10
        (exfalso; omega)
      simp only [Bool.or_false, Bool.false_or, Bool.or_eq_false_iff, bne_eq_false_iff_eq] at hq10
      refine AWP.skip ?_
      refine AWP.region tcok hmix [(0, ⟨some (i64 (j + 1)), none⟩)] (os := [i64 (IntKind.wrap IntKind.i64 (j + 1)) = i64 (j + 1)]) (sf := St.mk [(1, tp (u16 a)), (2, tp (V.val (Value.string bad))), (6, tp (vb false)), (7, tp (V.sl 7 0 m)), (71, tp (V.sl 600006 0 m)), (72, tp (i64 (↑m : Int))), (73, tp (i64 (j + 1))), (125, tp (vb (false || j != j || false || false || wa != wa))), (126, tp (i64 (j + 1)))] [(7, Blk.mk Z true 0 (some (9, 1))), (600006, Blk.mk O true 0 (some (26, 1)))]) (by kernel_rfl) ⟨(wr_i64 (by omega) (by omega)), trivial⟩ ?_
      refine ⟨St.mk [(1, tp (u16 a)), (2, tp (V.val (Value.string bad))), (6, tp (vb false)), (7, tp (V.sl 7 0 m)), (71, tp (V.sl 600006 0 m)), (72, tp (i64 (↑m : Int))), (73, tp (i64 (j + 1)))] [(7, Blk.mk Z true 0 (some (9, 1))), (600006, Blk.mk O true 0 (some (26, 1)))], by kernel_rfl, ?_⟩
      first | rfl | (exfalso; omega) | (exact ⟨(m - (j + 1)).toNat, (by omega), j + 1, rfl, (by omega), (by omega), (by omega)⟩)
    simp only [decide_eq_false_iff_not] at hq9
    (exfalso; omega)
  clear hZg hOg
  have d1 := con_text bad 40 (by omega) hbad
  have hsz := txt_size bad 40
  rw [show Int.toNat 40 = 40 from rfl] at d1
  generalize txt bad 40 = p at *
  have hZn : (M ++ [p]).map strV = Z ++ [strV p] := by rw [← hZ, List.map_append]; rfl
  have hln : (M ++ [p]).length = m + 1 := by rw [List.length_append, hm]; rfl
  have hgl : ∀ i : Nat, i < m → (M ++ [p]).getD i ⟨#[]⟩ = M.getD i ⟨#[]⟩ := fun i hi => by
    rw [List.getD_eq_getElem?_getD, List.getD_eq_getElem?_getD, List.getElem?_append_left (by omega)]
  have hgr : (M ++ [p]).getD m ⟨#[]⟩ = p := by
    rw [List.getD_eq_getElem?_getD, List.getElem?_append_right (by omega), hm, Nat.sub_self]
    rfl
  have d3 := con_packets_x (a + 2048) ⟨by omega, by omega⟩
  rcases hq : sayO p with _ | ⟨w, ds⟩
  · have d2 := con_rsay_no p (by omega) hq
    have d4 := con_packets_no a ha (M ++ [p]) (by omega) (fun i hi => by rw [hgl i (by omega)]; exact hall i (by omega)) (by omega) (by rw [hln, Nat.add_sub_cancel, hgr]; omega) (by rw [hln, Nat.add_sub_cancel, hgr]; exact hq)
    rw [hZn, hln] at d4
    refine AWP.seq ?_
    refine AWP.regionT tcok hmix [] [1, 2, 6, 7, 71, 72, 73, 74] [7, 600006] (os := []) (s' := St.mk [(1, tp (u16 a)), (2, tp (V.val (Value.string bad))), (6, tp (vb false)), (7, tp (V.sl 7 0 m)), (71, tp (V.sl 600006 0 m)), (72, tp (i64 (↑m : Int))), (73, tp (i64 j)), (74, tp (vb (decide (j < (↑m : Int)))))] [(7, Blk.mk Z true 0 (some (9, 1))), (600006, Blk.mk O true 0 (some (26, 1)))]) (by kernel_rfl) trivial ?_
    refine AWP.seq ?_
    refine AWP.cond (b := decide (j < (↑m : Int))) (by kernel_rfl) (fun hq11 => ?_) (fun hq11 => ?_)
    · simp only [decide_eq_true_eq] at hq11
      (exfalso; omega)
    simp only [decide_eq_false_iff_not] at hq11
    refine AWP.exit ?_
    refine AWP.seq ?_
    refine AWP.regionT tcok hmix [(1, ⟨none, some ⟨strV p, [], []⟩⟩)] [1, 2, 6, 7] [7] (os := [Con Tryz.prog 5 [] [V.val (Value.string bad), i64 40] [] (V.val (Value.string p))]) (s' := St.mk [(1, tp (u16 a)), (2, tp (V.val (Value.string p))), (6, tp (vb false)), (7, tp (V.sl 7 0 m))] [(7, Blk.mk Z true 0 (some (9, 1)))]) (by kernel_rfl) ⟨(d1 ), trivial⟩ ?_
    refine xe1 (os := [Con Tryz.prog 6 [] [V.val (Value.string p)] [] (V.tup [V.agg true [u8 0, u8 0, u8 0, u16 0, V.val (Value.slice none 0 0)], vb false])]) [(1, ⟨none, some ⟨V.tup [V.agg true [u8 0, u8 0, u8 0, u16 0, V.val (Value.slice none 0 0)], vb false], [], []⟩⟩)] [1, 2, 6, 7, 23] [7] (by kernel_rfl) ⟨(d2 ), trivial⟩ ?_
    refine xe1 (os := [(1 : Nat) ≤ (1 : Nat), m * (1 : Nat) = List.length Z, m + (1 : Nat) ≤ (9223372036854775807 : Nat), (m + (1 : Nat)) * (16 : Nat) ≤ (140737488355328 : Nat), Z ++ List.take ((1 : Nat) * (1 : Nat)) (List.drop (0 : Nat) [V.val (Value.string p)]) = Z ++ [V.val (Value.string p)], m + (1 : Nat) = m + (1 : Nat), Con Tryz.prog 7 [(2000000000, Blk.mk (Z ++ [V.val (Value.string p)]) true 0 (some (9, 1)))] [u16 a, V.sl 2000000000 0 (m + 1)] [(2000000000, Blk.mk (Z ++ [strV p]) true 0 (some (9, 1)))] (V.tup [V.vs [] 0, i64 13])]) [(4, ⟨some (V.tup [V.agg true (Z ++ [V.val (Value.string p)]), V.sl 0 0 (m + 1)]), none⟩), (5, ⟨some (V.tup [V.sl 2000000000 7 0]), some ⟨V.tup [V.vs [] 0, i64 13], [(2000000000, Blk.mk (Z ++ [strV p]) true 0 (some (9, 1)))], []⟩⟩)] [1, 6, 23, 24, 25] [] (by kernel_rfl) ⟨(by omega), (by omega), (by omega), (by omega), (by first | rfl | (simp only [u8s_drop, u8s_take, List.drop_zero, Nat.mul_one, Nat.one_mul, u8s_app, List.take_length, List.nil_append, List.append_nil]; done) | (simp [u8s]; done) | (simp [u8s]; omega)), (by omega), (d4 ), trivial⟩ ?_
    refine xe1 (os := [u16 (IntKind.wrap IntKind.u16 (a + 2048)) = u16 (a + 2048), Con Tryz.prog 7 [(2000000000, Blk.mk [V.val (Value.string (ByteArray.mk #[112, 105, 110, 103]))] true 0 (some (9, 1)))] [u16 (a + 2048), V.sl 2000000000 0 1] [(2000000000, Blk.mk [V.val (Value.string sPing)] true 0 (some (9, 1)))] (V.tup [V.vs [] 0, i64 1])]) [(1, ⟨some (u16 (a + 2048)), none⟩), (3, ⟨some (V.tup [V.sl 2000000000 146 0]), some ⟨V.tup [V.vs [] 0, i64 1], [(2000000000, Blk.mk [strV sPing] true 0 (some (9, 1)))], []⟩⟩)] [6, 23, 24, 25, 27] [] (by kernel_rfl) ⟨(wr_u16 (by omega) (by omega)), (d3 ), trivial⟩ ?_
    refine xe0 [6] [] (by kernel_rfl) ?_
    refine AWP.ret ?_
    refine ⟨Or.inr rfl, Eq.trans (b := some ([], vb true)) (by kernel_rfl) ?_⟩
    first | rfl | (exfalso; omega)
  · have d2 := con_rsay p (by omega) w ds hq
    have d4 := con_packets a ha (M ++ [p]) (by omega) (fun i hi => by
      by_cases him : i < m
      · rw [hgl i him]; exact hall i him
      · obtain rfl : i = m := by omega
        rw [hgr]
        exact ⟨by omega, by rw [hq]; simp⟩)
    rw [hZn, hln] at d4
    generalize pkO a (M ++ [p]) = O2 at *
    refine AWP.seq ?_
    refine AWP.regionT tcok hmix [] [1, 2, 6, 7, 71, 72, 73, 74] [7, 600006] (os := []) (s' := St.mk [(1, tp (u16 a)), (2, tp (V.val (Value.string bad))), (6, tp (vb false)), (7, tp (V.sl 7 0 m)), (71, tp (V.sl 600006 0 m)), (72, tp (i64 (↑m : Int))), (73, tp (i64 j)), (74, tp (vb (decide (j < (↑m : Int)))))] [(7, Blk.mk Z true 0 (some (9, 1))), (600006, Blk.mk O true 0 (some (26, 1)))]) (by kernel_rfl) trivial ?_
    refine AWP.seq ?_
    refine AWP.cond (b := decide (j < (↑m : Int))) (by kernel_rfl) (fun hq12 => ?_) (fun hq12 => ?_)
    · simp only [decide_eq_true_eq] at hq12
      (exfalso; omega)
    simp only [decide_eq_false_iff_not] at hq12
    refine AWP.exit ?_
    refine AWP.seq ?_
    refine AWP.regionT tcok hmix [(1, ⟨none, some ⟨strV p, [], []⟩⟩)] [1, 2, 6, 7] [7] (os := [Con Tryz.prog 5 [] [V.val (Value.string bad), i64 40] [] (V.val (Value.string p))]) (s' := St.mk [(1, tp (u16 a)), (2, tp (V.val (Value.string p))), (6, tp (vb false)), (7, tp (V.sl 7 0 m))] [(7, Blk.mk Z true 0 (some (9, 1)))]) (by kernel_rfl) ⟨(d1 ), trivial⟩ ?_
    refine xe1 (os := [Con Tryz.prog 6 [] [V.val (Value.string p)] [(5, Blk.mk (u8s ds) true 0 (some (5, 1)))] (V.tup [V.agg false [u8 9, u8 w.a, u8 w.b, u16 0, V.sl 5 0 (List.length ds)], vb true])]) [(1, ⟨none, some ⟨V.tup [V.agg false [u8 9, u8 w.a, u8 w.b, u16 0, V.sl 5 0 (List.length ds)], vb true], [(5, Blk.mk (u8s ds) true 0 (some (5, 1)))], []⟩⟩)] [1, 2, 6, 7, 23] [7] (by kernel_rfl) ⟨(d2 ), trivial⟩ ?_
    refine xe1 (os := [(1 : Nat) ≤ (1 : Nat), m * (1 : Nat) = List.length Z, m + (1 : Nat) ≤ (9223372036854775807 : Nat), (m + (1 : Nat)) * (16 : Nat) ≤ (140737488355328 : Nat), Z ++ List.take ((1 : Nat) * (1 : Nat)) (List.drop (0 : Nat) [V.val (Value.string p)]) = Z ++ [V.val (Value.string p)], m + (1 : Nat) = m + (1 : Nat), Con Tryz.prog 7 [(2000000000, Blk.mk (Z ++ [V.val (Value.string p)]) true 0 (some (9, 1)))] [u16 a, V.sl 2000000000 0 (m + 1)] [(6, Blk.mk O2 true 0 (some (26, 1))), (2000000000, Blk.mk (Z ++ [strV p]) true 0 (some (9, 1)))] (V.tup [V.sl 6 0 (m + 1), i64 0])]) [(4, ⟨some (V.tup [V.agg true (Z ++ [V.val (Value.string p)]), V.sl 0 0 (m + 1)]), none⟩), (5, ⟨some (V.tup [V.sl 2000000000 7 0]), some ⟨V.tup [V.sl 6 0 (m + 1), i64 0], [(6, Blk.mk O2 true 0 (some (26, 1))), (2000000000, Blk.mk (Z ++ [strV p]) true 0 (some (9, 1)))], []⟩⟩)] [1, 6, 23, 24, 25] [1410006] (by kernel_rfl) ⟨(by omega), (by omega), (by omega), (by omega), (by first | rfl | (simp only [u8s_drop, u8s_take, List.drop_zero, Nat.mul_one, Nat.one_mul, u8s_app, List.take_length, List.nil_append, List.append_nil]; done) | (simp [u8s]; done) | (simp [u8s]; omega)), (by omega), (d4 ), trivial⟩ ?_
    refine xe1 (os := [u16 (IntKind.wrap IntKind.u16 (a + 2048)) = u16 (a + 2048), Con Tryz.prog 7 [(2000000000, Blk.mk [V.val (Value.string (ByteArray.mk #[112, 105, 110, 103]))] true 0 (some (9, 1)))] [u16 (a + 2048), V.sl 2000000000 0 1] [(2000000000, Blk.mk [V.val (Value.string sPing)] true 0 (some (9, 1)))] (V.tup [V.vs [] 0, i64 1])]) [(1, ⟨some (u16 (a + 2048)), none⟩), (3, ⟨some (V.tup [V.sl 2000000000 146 0]), some ⟨V.tup [V.vs [] 0, i64 1], [(2000000000, Blk.mk [strV sPing] true 0 (some (9, 1)))], []⟩⟩)] [6, 23, 24, 25, 27] [1410006] (by kernel_rfl) ⟨(wr_u16 (by omega) (by omega)), (d3 ), trivial⟩ ?_
    refine xe0 [6] [] (by kernel_rfl) ?_
    refine AWP.ret ?_
    refine ⟨Or.inr rfl, Eq.trans (b := some ([], vb true)) (by kernel_rfl) ?_⟩
    first | rfl | (exfalso; omega)
end Go.Proofs.YtieoaeidlcdggaaGreatDoor

namespace Go.Proofs.YtieoaeidlcdggaaGreatDoor
open Go Go.Ab
set_option linter.unusedSimpArgs false
set_option linter.unusedVariables false
set_option maxRecDepth 100000
theorem strs_rows {ty : List V → Prop} (hty : ∀ r, ty r → ∃ s : ByteArray, r = [strV s] ∧ s.size ≤ 9223372036854775807) : ∀ {n : Nat} {xs : List V}, Go.Ab.Rows ty n xs → ∃ l : List ByteArray, xs = l.map strV ∧ l.length = n ∧ ∀ s ∈ l, s.size ≤ 9223372036854775807
  | 0, xs, h => by
    obtain rfl := rows_nil h
    exact ⟨[], rfl, rfl, by simp⟩
  | n + 1, xs, h => by
    obtain ⟨a, b, rfl, h1, h2⟩ := rows_cons h
    obtain ⟨s, rfl, hz⟩ := hty a h1
    obtain ⟨l, rfl, hl, hb⟩ := strs_rows hty h2
    refine ⟨s :: l, rfl, by simp [hl], fun x hx => ?_⟩
    rcases List.mem_cons.1 hx with h | h
    · rw [h]; exact hz
    · exact hb x h
theorem law_GroundSends (x y z : V) (hx : TyV tc 9 22 x) (hy : TyV tc 9 23 y) (hz : TyV tc 9 9 z) : Con Tryz.prog 3 [] [x, y, z] [] (vb true) := by
  obtain ⟨cs, n, e0, hn, hr⟩ := hx
  cases e0
  obtain ⟨l, rfl, rfl, hl⟩ := strs_rows (fun r hr => by
    obtain ⟨s, e, h⟩ := hr
    exact ⟨s, e, h⟩) hr
  obtain ⟨a, e1, a1, a2⟩ := hy
  cases e1
  obtain ⟨s, e2, hs⟩ := hz
  cases e2
  exact sends l hl hn a ⟨a1, Int.lt_add_one_of_le a2⟩ s hs
end Go.Proofs.YtieoaeidlcdggaaGreatDoor
