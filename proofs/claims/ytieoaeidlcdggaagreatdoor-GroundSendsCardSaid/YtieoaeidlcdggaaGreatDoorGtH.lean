/- Phrases made packets. -/
import Derived.Test.YtieoaeidlcdggaaGreatDoorRg
import Derived.Test.YtieoaeidlcdggaaGreatDoorGtG
namespace Go.Proofs.YtieoaeidlcdggaaGreatDoor
open Go Go.Ab
set_option linter.unusedSimpArgs false
set_option linter.unusedVariables false
set_option maxRecDepth 100000
set_option maxHeartbeats 8000000
theorem wds_bd_all : (wds.all fun w => decide (0 ≤ w.a ∧ w.a < 256) && decide (0 ≤ w.b ∧ w.b < 256)) = true := by decide +kernel
theorem wds_bd {w : Wd} (h : w ∈ wds) : (0 ≤ w.a ∧ w.a < 256) ∧ (0 ≤ w.b ∧ w.b < 256) := by
  have := List.all_eq_true.1 wds_bd_all w h
  simpa using this
theorem sayO_mem {s : ByteArray} {w : Wd} {ds : List Int} (h : sayO s = some (w, ds)) : w ∈ wds ∧ w.n = ds.length := by
  obtain ⟨hd, tl, _, _, hf⟩ := sayO_parts h
  have h1 := List.mem_of_find?_eq_some hf
  have h2 := List.find?_some hf
  simp only [isWd, Bool.and_eq_true, decide_eq_true_eq] at h2
  exact ⟨h1, h2.2⟩
theorem sayO_bl {s : ByteArray} {w : Wd} {ds : List Int} (h : sayO s = some (w, ds)) : BL ds := by
  obtain ⟨hd, tl, _, hn, _⟩ := sayO_parts h
  obtain ⟨hl, ha⟩ := numsO_all hn
  intro x hx
  obtain ⟨i, hi, rfl⟩ := List.getElem_of_mem hx
  obtain ⟨n, h1, h2⟩ := ha i (tl[i]'(by omega)) (List.getElem?_eq_getElem (by omega))
  have := (numO_some h1).1
  rw [List.getElem?_eq_getElem hi] at h2
  rw [Option.some.inj h2]
  constructor <;> omega
theorem wds_n_all : (wds.all fun w => decide (w.n ≤ 4)) = true := by decide +kernel
theorem sayO_len4 {s : ByteArray} {w : Wd} {ds : List Int} (h : sayO s = some (w, ds)) : ds.length ≤ 4 := by
  have h1 := sayO_mem h
  have := List.all_eq_true.1 wds_n_all w h1.1
  simp only [decide_eq_true_eq] at this
  omega
/-- The packet of a phrase. -/
def pkS (ap : Int) (i : Nat) (s : ByteArray) : List Int := match sayO s with | some (w, ds) => pkB ap i (cmdB w.a w.b ds) | none => []
def pkO (ap : Int) (L : List ByteArray) : List V := (List.range L.length).map fun i => .vs (u8s (pkS ap i (L.getD i ⟨#[]⟩))) (pkS ap i (L.getD i ⟨#[]⟩)).length
theorem pkS_eq {ap : Int} {i : Nat} {s : ByteArray} {w : Wd} {ds : List Int} (h : sayO s = some (w, ds)) : pkS ap i s = pkB ap i (cmdB w.a w.b ds) := by unfold pkS; rw [h]
theorem pkO_take {ap : Int} {L : List ByteArray} {i : Nat} (hi : i < L.length) {w : Wd} {ds : List Int} (h : sayO (L.getD i ⟨#[]⟩) = some (w, ds)) :
    (pkO ap L).take i ++ [.vs (u8s (pkB ap i (cmdB w.a w.b ds))) (5 + ds.length + 8)] = (pkO ap L).take (i + 1) := by
  have hl : (pkB ap i (cmdB w.a w.b ds)).length = 5 + ds.length + 8 := by
    have h1 : ∀ l : List Int, (pkB ap i l).length = l.length + 8 := fun l => by
      unfold pkB
      rw [List.length_append, pkX_len]
      simp [sumB]
      omega
    rw [h1, cmdB_len]
  rw [List.take_add_one]
  congr 1
  have : (pkO ap L)[i]? = some (.vs (u8s (pkS ap i (L.getD i ⟨#[]⟩))) (pkS ap i (L.getD i ⟨#[]⟩)).length) := by
    unfold pkO
    rw [List.getElem?_map, List.getElem?_range hi]
    rfl
  rw [this, pkS_eq h, hl]
  rfl
theorem con_packets (ap : Int) (hap : 0 ≤ ap ∧ ap < 2048) (L : List ByteArray) (hL : L.length ≤ 13) (hs : ∀ i : Nat, i < L.length → (L.getD i ⟨#[]⟩).size ≤ 60 ∧ sayO (L.getD i ⟨#[]⟩) ≠ none) :
    Con Tryz.prog 7 [(2000000000, ⟨L.map strV, true, 0, some (9, 1)⟩)] [u16 ap, .sl 2000000000 0 L.length] [(6, ⟨pkO ap L, true, 0, some (26, 1)⟩), (2000000000, ⟨L.map strV, true, 0, some (9, 1)⟩)] (.tup [.sl 6 0 L.length, i64 0]) := by
  have hXg : ∀ i : Nat, i < L.length → gI (L.map strV) (0 + i * 1) = strV (L.getD i ⟨#[]⟩) := fun i hi => by
    rw [Nat.zero_add, Nat.mul_one]
    simp [gI, List.getD_eq_getElem?_getD, List.getElem?_eq_getElem hi]
  have htk := fun i hi w ds h => @pkO_take ap L i hi w ds h
  obtain ⟨X, hX⟩ : ∃ X, L.map strV = X := ⟨_, rfl⟩
  obtain ⟨n, hn⟩ : ∃ n, L.length = n := ⟨_, rfl⟩
  have hXl : X.length = n := by rw [← hX, List.length_map, hn]
  have hOl : (pkO ap L).length = n := by simp [pkO, hn]
  rw [hX] at hXg
  rw [hn] at hXg htk hL hs
  rw [hX, hn]
  generalize pkO ap L = O at *
  refine Con.of (C := ⟨Tryz.prog, tc, Tryz.f7.ntmps⟩) [2000000000, 6] tcok Tryz.func7 rfl rfl (by kernel_rfl) (by kernel_rfl) ?_
  refine AWP.seq ?_
  refine AWP.regionT tcok hmix [] [0, 1, 4, 5] [4, 2000000000] (os := []) (s' := St.mk [(0, tp (u16 ap)), (1, tp (V.sl 2000000000 0 n)), (4, tp (V.sl 4 0 0)), (5, tp (i64 0))] [(4, Blk.mk [] true 0 (some (26, 1))), (2000000000, Blk.mk X true 0 (some (9, 1)))]) (by kernel_rfl) trivial ?_
  refine xe0 [0, 1, 4, 5, 6] [4, 6, 2000000000] (by kernel_rfl) ?_
  refine xe0 [0, 1, 4, 5, 6, 7] [4, 6, 2000000000] (by kernel_rfl) ?_
  refine AWP.seq ?_
  refine xe0 [0, 4, 5, 6, 7, 13, 14, 15] [2000000000, 4, 6] (by kernel_rfl) ?_
  refine AWP.block ?_
  refine AWP.loopI [0, 4, 5, 6, 7, 13, 14, 15] [4, 6, 2000000000] (fun N s' => ∃ i : Int, s' = St.mk [(0, T.plain (u16 ap)), (4, T.plain (V.sl 4 0 0)), (5, T.plain (i64 0)), (6, T.plain (V.sl 6 0 i.toNat)), (7, T.plain (u16 i)), (13, T.plain (V.sl 2000000000 0 n)), (14, T.plain (i64 (n : Int))), (15, T.plain (i64 i))] [(4, Blk.mk [] true 0 (some (26, 1))), (6, Blk.mk (O.take i.toNat) true 0 (some (26, 1))), (2000000000, Blk.mk X true 0 (some (9, 1)))]
      ∧ 0 ≤ i ∧ i ≤ n ∧ (N : Int) = n - i) n (s0 := St.mk [(0, T.plain (u16 ap)), (4, T.plain (V.sl 4 0 0)), (5, T.plain (i64 0)), (6, T.plain (V.sl 6 0 0)), (7, T.plain (u16 0)), (13, T.plain (V.sl 2000000000 0 n)), (14, T.plain (i64 (n : Int))), (15, T.plain (i64 0))] [(4, Blk.mk [] true 0 (some (26, 1))), (6, Blk.mk ([]) true 0 (some (26, 1))), (2000000000, Blk.mk X true 0 (some (9, 1)))]) (by kernel_rfl) ?_ ?_
  · exact ⟨0, rfl, by omega, by omega, by omega⟩
  rintro N s' ⟨i, rfl, hi, hi2, hN⟩
  have hol : (O.take i.toNat).length = i.toNat := by rw [List.length_take, hOl]; omega
  by_cases hin : i < n
  case neg =>
    obtain rfl : i = n := by omega
    have e : O.take (Int.toNat (n : Int)) = O := List.take_of_length_le (by omega)
    have e2 : Int.toNat (n : Int) = n := by omega
    refine AWP.seq ?_
    refine AWP.regionT tcok hmix [] [0, 4, 5, 6, 7, 13, 14, 15, 16] [4, 6, 2000000000] (os := []) (s' := St.mk [(0, tp (u16 ap)), (4, tp (V.sl 4 0 0)), (5, tp (i64 0)), (6, tp (V.sl 6 0 (Int.toNat (↑n : Int)))), (7, tp (u16 (↑n : Int))), (13, tp (V.sl 2000000000 0 n)), (14, tp (i64 (↑n : Int))), (15, tp (i64 (↑n : Int))), (16, tp (vb (decide ((↑n : Int) < (↑n : Int)))))] [(4, Blk.mk [] true 0 (some (26, 1))), (6, Blk.mk (List.take (Int.toNat (↑n : Int)) O) true 0 (some (26, 1))), (2000000000, Blk.mk X true 0 (some (9, 1)))]) (by kernel_rfl) trivial ?_
    refine AWP.seq ?_
    refine AWP.cond (b := decide ((↑n : Int) < (↑n : Int))) (by kernel_rfl) (fun hq0 => ?_) (fun hq0 => ?_)
    · simp only [decide_eq_true_eq] at hq0
      (exfalso; omega)
    simp only [decide_eq_false_iff_not] at hq0
    refine AWP.exit ?_
    refine AWP.seq ?_
    refine AWP.keep' [6] [2000000000, 6] (sf := St.mk [(6, tp (V.sl 6 0 (Int.toNat (↑n : Int))))] [(6, Blk.mk (List.take (Int.toNat (↑n : Int)) O) true 0 (some (26, 1))), (2000000000, Blk.mk X true 0 (some (9, 1)))]) (by kernel_rfl) ?_
    refine AWP.regionT tcok hmix [] [4, 5] [2000000000, 6] (os := []) (s' := St.mk [(4, tp (V.sl 6 0 (Int.toNat (↑n : Int)))), (5, tp (i64 0))] [(6, Blk.mk (List.take (Int.toNat (↑n : Int)) O) true 0 (some (26, 1))), (2000000000, Blk.mk X true 0 (some (9, 1)))]) (by kernel_rfl) trivial ?_
    refine AWP.ret ?_
    refine ⟨Or.inr rfl, Eq.trans (b := some ([(6, Blk.mk (List.take (Int.toNat (↑n : Int)) O) true 0 (some (26, 1))), (2000000000, Blk.mk X true 0 (some (9, 1)))], V.tup [V.sl 6 0 (Int.toNat (↑n : Int)), i64 0])) (by kernel_rfl) ?_⟩
    (rw [e, e2]; done)
  obtain ⟨hz, hsn⟩ := hs i.toNat (by omega)
  have wgx := hXg i.toNat (by omega)
  obtain ⟨⟨w, ds⟩, hw⟩ := Option.ne_none_iff_exists'.1 hsn
  have htk1 := htk i.toNat (by omega) w ds hw
  generalize L.getD i.toNat ⟨#[]⟩ = s at *
  have hm := wds_bd (sayO_mem hw).1
  have h4 := sayO_len4 hw
  have hcb : BL (cmdB w.a w.b ds) := (BL.cons ⟨by omega, by omega⟩ (BL.cons hm.1 (BL.cons hm.2 (BL.cons ⟨by omega, by omega⟩ (BL.cons ⟨by omega, by omega⟩ BL.nil))))).app (sayO_bl hw)
  have c1 := con_say s (by omega) w ds hw
  have c2 := con_send ap i hap ⟨by omega, by omega⟩ w.a w.b ds hcb ds.length rfl (by omega)
  have c3 := con_next i ⟨by omega, by omega⟩
  have hii : ((i.toNat : Nat) : Int) = i := by omega
  rw [hii] at htk1
  generalize cmdB w.a w.b ds = D at *
  generalize w.a = wa at *
  generalize w.b = wb at *
  refine AWP.seq ?_
  refine AWP.regionT tcok hmix [] [0, 4, 5, 6, 7, 13, 14, 15, 16] [4, 6, 2000000000] (os := []) (s' := St.mk [(0, tp (u16 ap)), (4, tp (V.sl 4 0 0)), (5, tp (i64 0)), (6, tp (V.sl 6 0 (Int.toNat i))), (7, tp (u16 i)), (13, tp (V.sl 2000000000 0 n)), (14, tp (i64 (↑n : Int))), (15, tp (i64 i)), (16, tp (vb (decide (i < (↑n : Int)))))] [(4, Blk.mk [] true 0 (some (26, 1))), (6, Blk.mk (List.take (Int.toNat i) O) true 0 (some (26, 1))), (2000000000, Blk.mk X true 0 (some (9, 1)))]) (by kernel_rfl) trivial ?_
  refine AWP.seq ?_
  refine AWP.cond (b := decide (i < (↑n : Int))) (by kernel_rfl) (fun hq1 => ?_) (fun hq1 => ?_)
  rotate_left
  · simp only [decide_eq_false_iff_not] at hq1
    (exfalso; omega)
  simp only [decide_eq_true_eq] at hq1
  refine AWP.skip ?_
  refine AWP.seq ?_
  refine AWP.block ?_
  refine AWP.seq ?_
  refine AWP.regionT tcok hmix [(0, ⟨some (V.ptr 2000000000 (0 + Int.toNat i * 1)), none⟩), (1, ⟨some (strV s), none⟩)] [0, 4, 5, 6, 7, 9, 13, 14, 15] [2000000000, 4, 6] (os := [(0 : Int) ≤ i ∧ i < (↑n : Int), V.ptr 2000000000 (0 + Int.toNat i * 1) = V.ptr 2000000000 (0 + Int.toNat i * 1), (0 : Nat) + Int.toNat i * (1 : Nat) + (1 : Nat) ≤ List.length X, part_ true (isRow TypeDesc.string) X (0 + Int.toNat i * 1) 1 = V.val (Value.string s)]) (s' := St.mk [(0, tp (u16 ap)), (4, tp (V.sl 4 0 0)), (5, tp (i64 0)), (6, tp (V.sl 6 0 (Int.toNat i))), (7, tp (u16 i)), (9, tp (V.val (Value.string s))), (13, tp (V.sl 2000000000 0 n)), (14, tp (i64 (↑n : Int))), (15, tp (i64 i))] [(4, Blk.mk [] true 0 (some (26, 1))), (6, Blk.mk (List.take (Int.toNat i) O) true 0 (some (26, 1))), (2000000000, Blk.mk X true 0 (some (9, 1)))]) (by kernel_rfl) ⟨(by omega), rfl, (by omega), (wgx ), trivial⟩ ?_
  refine xe1 (os := [Con Tryz.prog 12 [] [V.val (Value.string s)] [(5, Blk.mk (u8s ds) true 0 (some (5, 1)))] (V.tup [V.agg false [u8 9, u8 wa, u8 wb, u16 0, V.sl 5 0 (List.length ds)], i64 0])]) [(1, ⟨none, some ⟨V.tup [V.agg false [u8 9, u8 wa, u8 wb, u16 0, V.sl 5 0 (List.length ds)], i64 0], [(5, Blk.mk (u8s ds) true 0 (some (5, 1)))], []⟩⟩)] [0, 4, 5, 6, 7, 10, 11, 13, 14, 15] [2000000000, 4, 6, 10, 220005] (by kernel_rfl) ⟨(c1 ), trivial⟩ ?_
  refine AWP.seq ?_
  refine xe0 [0, 4, 5, 6, 7, 10, 11, 13, 14, 15, 25] [2000000000, 4, 6, 10, 220005] (by kernel_rfl) ?_
  refine AWP.condF (by kernel_rfl) ?_
  refine AWP.skip ?_
  refine xe1 (os := [VO (V.tup [V.sl (1000005 : Nat) (0 : Nat) ((5 : Nat) + List.length ds + (8 : Nat)), i64 (0 : Int)]), VOH [((1000005 : Nat), Blk.mk (u8s (pkB ap i D)) true (0 : Nat) (some ((5 : Nat), (1 : Nat))))], Con Tryz.prog 17 [] [u16 ap, u16 i, V.agg true [u8 9, u8 wa, u8 wb, u16 0, B8 ds]] [(1000005, Blk.mk (u8s (pkB ap i D)) true 0 (some (5, 1)))] (V.tup [V.sl 1000005 0 (5 + List.length ds + 8), i64 0]), (0 : Nat) = (0 : Nat)]) [(3, ⟨none, some ⟨V.tup [V.sl 1000005 0 (5 + List.length ds + 8), i64 0], [(1000005, Blk.mk (u8s (pkB ap i D)) true 0 (some (5, 1)))], [(220005, true)]⟩⟩)] [0, 4, 5, 6, 7, 11, 12, 13, 14, 15] [2000000000, 4, 6, 1320005] (by kernel_rfl) ⟨(VO.tup (VOL.cons (VO.sl _ _ _) (VOL.cons (VO.val _) VOL.nil))), ⟨(VOL.u8s _), trivial⟩, (c2 ), (by omega), trivial⟩ ?_
  refine AWP.seq ?_
  refine xe0 [0, 4, 5, 6, 7, 11, 12, 13, 14, 15, 35] [2000000000, 4, 6, 1320005] (by kernel_rfl) ?_
  refine AWP.condF (by kernel_rfl) ?_
  refine AWP.skip ?_
  refine AWP.frz 1320005 (s' := St.mk [(0, T.plain (u16 ap)), (4, T.plain (V.sl 4 0 0)), (5, T.plain (i64 0)), (6, T.plain (V.sl 6 0 i.toNat)), (7, T.plain (u16 i)), (11, T.plain (i64 0)), (12, T.plain (V.vs (u8s (pkB ap i D)) (5 + ds.length + 8))), (13, T.plain (V.sl 2000000000 0 n)), (14, T.plain (i64 (n : Int))), (15, T.plain (i64 i)), (35, T.plain (vb false))] [(4, Blk.mk [] true 0 (some (26, 1))), (6, Blk.mk (O.take i.toNat) true 0 (some (26, 1))), (2000000000, Blk.mk X true 0 (some (9, 1)))]) (by kernel_rfl) ?_
  refine AWP.region tcok hmix [(3, ⟨some (V.tup [V.agg true (List.take (Int.toNat i) O ++ [V.vs (u8s (pkB ap i D)) (5 + List.length ds + 8)]), V.sl 0 0 (Int.toNat i + 1)]), none⟩), (5, ⟨none, some ⟨u16 (i + 1), [], []⟩⟩)] (os := [(1 : Nat) ≤ (1 : Nat), Int.toNat i * (1 : Nat) = List.length (List.take (Int.toNat i) O), Int.toNat i + (1 : Nat) ≤ (9223372036854775807 : Nat), (Int.toNat i + (1 : Nat)) * (24 : Nat) ≤ (140737488355328 : Nat), List.take (Int.toNat i) O ++ List.take ((1 : Nat) * (1 : Nat)) (List.drop (0 : Nat) [V.vs (u8s (pkB ap i D)) ((5 : Nat) + List.length ds + (8 : Nat))]) = List.take (Int.toNat i) O ++ [V.vs (u8s (pkB ap i D)) ((5 : Nat) + List.length ds + (8 : Nat))], Int.toNat i + (1 : Nat) = Int.toNat i + (1 : Nat), Con Tryz.prog 18 [] [u16 i] [] (u16 (i + 1))]) (sf := St.mk [(0, tp (u16 ap)), (4, tp (V.sl 4 0 0)), (5, tp (i64 0)), (6, tp (V.sl 6 0 (Int.toNat i + 1))), (7, tp (u16 (i + 1))), (11, tp (i64 0)), (12, tp (V.vs (u8s (pkB ap i D)) (5 + List.length ds + 8))), (13, tp (V.sl 2000000000 0 n)), (14, tp (i64 (↑n : Int))), (15, tp (i64 i)), (35, tp (vb false)), (37, tp V.top), (38, tp (V.vs (u8s (pkB ap i D)) (5 + List.length ds + 8))), (39, tp (V.sl 39 0 1)), (40, tp (V.sl 6 0 (Int.toNat i + 1))), (41, tp (u16 i)), (42, tp (u16 (i + 1)))] [(4, Blk.mk [] true 0 (some (26, 1))), (6, Blk.mk (List.take (Int.toNat i) O ++ [V.vs (u8s (pkB ap i D)) (5 + List.length ds + 8)]) true 0 (some (26, 1))), (39, Blk.mk [V.vs (u8s (pkB ap i D)) (5 + List.length ds + 8)] true 0 (some (26, 1))), (2000000000, Blk.mk X true 0 (some (9, 1)))]) (by kernel_rfl) ⟨(by omega), (by first | omega | (simp [len_u8s]; done) | (simp [len_u8s]; omega)), (by omega), (by omega), (by first | rfl | (simp only [u8s_drop, u8s_take, List.drop_zero, Nat.mul_one, Nat.one_mul, u8s_app, List.take_length, List.nil_append, List.append_nil]; done) | (simp [u8s]; done) | (simp [u8s]; omega)), (by omega), (c3 ), trivial⟩ ?_
  refine AWP.keep' [0, 4, 5, 6, 7, 13, 14, 15] [2000000000, 4, 6] (sf := St.mk [(0, tp (u16 ap)), (4, tp (V.sl 4 0 0)), (5, tp (i64 0)), (6, tp (V.sl 6 0 (Int.toNat i + 1))), (7, tp (u16 (i + 1))), (13, tp (V.sl 2000000000 0 n)), (14, tp (i64 (↑n : Int))), (15, tp (i64 i))] [(4, Blk.mk [] true 0 (some (26, 1))), (6, Blk.mk (List.take (Int.toNat i) O ++ [V.vs (u8s (pkB ap i D)) (5 + List.length ds + 8)]) true 0 (some (26, 1))), (2000000000, Blk.mk X true 0 (some (9, 1)))]) (by kernel_rfl) ?_
  refine AWP.region tcok hmix [(0, ⟨some (i64 (i + 1)), none⟩)] (os := [i64 (IntKind.wrap IntKind.i64 (i + 1)) = i64 (i + 1)]) (sf := St.mk [(0, tp (u16 ap)), (4, tp (V.sl 4 0 0)), (5, tp (i64 0)), (6, tp (V.sl 6 0 (Int.toNat i + 1))), (7, tp (u16 (i + 1))), (13, tp (V.sl 2000000000 0 n)), (14, tp (i64 (↑n : Int))), (15, tp (i64 (i + 1))), (43, tp (i64 (i + 1)))] [(4, Blk.mk [] true 0 (some (26, 1))), (6, Blk.mk (List.take (Int.toNat i) O ++ [V.vs (u8s (pkB ap i D)) (5 + List.length ds + 8)]) true 0 (some (26, 1))), (2000000000, Blk.mk X true 0 (some (9, 1)))]) (by kernel_rfl) ⟨(wr_i64 (by omega) (by omega)), trivial⟩ ?_
  refine ⟨St.mk [(0, tp (u16 ap)), (4, tp (V.sl 4 0 0)), (5, tp (i64 0)), (6, tp (V.sl 6 0 (Int.toNat i + 1))), (7, tp (u16 (i + 1))), (13, tp (V.sl 2000000000 0 n)), (14, tp (i64 (↑n : Int))), (15, tp (i64 (i + 1)))] [(4, Blk.mk [] true 0 (some (26, 1))), (6, Blk.mk (List.take (Int.toNat i) O ++ [V.vs (u8s (pkB ap i D)) (5 + List.length ds + 8)]) true 0 (some (26, 1))), (2000000000, Blk.mk X true 0 (some (9, 1)))], by kernel_rfl, ?_⟩
  (exact ⟨(n - (i + 1)).toNat, (by omega), i + 1, (by rw [show (i + 1).toNat = i.toNat + 1 by omega, ← htk1]; done), (by omega), (by omega), (by omega)⟩)
end Go.Proofs.YtieoaeidlcdggaaGreatDoor
