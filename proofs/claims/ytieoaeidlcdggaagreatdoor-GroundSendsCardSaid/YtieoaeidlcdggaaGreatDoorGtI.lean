/- Phrases of which one is none, and packets of nobody. -/
import Derived.Test.YtieoaeidlcdggaaGreatDoorRg
import Derived.Test.YtieoaeidlcdggaaGreatDoorGtH
namespace Go.Proofs.YtieoaeidlcdggaaGreatDoor
open Go Go.Ab
set_option linter.unusedSimpArgs false
set_option linter.unusedVariables false
set_option maxRecDepth 100000
set_option maxHeartbeats 8000000
theorem con_packets_no (ap : Int) (hap : 0 ≤ ap ∧ ap < 2048) (L : List ByteArray) (hL : L.length ≤ 13) (hs : ∀ i : Nat, i + 1 < L.length → (L.getD i ⟨#[]⟩).size ≤ 60 ∧ sayO (L.getD i ⟨#[]⟩) ≠ none) (hp : 0 < L.length) (hb : (L.getD (L.length - 1) ⟨#[]⟩).size ≤ 60) (hb2 : sayO (L.getD (L.length - 1) ⟨#[]⟩) = none) :
    Con Tryz.prog 7 [(2000000000, ⟨L.map strV, true, 0, some (9, 1)⟩)] [u16 ap, .sl 2000000000 0 L.length] [(2000000000, ⟨L.map strV, true, 0, some (9, 1)⟩)] (.tup [.vs [] 0, i64 13]) := by
  have hXg : ∀ i : Nat, i < L.length → gI (L.map strV) (0 + i * 1) = strV (L.getD i ⟨#[]⟩) := fun i hi => by
    rw [Nat.zero_add, Nat.mul_one]
    simp [gI, List.getD_eq_getElem?_getD, List.getElem?_eq_getElem hi]
  have htk := fun i hi w ds h => @pkO_take ap L i hi w ds h
  obtain ⟨X, hX⟩ : ∃ X, L.map strV = X := ⟨_, rfl⟩
  obtain ⟨n, hn⟩ : ∃ n, L.length = n := ⟨_, rfl⟩
  have hXl : X.length = n := by rw [← hX, List.length_map, hn]
  have hOl : (pkO ap L).length = n := by simp [pkO, hn]
  rw [hX] at hXg
  rw [hn] at hXg htk hL hs hp hb hb2
  rw [hX, hn]
  generalize pkO ap L = O at *
  refine Con.of (C := ⟨Tryz.prog, tc, Tryz.f7.ntmps⟩) [1000000000, 2000000000] tcok Tryz.func7 rfl rfl (by kernel_rfl) (by kernel_rfl) ?_
  refine AWP.seq ?_
  refine AWP.regionT tcok hmix [] [0, 1, 4, 5] [4, 2000000000] (os := []) (s' := St.mk [(0, tp (u16 ap)), (1, tp (V.sl 2000000000 0 n)), (4, tp (V.sl 4 0 0)), (5, tp (i64 0))] [(4, Blk.mk [] true 0 (some (26, 1))), (2000000000, Blk.mk X true 0 (some (9, 1)))]) (by kernel_rfl) trivial ?_
  refine xe0 [0, 1, 4, 5, 6] [4, 6, 2000000000] (by kernel_rfl) ?_
  refine xe0 [0, 1, 4, 5, 6, 7] [4, 6, 2000000000] (by kernel_rfl) ?_
  refine AWP.seq ?_
  refine xe0 [0, 4, 5, 6, 7, 13, 14, 15] [2000000000, 4, 6] (by kernel_rfl) ?_
  refine AWP.block ?_
  refine AWP.loopI [0, 4, 5, 6, 7, 13, 14, 15] [4, 6, 2000000000] (fun N s' => ∃ i : Int, s' = St.mk [(0, T.plain (u16 ap)), (4, T.plain (V.sl 4 0 0)), (5, T.plain (i64 0)), (6, T.plain (V.sl 6 0 i.toNat)), (7, T.plain (u16 i)), (13, T.plain (V.sl 2000000000 0 n)), (14, T.plain (i64 (n : Int))), (15, T.plain (i64 i))] [(4, Blk.mk [] true 0 (some (26, 1))), (6, Blk.mk (O.take i.toNat) true 0 (some (26, 1))), (2000000000, Blk.mk X true 0 (some (9, 1)))]
      ∧ 0 ≤ i ∧ i ≤ n - 1 ∧ (N : Int) = n - i) n (s0 := St.mk [(0, T.plain (u16 ap)), (4, T.plain (V.sl 4 0 0)), (5, T.plain (i64 0)), (6, T.plain (V.sl 6 0 0)), (7, T.plain (u16 0)), (13, T.plain (V.sl 2000000000 0 n)), (14, T.plain (i64 (n : Int))), (15, T.plain (i64 0))] [(4, Blk.mk [] true 0 (some (26, 1))), (6, Blk.mk ([]) true 0 (some (26, 1))), (2000000000, Blk.mk X true 0 (some (9, 1)))]) (by kernel_rfl) ?_ ?_
  · exact ⟨0, rfl, by omega, by omega, by omega⟩
  rintro N s' ⟨i, rfl, hi, hi2, hN⟩
  have hol : (O.take i.toNat).length = i.toNat := by rw [List.length_take, hOl]; omega
  by_cases hin : i < n - 1
  case neg =>
    obtain rfl : i = n - 1 := by omega
    have wgx := hXg (n - 1) (by omega)
    have c1 := con_say_no _ (by omega) hb2
    have hnn : ((n : Int) - 1).toNat = n - 1 := by omega
    rw [← hnn] at wgx c1
    generalize L.getD ((n : Int) - 1).toNat ⟨#[]⟩ = s at *
    refine AWP.seq ?_
    refine AWP.regionT tcok hmix [] [0, 4, 5, 6, 7, 13, 14, 15, 16] [4, 6, 2000000000] (os := []) (s' := St.mk [(0, tp (u16 ap)), (4, tp (V.sl 4 0 0)), (5, tp (i64 0)), (6, tp (V.sl 6 0 (Int.toNat ((↑n : Int) - 1)))), (7, tp (u16 ((↑n : Int) - 1))), (13, tp (V.sl 2000000000 0 n)), (14, tp (i64 (↑n : Int))), (15, tp (i64 ((↑n : Int) - 1))), (16, tp (vb (decide ((↑n : Int) - 1 < (↑n : Int)))))] [(4, Blk.mk [] true 0 (some (26, 1))), (6, Blk.mk (List.take (Int.toNat ((↑n : Int) - 1)) O) true 0 (some (26, 1))), (2000000000, Blk.mk X true 0 (some (9, 1)))]) (by kernel_rfl) trivial ?_
    refine AWP.seq ?_
    refine AWP.cond (b := decide ((↑n : Int) - 1 < (↑n : Int))) (by kernel_rfl) (fun hq0 => ?_) (fun hq0 => ?_)
    · simp only [decide_eq_true_eq] at hq0
      refine AWP.skip ?_
      refine AWP.seq ?_
      refine AWP.block ?_
      refine AWP.seq ?_
      refine AWP.regionT tcok hmix [(0, ⟨some (V.ptr 2000000000 (0 + Int.toNat ((↑n : Int) - 1) * 1)), none⟩), (1, ⟨some (strV s), none⟩)] [0, 4, 5, 6, 7, 9, 13, 14, 15] [2000000000, 4, 6] (os := [(0 : Int) ≤ (↑n : Int) - (1 : Int) ∧ (↑n : Int) - (1 : Int) < (↑n : Int), V.ptr 2000000000 (0 + Int.toNat ((↑n : Int) - 1) * 1) = V.ptr 2000000000 (0 + Int.toNat ((↑n : Int) - 1) * 1), (0 : Nat) + Int.toNat ((↑n : Int) - (1 : Int)) * (1 : Nat) + (1 : Nat) ≤ List.length X, part_ true (isRow TypeDesc.string) X (0 + Int.toNat ((↑n : Int) - 1) * 1) 1 = V.val (Value.string s)]) (s' := St.mk [(0, tp (u16 ap)), (4, tp (V.sl 4 0 0)), (5, tp (i64 0)), (6, tp (V.sl 6 0 (Int.toNat ((↑n : Int) - 1)))), (7, tp (u16 ((↑n : Int) - 1))), (9, tp (V.val (Value.string s))), (13, tp (V.sl 2000000000 0 n)), (14, tp (i64 (↑n : Int))), (15, tp (i64 ((↑n : Int) - 1)))] [(4, Blk.mk [] true 0 (some (26, 1))), (6, Blk.mk (List.take (Int.toNat ((↑n : Int) - 1)) O) true 0 (some (26, 1))), (2000000000, Blk.mk X true 0 (some (9, 1)))]) (by kernel_rfl) ⟨(by omega), rfl, (by omega), (wgx ), trivial⟩ ?_
      refine xe1 (os := [Con Tryz.prog 12 [] [V.val (Value.string s)] [] (V.tup [V.agg true [u8 0, u8 0, u8 0, u16 0, V.val (Value.slice none 0 0)], i64 13])]) [(1, ⟨none, some ⟨V.tup [V.agg true [u8 0, u8 0, u8 0, u16 0, V.val (Value.slice none 0 0)], i64 13], [], []⟩⟩)] [0, 4, 5, 6, 7, 10, 11, 13, 14, 15] [2000000000, 4, 6, 10] (by kernel_rfl) ⟨(c1 ), trivial⟩ ?_
      refine AWP.seq ?_
      refine xe0 [0, 4, 5, 6, 7, 10, 11, 13, 14, 15, 25] [2000000000, 4, 6, 10] (by kernel_rfl) ?_
      refine AWP.condT (by kernel_rfl) ?_
      refine AWP.seq ?_
      refine AWP.keep' [0, 6, 7, 10, 11, 13, 14, 15] [2000000000, 6, 10] (sf := St.mk [(0, tp (u16 ap)), (6, tp (V.sl 6 0 (Int.toNat ((↑n : Int) - 1)))), (7, tp (u16 ((↑n : Int) - 1))), (10, tp (V.ptr 10 0)), (11, tp (i64 13)), (13, tp (V.sl 2000000000 0 n)), (14, tp (i64 (↑n : Int))), (15, tp (i64 ((↑n : Int) - 1)))] [(6, Blk.mk (List.take (Int.toNat ((↑n : Int) - 1)) O) true 0 (some (26, 1))), (10, Blk.mk [u8 0, u8 0, u8 0, u16 0, V.val (Value.slice none 0 0)] true 5 none), (2000000000, Blk.mk X true 0 (some (9, 1)))]) (by kernel_rfl) ?_
      refine xg0 [0, 4, 5, 6, 7, 10, 11, 13, 14, 15] [2000000000, 4, 6, 10] (by kernel_rfl) ?_
      refine AWP.frz 4 (s' := St.mk [(0, tp (u16 ap)), (4, tp (V.vs [] 0)), (5, tp (i64 13)), (6, tp (V.sl 6 0 (Int.toNat ((↑n : Int) - 1)))), (7, tp (u16 ((↑n : Int) - 1))), (10, tp (V.ptr 10 0)), (11, tp (i64 13)), (13, tp (V.sl 2000000000 0 n)), (14, tp (i64 (↑n : Int))), (15, tp (i64 ((↑n : Int) - 1)))] [(6, Blk.mk (List.take (Int.toNat ((↑n : Int) - 1)) O) true 0 (some (26, 1))), (10, Blk.mk [u8 0, u8 0, u8 0, u16 0, V.val (Value.slice none 0 0)] true 5 none), (2000000000, Blk.mk X true 0 (some (9, 1)))]) (by kernel_rfl) ?_
      refine AWP.ret ?_
      refine ⟨Or.inr rfl, Eq.trans (b := some ([(2000000000, Blk.mk X true 0 (some (9, 1)))], V.tup [V.vs [] 0, i64 13])) (by kernel_rfl) ?_⟩
      rfl
    simp only [decide_eq_false_iff_not] at hq0
    (exfalso; omega)
  obtain ⟨hz, hsn⟩ := hs i.toNat (by omega)
  have wgx := hXg i.toNat (by omega)
  obtain ⟨⟨w, ds⟩, hw⟩ := Option.ne_none_iff_exists'.1 hsn
  have htk1 := htk i.toNat (by omega) w ds hw
  generalize L.getD i.toNat ⟨#[]⟩ = s at *
  have hm := wds_bd (sayO_mem hw).1
  have h4 := sayO_len4 hw
  have hcb : BL (cmdB w.a w.b ds) := (BL.cons ⟨by omega, by omega⟩ (BL.cons hm.1 (BL.cons hm.2 (BL.cons ⟨by omega, by omega⟩ (BL.cons ⟨by omega, by omega⟩ BL.nil))))).app (sayO_bl hw)
  have c1 := con_say s (by omega) w ds hw
  have c2 := con_send ap i hap ⟨by omega, by omega⟩ w.a w.b ds hcb ds.length rfl (by omega)
  have c3 := con_next i ⟨by omega, by omega⟩
  have hii : ((i.toNat : Nat) : Int) = i := by omega
  rw [hii] at htk1
  generalize cmdB w.a w.b ds = D at *
  generalize w.a = wa at *
  generalize w.b = wb at *
  refine AWP.seq ?_
  refine AWP.regionT tcok hmix [] [0, 4, 5, 6, 7, 13, 14, 15, 16] [4, 6, 2000000000] (os := []) (s' := St.mk [(0, tp (u16 ap)), (4, tp (V.sl 4 0 0)), (5, tp (i64 0)), (6, tp (V.sl 6 0 (Int.toNat i))), (7, tp (u16 i)), (13, tp (V.sl 2000000000 0 n)), (14, tp (i64 (↑n : Int))), (15, tp (i64 i)), (16, tp (vb (decide (i < (↑n : Int)))))] [(4, Blk.mk [] true 0 (some (26, 1))), (6, Blk.mk (List.take (Int.toNat i) O) true 0 (some (26, 1))), (2000000000, Blk.mk X true 0 (some (9, 1)))]) (by kernel_rfl) trivial ?_
  refine AWP.seq ?_
  refine AWP.cond (b := decide (i < (↑n : Int))) (by kernel_rfl) (fun hq2 => ?_) (fun hq2 => ?_)
  rotate_left
  · simp only [decide_eq_false_iff_not] at hq2
    (exfalso; omega)
  simp only [decide_eq_true_eq] at hq2
  refine AWP.skip ?_
  refine AWP.seq ?_
  refine AWP.block ?_
  refine AWP.seq ?_
  refine AWP.regionT tcok hmix [(0, ⟨some (V.ptr 2000000000 (0 + Int.toNat i * 1)), none⟩), (1, ⟨some (strV s), none⟩)] [0, 4, 5, 6, 7, 9, 13, 14, 15] [2000000000, 4, 6] (os := [(0 : Int) ≤ i ∧ i < (↑n : Int), V.ptr 2000000000 (0 + Int.toNat i * 1) = V.ptr 2000000000 (0 + Int.toNat i * 1), (0 : Nat) + Int.toNat i * (1 : Nat) + (1 : Nat) ≤ List.length X, part_ true (isRow TypeDesc.string) X (0 + Int.toNat i * 1) 1 = V.val (Value.string s)]) (s' := St.mk [(0, tp (u16 ap)), (4, tp (V.sl 4 0 0)), (5, tp (i64 0)), (6, tp (V.sl 6 0 (Int.toNat i))), (7, tp (u16 i)), (9, tp (V.val (Value.string s))), (13, tp (V.sl 2000000000 0 n)), (14, tp (i64 (↑n : Int))), (15, tp (i64 i))] [(4, Blk.mk [] true 0 (some (26, 1))), (6, Blk.mk (List.take (Int.toNat i) O) true 0 (some (26, 1))), (2000000000, Blk.mk X true 0 (some (9, 1)))]) (by kernel_rfl) ⟨(by omega), rfl, (by omega), (wgx ), trivial⟩ ?_
  refine xe1 (os := [Con Tryz.prog 12 [] [V.val (Value.string s)] [(5, Blk.mk (u8s ds) true 0 (some (5, 1)))] (V.tup [V.agg false [u8 9, u8 wa, u8 wb, u16 0, V.sl 5 0 (List.length ds)], i64 0])]) [(1, ⟨none, some ⟨V.tup [V.agg false [u8 9, u8 wa, u8 wb, u16 0, V.sl 5 0 (List.length ds)], i64 0], [(5, Blk.mk (u8s ds) true 0 (some (5, 1)))], []⟩⟩)] [0, 4, 5, 6, 7, 10, 11, 13, 14, 15] [2000000000, 4, 6, 10, 220005] (by kernel_rfl) ⟨(c1 ), trivial⟩ ?_
  refine AWP.seq ?_
  refine xe0 [0, 4, 5, 6, 7, 10, 11, 13, 14, 15, 25] [2000000000, 4, 6, 10, 220005] (by kernel_rfl) ?_
  refine AWP.condF (by kernel_rfl) ?_
  refine AWP.skip ?_
  refine xe1 (os := [VO (V.tup [V.sl (1000005 : Nat) (0 : Nat) ((5 : Nat) + List.length ds + (8 : Nat)), i64 (0 : Int)]), VOH [((1000005 : Nat), Blk.mk (u8s (pkB ap i D)) true (0 : Nat) (some ((5 : Nat), (1 : Nat))))], Con Tryz.prog 17 [] [u16 ap, u16 i, V.agg true [u8 9, u8 wa, u8 wb, u16 0, B8 ds]] [(1000005, Blk.mk (u8s (pkB ap i D)) true 0 (some (5, 1)))] (V.tup [V.sl 1000005 0 (5 + List.length ds + 8), i64 0]), (0 : Nat) = (0 : Nat)]) [(3, ⟨none, some ⟨V.tup [V.sl 1000005 0 (5 + List.length ds + 8), i64 0], [(1000005, Blk.mk (u8s (pkB ap i D)) true 0 (some (5, 1)))], [(220005, true)]⟩⟩)] [0, 4, 5, 6, 7, 11, 12, 13, 14, 15] [2000000000, 4, 6, 1320005] (by kernel_rfl) ⟨(VO.tup (VOL.cons (VO.sl _ _ _) (VOL.cons (VO.val _) VOL.nil))), ⟨(VOL.u8s _), trivial⟩, (c2 ), (by omega), trivial⟩ ?_
  refine AWP.seq ?_
  refine xe0 [0, 4, 5, 6, 7, 11, 12, 13, 14, 15, 35] [2000000000, 4, 6, 1320005] (by kernel_rfl) ?_
  refine AWP.condF (by kernel_rfl) ?_
  refine AWP.skip ?_
  refine AWP.frz 1320005 (s' := St.mk [(0, T.plain (u16 ap)), (4, T.plain (V.sl 4 0 0)), (5, T.plain (i64 0)), (6, T.plain (V.sl 6 0 i.toNat)), (7, T.plain (u16 i)), (11, T.plain (i64 0)), (12, T.plain (V.vs (u8s (pkB ap i D)) (5 + ds.length + 8))), (13, T.plain (V.sl 2000000000 0 n)), (14, T.plain (i64 (n : Int))), (15, T.plain (i64 i)), (35, T.plain (vb false))] [(4, Blk.mk [] true 0 (some (26, 1))), (6, Blk.mk (O.take i.toNat) true 0 (some (26, 1))), (2000000000, Blk.mk X true 0 (some (9, 1)))]) (by kernel_rfl) ?_
  refine AWP.region tcok hmix [(3, ⟨some (V.tup [V.agg true (List.take (Int.toNat i) O ++ [V.vs (u8s (pkB ap i D)) (5 + List.length ds + 8)]), V.sl 0 0 (Int.toNat i + 1)]), none⟩), (5, ⟨none, some ⟨u16 (i + 1), [], []⟩⟩)] (os := [(1 : Nat) ≤ (1 : Nat), Int.toNat i * (1 : Nat) = List.length (List.take (Int.toNat i) O), Int.toNat i + (1 : Nat) ≤ (9223372036854775807 : Nat), (Int.toNat i + (1 : Nat)) * (24 : Nat) ≤ (140737488355328 : Nat), List.take (Int.toNat i) O ++ List.take ((1 : Nat) * (1 : Nat)) (List.drop (0 : Nat) [V.vs (u8s (pkB ap i D)) ((5 : Nat) + List.length ds + (8 : Nat))]) = List.take (Int.toNat i) O ++ [V.vs (u8s (pkB ap i D)) ((5 : Nat) + List.length ds + (8 : Nat))], Int.toNat i + (1 : Nat) = Int.toNat i + (1 : Nat), Con Tryz.prog 18 [] [u16 i] [] (u16 (i + 1))]) (sf := St.mk [(0, tp (u16 ap)), (4, tp (V.sl 4 0 0)), (5, tp (i64 0)), (6, tp (V.sl 6 0 (Int.toNat i + 1))), (7, tp (u16 (i + 1))), (11, tp (i64 0)), (12, tp (V.vs (u8s (pkB ap i D)) (5 + List.length ds + 8))), (13, tp (V.sl 2000000000 0 n)), (14, tp (i64 (↑n : Int))), (15, tp (i64 i)), (35, tp (vb false)), (37, tp V.top), (38, tp (V.vs (u8s (pkB ap i D)) (5 + List.length ds + 8))), (39, tp (V.sl 39 0 1)), (40, tp (V.sl 6 0 (Int.toNat i + 1))), (41, tp (u16 i)), (42, tp (u16 (i + 1)))] [(4, Blk.mk [] true 0 (some (26, 1))), (6, Blk.mk (List.take (Int.toNat i) O ++ [V.vs (u8s (pkB ap i D)) (5 + List.length ds + 8)]) true 0 (some (26, 1))), (39, Blk.mk [V.vs (u8s (pkB ap i D)) (5 + List.length ds + 8)] true 0 (some (26, 1))), (2000000000, Blk.mk X true 0 (some (9, 1)))]) (by kernel_rfl) ⟨(by omega), (by first | omega | (simp [len_u8s]; done) | (simp [len_u8s]; omega)), (by omega), (by omega), (by first | rfl | (simp only [u8s_drop, u8s_take, List.drop_zero, Nat.mul_one, Nat.one_mul, u8s_app, List.take_length, List.nil_append, List.append_nil]; done) | (simp [u8s]; done) | (simp [u8s]; omega)), (by omega), (c3 ), trivial⟩ ?_
  refine AWP.keep' [0, 4, 5, 6, 7, 13, 14, 15] [2000000000, 4, 6] (sf := St.mk [(0, tp (u16 ap)), (4, tp (V.sl 4 0 0)), (5, tp (i64 0)), (6, tp (V.sl 6 0 (Int.toNat i + 1))), (7, tp (u16 (i + 1))), (13, tp (V.sl 2000000000 0 n)), (14, tp (i64 (↑n : Int))), (15, tp (i64 i))] [(4, Blk.mk [] true 0 (some (26, 1))), (6, Blk.mk (List.take (Int.toNat i) O ++ [V.vs (u8s (pkB ap i D)) (5 + List.length ds + 8)]) true 0 (some (26, 1))), (2000000000, Blk.mk X true 0 (some (9, 1)))]) (by kernel_rfl) ?_
  refine AWP.region tcok hmix [(0, ⟨some (i64 (i + 1)), none⟩)] (os := [i64 (IntKind.wrap IntKind.i64 (i + 1)) = i64 (i + 1)]) (sf := St.mk [(0, tp (u16 ap)), (4, tp (V.sl 4 0 0)), (5, tp (i64 0)), (6, tp (V.sl 6 0 (Int.toNat i + 1))), (7, tp (u16 (i + 1))), (13, tp (V.sl 2000000000 0 n)), (14, tp (i64 (↑n : Int))), (15, tp (i64 (i + 1))), (43, tp (i64 (i + 1)))] [(4, Blk.mk [] true 0 (some (26, 1))), (6, Blk.mk (List.take (Int.toNat i) O ++ [V.vs (u8s (pkB ap i D)) (5 + List.length ds + 8)]) true 0 (some (26, 1))), (2000000000, Blk.mk X true 0 (some (9, 1)))]) (by kernel_rfl) ⟨(wr_i64 (by omega) (by omega)), trivial⟩ ?_
  refine ⟨St.mk [(0, tp (u16 ap)), (4, tp (V.sl 4 0 0)), (5, tp (i64 0)), (6, tp (V.sl 6 0 (Int.toNat i + 1))), (7, tp (u16 (i + 1))), (13, tp (V.sl 2000000000 0 n)), (14, tp (i64 (↑n : Int))), (15, tp (i64 (i + 1)))] [(4, Blk.mk [] true 0 (some (26, 1))), (6, Blk.mk (List.take (Int.toNat i) O ++ [V.vs (u8s (pkB ap i D)) (5 + List.length ds + 8)]) true 0 (some (26, 1))), (2000000000, Blk.mk X true 0 (some (9, 1)))], by kernel_rfl, ?_⟩
  (exact ⟨(n - (i + 1)).toNat, (by omega), i + 1, (by rw [show (i + 1).toNat = i.toNat + 1 by omega, ← htk1]; done), (by omega), (by omega), (by omega)⟩)
def sPing : ByteArray := ⟨#[112, 105, 110, 103]⟩
theorem say_ping : sayO sPing = some (⟨sPing, 17, 1, 0⟩, []) := by kernel_rfl
theorem con_packets_x (ap : Int) (hap : 2048 ≤ ap ∧ ap < 65536) : Con Tryz.prog 7 [(2000000000, ⟨[strV sPing], true, 0, some (9, 1)⟩)] [u16 ap, .sl 2000000000 0 1] [(2000000000, ⟨[strV sPing], true, 0, some (9, 1)⟩)] (.tup [.vs [] 0, i64 1]) := by
  have c1 : Con Tryz.prog 12 [] [strV sPing] [(5, ⟨u8s [], true, 0, some (5, 1)⟩)] (.tup [.agg false [u8 9, u8 17, u8 1, u16 0, .sl 5 0 0], i64 0]) := con_say sPing (by decide) _ _ say_ping
  have c2 := con_send_x ap 0 hap 17 1 [] 0 rfl (by omega)
  refine Con.of (C := ⟨Tryz.prog, tc, Tryz.f7.ntmps⟩) [1000000000, 2000000000] tcok Tryz.func7 rfl rfl (by kernel_rfl) (by kernel_rfl) ?_
  refine AWP.seq ?_
  refine AWP.regionT tcok hmix [] [0, 1, 4, 5] [4, 2000000000] (os := []) (s' := St.mk [(0, tp (u16 ap)), (1, tp (V.sl 2000000000 0 1)), (4, tp (V.sl 4 0 0)), (5, tp (i64 0))] [(4, Blk.mk [] true 0 (some (26, 1))), (2000000000, Blk.mk [V.val (Value.string sPing)] true 0 (some (9, 1)))]) (by kernel_rfl) trivial ?_
  refine xe0 [0, 1, 4, 5, 6] [4, 6, 2000000000] (by kernel_rfl) ?_
  refine xe0 [0, 1, 4, 5, 6, 7] [4, 6, 2000000000] (by kernel_rfl) ?_
  refine AWP.seq ?_
  refine xe0 [0, 4, 5, 6, 7, 13, 14, 15] [2000000000, 4, 6] (by kernel_rfl) ?_
  refine AWP.block ?_
  refine AWP.unroll 3 ?_
  refine xe0 [0, 4, 5, 6, 7, 13, 14, 15, 16] [4, 6, 2000000000] (by kernel_rfl) ?_
  refine AWP.seq ?_
  refine AWP.condT (by kernel_rfl) ?_
  refine AWP.skip ?_
  refine AWP.seq ?_
  refine AWP.block ?_
  refine xe0 [0, 4, 5, 6, 7, 9, 13, 14, 15, 16, 17, 18] [4, 6, 2000000000] (by kernel_rfl) ?_
  refine xe1 (os := [Con Tryz.prog 12 [] [V.val (Value.string sPing)] [(5, Blk.mk [] true 0 (some (5, 1)))] (V.tup [V.agg false [u8 9, u8 17, u8 1, u16 0, V.sl 5 0 0], i64 0])]) [(1, ⟨none, some ⟨V.tup [V.agg false [u8 9, u8 17, u8 1, u16 0, V.sl 5 0 0], i64 0], [(5, Blk.mk (u8s []) true 0 (some (5, 1)))], []⟩⟩)] [0, 4, 5, 6, 7, 9, 10, 11, 13, 14, 15, 16, 17, 18, 19, 20, 21, 22, 23] [4, 6, 10, 220005, 2000000000] (by kernel_rfl) ⟨(c1 ), trivial⟩ ?_
  refine AWP.seq ?_
  refine xe0 [0, 4, 5, 6, 7, 9, 10, 11, 13, 14, 15, 16, 17, 18, 19, 20, 21, 22, 23, 24, 25] [4, 6, 10, 220005, 2000000000] (by kernel_rfl) ?_
  refine AWP.condF (by kernel_rfl) ?_
  refine AWP.skip ?_
  refine AWP.seq ?_
  refine AWP.regionT tcok hmix [(3, ⟨none, some ⟨V.tup [V.sl 410002 0 0, i64 1], [(410002, Blk.mk [] true 0 (some (5, 1)))], [(220005, true)]⟩⟩)] [0, 4, 5, 6, 7, 9, 10, 11, 12, 13, 14, 15, 16, 17, 18, 19, 20, 21, 22, 23, 24, 25, 27, 28, 29, 30, 31, 32, 33] [4, 6, 10, 220005, 730002, 2000000000] (os := [VO (V.tup [V.sl (410002 : Nat) (0 : Nat) (0 : Nat), i64 (1 : Int)]), VOH [((410002 : Nat), Blk.mk [] true (0 : Nat) (some ((5 : Nat), (1 : Nat))))], Con Tryz.prog 17 [] [u16 ap, u16 0, V.agg true [u8 9, u8 17, u8 1, u16 0, V.vs [] 0]] [(410002, Blk.mk [] true 0 (some (5, 1)))] (V.tup [V.sl 410002 0 0, i64 1]), (0 : Nat) = (0 : Nat)]) (s' := St.mk [(0, tp (u16 ap)), (4, tp (V.sl 4 0 0)), (5, tp (i64 0)), (6, tp (V.sl 6 0 0)), (7, tp (u16 0)), (9, tp (V.val (Value.string sPing))), (10, tp (V.ptr 10 0)), (11, tp (i64 1)), (12, tp (V.sl 730002 0 0)), (13, tp (V.sl 2000000000 0 1)), (14, tp (i64 1)), (15, tp (i64 0)), (16, tp (vb true)), (17, tp (V.ptr 2000000000 0)), (18, tp (V.val (Value.string sPing))), (19, tp (V.tup [V.agg false [u8 9, u8 17, u8 1, u16 0, V.sl 220005 0 0], i64 0])), (20, tp (V.val (Value.string sPing))), (21, tp (V.tup [V.agg false [u8 9, u8 17, u8 1, u16 0, V.sl 220005 0 0], i64 0])), (22, tp (V.agg false [u8 9, u8 17, u8 1, u16 0, V.sl 220005 0 0])), (23, tp (i64 0)), (24, tp (i64 0)), (25, tp (vb false)), (27, tp (V.tup [V.sl 730002 0 0, i64 1])), (28, tp (u16 ap)), (29, tp (u16 0)), (30, tp (V.agg false [u8 9, u8 17, u8 1, u16 0, V.sl 220005 0 0])), (31, tp (V.tup [V.sl 730002 0 0, i64 1])), (32, tp (V.sl 730002 0 0)), (33, tp (i64 1))] [(4, Blk.mk [] true 0 (some (26, 1))), (6, Blk.mk [] true 0 (some (26, 1))), (10, Blk.mk [u8 9, u8 17, u8 1, u16 0, V.sl 220005 0 0] false 5 none), (220005, Blk.mk [] true 0 (some (5, 1))), (730002, Blk.mk [] true 0 (some (5, 1))), (2000000000, Blk.mk [V.val (Value.string sPing)] true 0 (some (9, 1)))]) (by kernel_rfl) ⟨(VO.tup (VOL.cons (VO.sl _ _ _) (VOL.cons (VO.val _) VOL.nil))), ⟨VOL.nil, trivial⟩, (c2 ), (by omega), trivial⟩ ?_
  refine AWP.seq ?_
  refine xe0 [0, 4, 5, 6, 7, 9, 10, 11, 12, 13, 14, 15, 16, 17, 18, 19, 20, 21, 22, 23, 24, 25, 27, 28, 29, 30, 31, 32, 33, 34, 35] [4, 6, 10, 220005, 730002, 2000000000] (by kernel_rfl) ?_
  refine AWP.condT (by kernel_rfl) ?_
  refine AWP.seq ?_
  refine AWP.keep' [0, 6, 7, 9, 10, 11, 12, 13, 14, 15, 16, 17, 18, 19, 20, 21, 22, 23, 24, 25, 27, 28, 29, 30, 31, 32, 33, 34, 35] [2000000000, 6, 10, 730002, 220005] (sf := St.mk [(0, tp (u16 ap)), (6, tp (V.sl 6 0 0)), (7, tp (u16 0)), (9, tp (V.val (Value.string sPing))), (10, tp (V.ptr 10 0)), (11, tp (i64 1)), (12, tp (V.sl 730002 0 0)), (13, tp (V.sl 2000000000 0 1)), (14, tp (i64 1)), (15, tp (i64 0)), (16, tp (vb true)), (17, tp (V.ptr 2000000000 0)), (18, tp (V.val (Value.string sPing))), (19, tp (V.tup [V.agg false [u8 9, u8 17, u8 1, u16 0, V.sl 220005 0 0], i64 0])), (20, tp (V.val (Value.string sPing))), (21, tp (V.tup [V.agg false [u8 9, u8 17, u8 1, u16 0, V.sl 220005 0 0], i64 0])), (22, tp (V.agg false [u8 9, u8 17, u8 1, u16 0, V.sl 220005 0 0])), (23, tp (i64 0)), (24, tp (i64 0)), (25, tp (vb false)), (27, tp (V.tup [V.sl 730002 0 0, i64 1])), (28, tp (u16 ap)), (29, tp (u16 0)), (30, tp (V.agg false [u8 9, u8 17, u8 1, u16 0, V.sl 220005 0 0])), (31, tp (V.tup [V.sl 730002 0 0, i64 1])), (32, tp (V.sl 730002 0 0)), (33, tp (i64 1)), (34, tp (i64 1)), (35, tp (vb true))] [(6, Blk.mk [] true 0 (some (26, 1))), (10, Blk.mk [u8 9, u8 17, u8 1, u16 0, V.sl 220005 0 0] false 5 none), (220005, Blk.mk [] true 0 (some (5, 1))), (730002, Blk.mk [] true 0 (some (5, 1))), (2000000000, Blk.mk [V.val (Value.string sPing)] true 0 (some (9, 1)))]) (by kernel_rfl) ?_
  refine xg0 [0, 4, 5, 6, 7, 9, 10, 11, 12, 13, 14, 15, 16, 17, 18, 19, 20, 21, 22, 23, 24, 25, 27, 28, 29, 30, 31, 32, 33, 34, 35, 36] [4, 6, 10, 220005, 730002, 2000000000] (by kernel_rfl) ?_
  refine AWP.frz 4 (s' := St.mk [(0, tp (u16 ap)), (4, tp (V.vs [] 0)), (5, tp (i64 1)), (6, tp (V.sl 6 0 0)), (7, tp (u16 0)), (9, tp (V.val (Value.string sPing))), (10, tp (V.ptr 10 0)), (11, tp (i64 1)), (12, tp (V.sl 730002 0 0)), (13, tp (V.sl 2000000000 0 1)), (14, tp (i64 1)), (15, tp (i64 0)), (16, tp (vb true)), (17, tp (V.ptr 2000000000 0)), (18, tp (V.val (Value.string sPing))), (19, tp (V.tup [V.agg false [u8 9, u8 17, u8 1, u16 0, V.sl 220005 0 0], i64 0])), (20, tp (V.val (Value.string sPing))), (21, tp (V.tup [V.agg false [u8 9, u8 17, u8 1, u16 0, V.sl 220005 0 0], i64 0])), (22, tp (V.agg false [u8 9, u8 17, u8 1, u16 0, V.sl 220005 0 0])), (23, tp (i64 0)), (24, tp (i64 0)), (25, tp (vb false)), (27, tp (V.tup [V.sl 730002 0 0, i64 1])), (28, tp (u16 ap)), (29, tp (u16 0)), (30, tp (V.agg false [u8 9, u8 17, u8 1, u16 0, V.sl 220005 0 0])), (31, tp (V.tup [V.sl 730002 0 0, i64 1])), (32, tp (V.sl 730002 0 0)), (33, tp (i64 1)), (34, tp (i64 1)), (35, tp (vb true)), (36, tp (i64 1))] [(6, Blk.mk [] true 0 (some (26, 1))), (10, Blk.mk [u8 9, u8 17, u8 1, u16 0, V.sl 220005 0 0] false 5 none), (220005, Blk.mk [] true 0 (some (5, 1))), (730002, Blk.mk [] true 0 (some (5, 1))), (2000000000, Blk.mk [V.val (Value.string sPing)] true 0 (some (9, 1)))]) (by kernel_rfl) ?_
  refine AWP.ret ?_
  refine ⟨Or.inr rfl, Eq.trans (b := some ([(2000000000, Blk.mk [V.val (Value.string sPing)] true 0 (some (9, 1)))], V.tup [V.vs [] 0, i64 1])) (by kernel_rfl) ?_⟩
  rfl
end Go.Proofs.YtieoaeidlcdggaaGreatDoor
