/- The document's packet, read. -/
import Derived.Test.YtieoaeidlcdggaaGreatDoorRg
import Derived.Test.YtieoaeidlcdggaaGreatDoorGtD
namespace Go.Proofs.YtieoaeidlcdggaaGreatDoor
open Go Go.Ab
set_option linter.unusedSimpArgs false
set_option linter.unusedVariables false
set_option maxRecDepth 100000
theorem getD_app_r {a b : List Int} {i : Nat} (h : a.length ≤ i) : (a ++ b).getD i 0 = b.getD (i - a.length) 0 := by
  rw [List.getD_eq_getElem?_getD, List.getD_eq_getElem?_getD, List.getElem?_append_right h]
theorem right_app (x : List Int) : iright (x ++ sumB x) = true := by
  have hs := isum_bd x
  have hl : (x ++ sumB x).length = x.length + 2 := by simp [sumB]
  unfold iright
  rw [hl, show x.length + 2 - 2 = x.length by omega, show x.length + 2 - 1 = x.length + 1 by omega, List.take_left' rfl, getD_app_r (Nat.le_refl _), getD_app_r (by omega), show x.length - x.length = 0 by omega, show x.length + 1 - x.length = 1 by omega]
  show (decide (2 ≤ x.length + 2) && (isum x == isum x / 256 * 256 + isum x % 256)) = true
  rw [show isum x / 256 * 256 + isum x % 256 = isum x by omega]
  simp
theorem pkB_len (ap c : Int) (l : List Int) : (pkB ap c l).length = l.length + 8 := by
  unfold pkB
  rw [List.length_append, pkX_len]
  simp [sumB]
  omega
theorem sumB_bl (l : List Int) : BL (sumB l) := by
  have := isum_bd l
  exact BL.cons ⟨by omega, by omega⟩ (BL.cons ⟨by omega, by omega⟩ BL.nil)
theorem pkB_bl {ap c : Int} (hap : 0 ≤ ap ∧ ap < 2048) (hc : 0 ≤ c ∧ c < 16384) {l : List Int} (hb : BL l) (hl : l.length ≤ 200) : BL (pkB ap c l) := (pkX_bl hap hc hb hl).app (sumB_bl _)
theorem pkB_shape (ap c : Int) (l : List Int) : pkB ap c l = (ap + 6144) / 256 :: (ap + 6144) % 256 :: (c + 49152) / 256 :: (c + 49152) % 256 :: ((l.length : Int) + 1) / 256 :: ((l.length : Int) + 1) % 256 :: (l ++ sumB (pkX ap c l)) := by
  unfold pkB
  conv => lhs; arg 1; unfold pkX
  simp
theorem con_rpk (ap c : Int) (hap : 0 ≤ ap ∧ ap < 2048) (hc : 0 ≤ c ∧ c < 16384) (l : List Int) (hb : BL l) (h1 : 1 ≤ l.length) (hl : l.length ≤ 200) :
    Con Tryz.prog 8 [] [.vs (u8s (pkB ap c l)) (l.length + 8)] [(610005, ⟨u8s l, true, 0, some (5, 1)⟩)] (.tup [.agg false [vb true, u16 ap, u16 c, .sl 610005 0 l.length], i64 0]) := by
  have hP := pkB_bl hap hc hb hl
  have hr := right_app (pkX ap c l)
  have hlen := pkB_len ap c l
  have hsh := pkB_shape ap c l
  change iright (pkB ap c l) = true at hr
  generalize pkB ap c l = P at *
  have c1 := con_rright P hP (by omega)
  rw [hlen, hr] at c1
  have e01 : (P.take 2).getD 0 0 * 256 + (P.take 2).getD 1 0 = ap + 6144 := by rw [hsh]; show (ap + 6144) / 256 * 256 + (ap + 6144) % 256 = _; omega
  have e23 : ((P.drop 2).take 2).getD 0 0 * 256 + ((P.drop 2).take 2).getD 1 0 = c + 49152 := by rw [hsh]; show (c + 49152) / 256 * 256 + (c + 49152) % 256 = _; omega
  have e45 : ((P.drop 4).take 2).getD 0 0 * 256 + ((P.drop 4).take 2).getD 1 0 = l.length + 1 := by rw [hsh]; show ((l.length : Int) + 1) / 256 * 256 + ((l.length : Int) + 1) % 256 = _; omega
  have eD : (P.drop 6).take l.length = l := by rw [hsh]; show (l ++ sumB (pkX ap c l)).take l.length = l; exact List.take_left' rfl
  have c2 : Con Tryz.prog 19 [] [.vs (u8s (P.take 2)) 2] [] (u64 (ap + 6144)) := by
    rw [← e01]
    exact con_val2d _ 2 rfl (by rw [List.length_take]; omega) (BL.take hP 2)
  have c3 : Con Tryz.prog 19 [] [.vs (u8s ((P.drop 2).take 2)) 2] [] (u64 (c + 49152)) := by
    rw [← e23]
    exact con_val2d _ 2 rfl (by rw [List.length_take, List.length_drop]; omega) (BL.take (BL.drop hP 2) 2)
  have c4 : Con Tryz.prog 19 [] [.vs (u8s ((P.drop 4).take 2)) 2] [] (u64 ((l.length : Int) + 1)) := by
    rw [← e45]
    exact con_val2d _ 2 rfl (by rw [List.length_take, List.length_drop]; omega) (BL.take (BL.drop hP 4) 2)
  have e1 : decide (ap + 6144 ≥ 4096) = true := decide_eq_true (by omega)
  have e2 : (ap + 6144) % 2048 = ap := by omega
  have e3 : (c + 49152) % 16384 = c := by omega
  have e4 : Int.toNat (((l.length + 8 : Nat) : Int) - 8) = l.length := by omega
  refine Con.of (C := ⟨Tryz.prog, tc, Tryz.f8.ntmps⟩) [610005] tcok Tryz.func8 rfl rfl (by kernel_rfl) (by kernel_rfl) ?_
  refine AWP.seq ?_
  refine AWP.regionT tcok hmix [] [0, 2, 3] [2] (os := []) (s' := St.mk [(0, tp (V.vs (u8s P) (List.length l + 8))), (2, tp (V.ptr 2 0)), (3, tp (i64 0))] [(2, Blk.mk [vb false, u16 0, u16 0, V.val (Value.slice none 0 0)] true 4 none)]) (by kernel_rfl) trivial ?_
  refine AWP.seq ?_
  refine xe1 (os := [decide ((↑(List.length l + (8 : Nat)) : Int) < (9 : Int)) = false → ((0 : Int) ≤ (4 : Int) ∧ (4 : Int) ≤ (6 : Int) ∧ (6 : Int) ≤ (↑(List.length l + (8 : Nat)) : Int)) ∧ V.vs (subV (u8s P) (some (i64 (4 : Int))) (some (i64 (6 : Int))) (Int.toNat (4 : Int) * (1 : Nat)) (Int.toNat (6 : Int) * (1 : Nat)) ((Int.toNat (6 : Int) - Int.toNat (4 : Int)) * (1 : Nat))) (2 : Nat) = V.vs (u8s (List.take (2 : Nat) (List.drop (4 : Nat) P))) (2 : Nat) ∧ True, decide ((↑(List.length l + (8 : Nat)) : Int) < (9 : Int)) = false → Con Tryz.prog (19 : Nat) [] [V.vs (u8s (List.take (2 : Nat) (List.drop (4 : Nat) P))) (2 : Nat)] [] (u64 ((↑(List.length l) : Int) + (1 : Int))) ∧ True, decide ((↑(List.length l + (8 : Nat)) : Int) < (9 : Int)) = false → i64 (IntKind.wrap IntKind.i64 ((↑(List.length l) : Int) + (1 : Int))) = i64 ((↑(List.length l) : Int) + (1 : Int)) ∧ True, decide ((↑(List.length l + (8 : Nat)) : Int) < (9 : Int)) = false → i64 (IntKind.wrap IntKind.i64 ((↑(List.length l) : Int) + (1 : Int) + (7 : Int))) = i64 ((↑(List.length l) : Int) + (1 : Int) + (7 : Int)) ∧ True]) [(5, ⟨some (V.vs (u8s (List.take 2 (List.drop 4 P))) 2), none⟩), (6, ⟨none, some ⟨u64 ((↑(List.length l) : Int) + 1), [], []⟩⟩), (7, ⟨some (i64 ((↑(List.length l) : Int) + 1)), none⟩), (8, ⟨some (i64 ((↑(List.length l) : Int) + 1 + 7)), none⟩)] [0, 2, 3, 18] [2] (by kernel_rfl) ⟨(by intro hc0; first | (cases hc0; done) | ((try simp only [Bool.or_false, Bool.false_or, Bool.true_and, Bool.and_true, decide_eq_true_eq, decide_eq_false_iff_not, Bool.and_eq_true, Bool.or_eq_true, Bool.or_eq_false_iff, Bool.not_eq_true', Bool.and_eq_false_iff, beq_iff_eq, bne_iff_ne, bne_eq_false_iff_eq, beq_eq_false_iff_ne, Bool.not_eq_false'] at hc0); exact ⟨(by omega), (by first | rfl | (simp only [subV, u8s_drop, u8s_take, List.drop_zero, Nat.mul_one, Nat.one_mul, Nat.sub_zero, Nat.zero_add, Int.toNat_zero, Int.toNat_natCast]; first | done | rfl | (rw [List.take_of_length_le (by first | omega | (simp; done) | (simp; omega))]; first | done | rfl)) | (simp [subV, u8s_drop, u8s_take]; done)), trivial⟩)), (fun _ => ⟨(c4 ), trivial⟩), (by intro hc0; first | (cases hc0; done) | ((try simp only [Bool.or_false, Bool.false_or, Bool.true_and, Bool.and_true, decide_eq_true_eq, decide_eq_false_iff_not, Bool.and_eq_true, Bool.or_eq_true, Bool.or_eq_false_iff, Bool.not_eq_true', Bool.and_eq_false_iff, beq_iff_eq, bne_iff_ne, bne_eq_false_iff_eq, beq_eq_false_iff_ne, Bool.not_eq_false'] at hc0); exact ⟨(wr_i64 (by omega) (by omega)), trivial⟩)), (by intro hc0; first | (cases hc0; done) | ((try simp only [Bool.or_false, Bool.false_or, Bool.true_and, Bool.and_true, decide_eq_true_eq, decide_eq_false_iff_not, Bool.and_eq_true, Bool.or_eq_true, Bool.or_eq_false_iff, Bool.not_eq_true', Bool.and_eq_false_iff, beq_iff_eq, bne_iff_ne, bne_eq_false_iff_eq, beq_eq_false_iff_ne, Bool.not_eq_false'] at hc0); exact ⟨(wr_i64 (by omega) (by omega)), trivial⟩)), trivial⟩ ?_
  refine AWP.cond (b := decide ((↑(List.length l + 8) : Int) < 9) || (↑(List.length l) : Int) + 1 + 7 != (↑(List.length l + 8) : Int)) (by kernel_rfl) (fun hq0 => ?_) (fun hq0 => ?_)
  · simp only [decide_eq_true_eq, Bool.or_eq_true, bne_iff_ne] at hq0
    (exfalso; omega)
  simp only [decide_eq_false_iff_not, Bool.or_eq_false_iff, bne_eq_false_iff_eq] at hq0
  refine AWP.skip ?_
  refine AWP.seq ?_
  refine AWP.seq ?_
  refine AWP.regionT tcok hmix [(1, ⟨none, some ⟨vb true, [], []⟩⟩)] [0, 2, 3, 22] [2] (os := [Con Tryz.prog 20 [] [V.vs (u8s P) (List.length l + 8)] [] (vb true)]) (s' := St.mk [(0, tp (V.vs (u8s P) (List.length l + 8))), (2, tp (V.ptr 2 0)), (3, tp (i64 0)), (22, tp (vb false))] [(2, Blk.mk [vb false, u16 0, u16 0, V.val (Value.slice none 0 0)] true 4 none)]) (by kernel_rfl) ⟨(c1 ), trivial⟩ ?_
  refine AWP.condF (by kernel_rfl) ?_
  refine AWP.skip ?_
  refine xe1 (os := [(0 : Int) ≤ (↑(0 : Nat) : Int) ∧ (↑(0 : Nat) : Int) ≤ (2 : Int) ∧ (2 : Int) ≤ (↑(List.length l + (8 : Nat)) : Int), V.vs (subV (u8s P) none (some (i64 2)) (Int.toNat (↑0 : Int) * 1) (Int.toNat 2 * 1) ((Int.toNat 2 - Int.toNat (↑0 : Int)) * 1)) 2 = V.vs (u8s (List.take 2 P)) 2, Con Tryz.prog 19 [] [V.vs (u8s (List.take 2 P)) 2] [] (u64 (ap + 6144)), (0 : Int) ≤ (2 : Int) ∧ (2 : Int) ≤ (4 : Int) ∧ (4 : Int) ≤ (↑(List.length l + (8 : Nat)) : Int), V.vs (subV (u8s P) (some (i64 2)) (some (i64 4)) (Int.toNat 2 * 1) (Int.toNat 4 * 1) ((Int.toNat 4 - Int.toNat 2) * 1)) 2 = V.vs (u8s (List.take 2 (List.drop 2 P))) 2, Con Tryz.prog 19 [] [V.vs (u8s (List.take 2 (List.drop 2 P))) 2] [] (u64 (c + 49152))]) [(1, ⟨some (V.vs (u8s (List.take 2 P)) 2), none⟩), (2, ⟨none, some ⟨u64 (ap + 6144), [], []⟩⟩), (4, ⟨some (V.vs (u8s (List.take 2 (List.drop 2 P))) 2), none⟩), (5, ⟨none, some ⟨u64 (c + 49152), [], []⟩⟩)] [0, 2, 3, 4, 5] [2] (by kernel_rfl) ⟨(by omega), (by first | rfl | (simp only [subV, u8s_drop, u8s_take, List.drop_zero, Nat.mul_one, Nat.one_mul, Nat.sub_zero, Nat.zero_add, Int.toNat_zero, Int.toNat_natCast]; first | done | rfl | (rw [List.take_of_length_le (by first | omega | (simp; done) | (simp; omega))]; first | done | rfl)) | (simp [subV, u8s_drop, u8s_take]; done)), (c2 ), (by omega), (by first | rfl | (simp only [subV, u8s_drop, u8s_take, List.drop_zero, Nat.mul_one, Nat.one_mul, Nat.sub_zero, Nat.zero_add, Int.toNat_zero, Int.toNat_natCast]; first | done | rfl | (rw [List.take_of_length_le (by first | omega | (simp; done) | (simp; omega))]; first | done | rfl)) | (simp [subV, u8s_drop, u8s_take]; done)), (c3 ), trivial⟩ ?_
  refine AWP.seq ?_
  refine xe1 (os := [decide (ap + (6144 : Int) ≥ (8192 : Int)) = false → (2048 : Int) ≠ (0 : Int) ∧ u64 (IntKind.wrap IntKind.u64 (Int.tdiv (ap + (6144 : Int)) (2048 : Int))) = u64 ((ap + (6144 : Int)) / (2048 : Int)) ∧ True, decide (ap + (6144 : Int) ≥ (8192 : Int)) = false → (2 : Int) ≠ (0 : Int) ∧ u64 (Int.tmod ((ap + (6144 : Int)) / (2048 : Int)) (2 : Int)) = u64 ((ap + (6144 : Int)) / (2048 : Int) % (2 : Int)) ∧ True]) [(4, ⟨some (u64 ((ap + 6144) / 2048)), none⟩), (5, ⟨some (u64 ((ap + 6144) / 2048 % 2)), none⟩)] [0, 2, 3, 4, 5, 41] [2] (by kernel_rfl) ⟨(by intro hc0; first | (cases hc0; done) | ((try simp only [Bool.or_false, Bool.false_or, Bool.true_and, Bool.and_true, decide_eq_true_eq, decide_eq_false_iff_not, Bool.and_eq_true, Bool.or_eq_true, Bool.or_eq_false_iff, Bool.not_eq_true', Bool.and_eq_false_iff, beq_iff_eq, bne_iff_ne, bne_eq_false_iff_eq, beq_eq_false_iff_ne, Bool.not_eq_false'] at hc0); exact ⟨(by omega), (wtd (by omega) (wr_u64 (by omega) (by omega))), trivial⟩)), (by intro hc0; first | (cases hc0; done) | ((try simp only [Bool.or_false, Bool.false_or, Bool.true_and, Bool.and_true, decide_eq_true_eq, decide_eq_false_iff_not, Bool.and_eq_true, Bool.or_eq_true, Bool.or_eq_false_iff, Bool.not_eq_true', Bool.and_eq_false_iff, beq_iff_eq, bne_iff_ne, bne_eq_false_iff_eq, beq_eq_false_iff_ne, Bool.not_eq_false'] at hc0); exact ⟨(by omega), (tm_ (by omega)), trivial⟩)), trivial⟩ ?_
  refine AWP.cond (b := decide (ap + 6144 ≥ 8192) || (ap + 6144) / 2048 % 2 != 1 || decide (c + 49152 < 49152)) (by kernel_rfl) (fun hq2 => ?_) (fun hq2 => ?_)
  · simp only [decide_eq_true_eq, Bool.or_eq_true, bne_iff_ne] at hq2
    (exfalso; omega)
  simp only [decide_eq_false_iff_not, Bool.or_eq_false_iff, bne_eq_false_iff_eq] at hq2
  refine AWP.skip ?_
  refine AWP.seq ?_
  refine AWP.seq ?_
  refine AWP.regionT tcok hmix [] [0, 2, 3, 4, 5, 45] [2] (os := []) (s' := St.mk [(0, tp (V.vs (u8s P) (List.length l + 8))), (2, tp (V.ptr 2 0)), (3, tp (i64 0)), (4, tp (u64 (ap + 6144))), (5, tp (u64 (c + 49152))), (45, tp (vb (decide ((↑(List.length l + 8) : Int) > 208))))] [(2, Blk.mk [vb false, u16 0, u16 0, V.val (Value.slice none 0 0)] true 4 none)]) (by kernel_rfl) trivial ?_
  refine AWP.cond (b := decide ((↑(List.length l + 8) : Int) > 208)) (by kernel_rfl) (fun hq3 => ?_) (fun hq3 => ?_)
  · simp only [decide_eq_true_eq] at hq3
    (exfalso; omega)
  simp only [decide_eq_false_iff_not] at hq3
  refine AWP.skip ?_
  refine AWP.seq ?_
  refine AWP.regionT tcok hmix [(3, ⟨some (u64 ((ap + 6144) % 2048)), none⟩), (4, ⟨some (u16 ((ap + 6144) % 2048)), none⟩), (6, ⟨some (u64 ((c + 49152) % 16384)), none⟩), (7, ⟨some (u16 ((c + 49152) % 16384)), none⟩), (9, ⟨some (V.vs (u8s (List.drop 6 P)) (List.length l + 8 - 6)), none⟩), (12, ⟨some (i64 ((↑(List.length l + 8) : Int) - 8)), none⟩), (13, ⟨none, some ⟨V.sl 5 0 (List.length (List.take (Int.toNat ((↑(List.length l + 8) : Int) - 8)) (List.drop 6 P))), [(5, Blk.mk (u8s (List.take (Int.toNat ((↑(List.length l + 8) : Int) - 8)) (List.drop 6 P))) true 0 (some (5, 1)))], []⟩⟩)] [2, 3] [2, 610005] (os := [(2048 : Int) ≠ (0 : Int), u64 (Int.tmod (ap + 6144) 2048) = u64 ((ap + 6144) % 2048), u16 (IntKind.wrap IntKind.u16 ((ap + 6144) % 2048)) = u16 ((ap + 6144) % 2048), (16384 : Int) ≠ (0 : Int), u64 (Int.tmod (c + 49152) 16384) = u64 ((c + 49152) % 16384), u16 (IntKind.wrap IntKind.u16 ((c + 49152) % 16384)) = u16 ((c + 49152) % 16384), (0 : Int) ≤ (6 : Int) ∧ (6 : Int) ≤ (↑(List.length l + (8 : Nat)) : Int) ∧ (↑(List.length l + (8 : Nat)) : Int) ≤ (↑(List.length l + (8 : Nat)) : Int), V.vs (subV (u8s P) (some (i64 6)) none (Int.toNat 6 * 1) (Int.toNat (↑(List.length l + 8) : Int) * 1) ((Int.toNat (↑(List.length l + 8) : Int) - Int.toNat 6) * 1)) (Int.toNat (↑(List.length l + 8) : Int) - 6) = V.vs (u8s (List.drop 6 P)) (List.length l + 8 - 6), i64 (IntKind.wrap IntKind.i64 ((↑(List.length l + 8) : Int) - 8)) = i64 ((↑(List.length l + 8) : Int) - 8), Con Tryz.prog 21 [] [V.vs (u8s (List.drop 6 P)) (List.length l + 8 - 6), i64 ((↑(List.length l + 8) : Int) - 8)] [(5, Blk.mk (u8s (List.take (Int.toNat ((↑(List.length l + 8) : Int) - 8)) (List.drop 6 P))) true 0 (some (5, 1)))] (V.sl 5 0 (List.length (List.take (Int.toNat ((↑(List.length l + 8) : Int) - 8)) (List.drop 6 P))))]) (s' := St.mk [(2, tp (V.ptr 2 0)), (3, tp (i64 0))] [(2, Blk.mk [vb (decide (ap + 6144 ≥ 4096)), u16 ((ap + 6144) % 2048), u16 ((c + 49152) % 16384), V.sl 610005 0 (List.length (List.take (Int.toNat ((↑(List.length l + 8) : Int) - 8)) (List.drop 6 P)))] false 4 none), (610005, Blk.mk (u8s (List.take (Int.toNat ((↑(List.length l + 8) : Int) - 8)) (List.drop 6 P))) true 0 (some (5, 1)))]) (by kernel_rfl) ⟨(by omega), (tm_ (by omega)), (wr_u16 (by omega) (by omega)), (by omega), (tm_ (by omega)), (wr_u16 (by omega) (by omega)), (by omega), (by first | rfl | (simp only [subV, u8s_drop, u8s_take, List.drop_zero, Nat.mul_one, Nat.one_mul, Nat.sub_zero, Nat.zero_add, Int.toNat_zero, Int.toNat_natCast]; first | done | rfl | (rw [List.take_of_length_le (by first | omega | (simp; done) | (simp; omega))]; first | done | rfl)) | (simp [subV, u8s_drop, u8s_take]; done)), (wr_i64 (by omega) (by omega)), (con_cutn (List.drop 6 P) (List.length l + 8 - 6) (by (simp [len_u8s]; omega)) ((↑(List.length l + 8) : Int) - 8) (by omega) (by omega) (by omega)), trivial⟩ ?_
  refine AWP.ret ?_
  refine ⟨Or.inr rfl, Eq.trans (b := some ([(610005, Blk.mk (u8s (List.take (Int.toNat ((↑(List.length l + 8) : Int) - 8)) (List.drop 6 P))) true 0 (some (5, 1)))], V.tup [V.agg false [vb (decide (ap + 6144 ≥ 4096)), u16 ((ap + 6144) % 2048), u16 ((c + 49152) % 16384), V.sl 610005 0 (List.length (List.take (Int.toNat ((↑(List.length l + 8) : Int) - 8)) (List.drop 6 P)))], i64 0])) (by kernel_rfl) ?_⟩
  (rw [e1, e2, e3, e4, eD]; done)
end Go.Proofs.YtieoaeidlcdggaaGreatDoor
