/- Chapter 16: MonitorSleeps. -/
import Derived.Test.YtlfjnkobnkfioaaRg
import Derived.Test.YtlfjnkobnkfioaaMonK
import Derived.Test.YtlfjnkobnkfioaaMonB
namespace Go.Proofs.Ytlfjnkobnkfioaa
open Go.Ab
set_option linter.unusedSimpArgs false
set_option linter.unusedVariables false
set_option maxHeartbeats 8000000
set_option maxRecDepth 100000
theorem law_sleeps (xs : List V) (n : Nat) (hn : n ≤ 9223372036854775807) (ru : Nat → Ru) (Y : List V) (m : Nat) (hm : m ≤ 9223372036854775807) (hYl : Y.length = m * 16) (hY : ∀ p, p < m → ∃ (v : Nat → Int) (r : List V), (∀ k, -2147483648 ≤ v k ∧ v k ≤ 2147483647) ∧ Y.drop (p * 16) = [i32 (v 0), i32 (v 1), i32 (v 2), i32 (v 3), i32 (v 4), i32 (v 5), i32 (v 6), i32 (v 7), i32 (v 8), i32 (v 9), i32 (v 10), i32 (v 11), i32 (v 12), i32 (v 13), i32 (v 14), i32 (v 15)] ++ r) (A X : List V) (k : Nat) (hk16 : k ≤ 16) (hru : ∀ j, j < k → RuOk (ru j) ∧ 0 ≤ (ru j).pa ∧ (ru j).pa < 16) (hAl : A.length = k * 11) (hA : ∀ j, j < k → ∃ r, A.drop (j * 11) = ruV (ru j) ++ r) (c1 : Con Try.prog 21 [] [.vs xs n] [(4, ⟨A, true, 0, some (27, 11)⟩), (5, ⟨X, true, 0, some (106, 12)⟩)] (.tup [.sl 4 0 k, .sl 5 0 k])) (M : List V) (hM : M.length = 257) (hMo : ∀ x ∈ M, VO x) (hMn : gI M 256 = i64 k) (hMa : ∀ j, j < k → AtG M (j * 16) (ru j) ⟨0, 0, 0, 0, false⟩) (c2 : Con Try.prog 14 [] [.vs A k] [] (.tup [.agg true M, i64 0])) : Con Try.prog 5 [] [.vs xs n, .vs Y m] [] (vb true) := by
  refine Con.of (C := ⟨Try.prog, tc, Try.f5.ntmps⟩) [] tcok Try.func5 rfl rfl (by kernel_rfl) (by kernel_rfl) ?_
  refine xe0 [0, 1, 4] [] (by kernel_rfl) ?_
  refine AWP.seq ?_
  refine xe1 [(0, ⟨none, some ⟨vb true, [], []⟩⟩)] [0, 1, 4, 20] [] (by kernel_rfl) (AllP.c (con_awake16 ) AllP.n) ?_
  refine AWP.condF (by kernel_rfl) ?_
  refine AWP.skip ?_
  refine xe1 (os := [Con Try.prog 21 [] [V.vs xs n] [(4, Blk.mk A true 0 (some (27, 11))), (5, Blk.mk X true 0 (some (106, 12)))] (V.tup [V.sl 4 0 k, V.sl 5 0 k])]) [(1, ⟨none, some ⟨V.tup [V.sl 4 0 k, V.sl 5 0 k], [(4, Blk.mk A true 0 (some (27, 11))), (5, Blk.mk X true 0 (some (106, 12)))], []⟩⟩)] [1, 4, 5] [240004] (by kernel_rfl) ⟨(c1 ), trivial⟩ ?_
  refine xe1 (os := [VO (V.tup [V.agg true M, i64 (0 : Int)]), VOH [], Con Try.prog 14 [] [V.vs A k] [] (V.tup [V.agg true M, i64 0]), (0 : Nat) = (0 : Nat), k * (11 : Nat) = List.length A, List.length M = (257 : Nat), (0 : Nat) = (0 : Nat)]) [(1, ⟨none, some ⟨V.tup [V.agg true M, i64 0], [], [(240004, true)]⟩⟩), (6, ⟨some V.top, none⟩)] [1, 4, 5, 7, 8] [240004, 7] (by kernel_rfl) ⟨(VO.tup (VOL.cons (VO.agg (by assumption)) (VOL.cons (VO.val _) VOL.nil))), trivial, (c2 ), (by omega), (by omega), (by omega), (by omega), trivial⟩ ?_
  refine AWP.seq ?_
  refine xe0 [1, 4, 5, 7, 32] [240004, 7] (by kernel_rfl) ?_
  refine AWP.condF (by kernel_rfl) ?_
  refine AWP.skip ?_
  refine xe0 [1, 4, 5, 7, 9] [240004, 7, 9] (by kernel_rfl) ?_
  refine AWP.seq ?_
  refine xe0 [4, 5, 7, 9, 33, 34, 35] [240004, 7, 9] (by kernel_rfl) ?_
  refine AWP.block ?_
  refine AWP.frz 240004 (s' := St.mk [(4, T.plain (vb false)), (5, T.plain (V.vs A k)), (7, T.plain (V.ptr 7 0)), (9, T.plain (V.ptr 9 0)), (33, T.plain (V.vs Y m)), (34, T.plain (i64 (m : Int))), (35, T.plain (i64 0))] [(7, Blk.mk M true 257 none), (9, Blk.mk [u8 0, u8 0, u8 0, u8 0, u8 0, u8 0, u8 0, u8 0, u8 0, u8 0, u8 0, u8 0, u8 0, u8 0, u8 0, u8 0] true 16 none)]) (by kernel_rfl) ?_
  refine AWP.loopI [4, 5, 7, 9, 33, 34, 35] [7, 9] (fun N s' => ∃ (p : Int) (L Z : List V), s' = St.mk [(4, T.plain (vb false)), (5, T.plain (V.vs A k)), (7, T.plain (V.ptr 7 0)), (9, T.plain (V.ptr 9 0)), (33, T.plain (V.vs Y m)), (34, T.plain (i64 (m : Int))), (35, T.plain (i64 p))] [(7, Blk.mk L true 257 none), (9, Blk.mk Z true 16 none)] ∧ L.length = 257 ∧ gI L 256 = i64 k ∧ Z.length = 16 ∧ (∀ j, j < k → ∃ e, AtG L (j * 16) (ru j) e ∧ SeOk e ∧ gI Z j = u8 e.st) ∧ 0 ≤ p ∧ p ≤ m ∧ (N : Int) = m - p) m (s0 := St.mk [(4, T.plain (vb false)), (5, T.plain (V.vs A k)), (7, T.plain (V.ptr 7 0)), (9, T.plain (V.ptr 9 0)), (33, T.plain (V.vs Y m)), (34, T.plain (i64 (m : Int))), (35, T.plain (i64 0))] [(7, Blk.mk M true 257 none), (9, Blk.mk [u8 0, u8 0, u8 0, u8 0, u8 0, u8 0, u8 0, u8 0, u8 0, u8 0, u8 0, u8 0, u8 0, u8 0, u8 0, u8 0] true 16 none)]) (by kernel_rfl) ?_ ?_
  · refine ⟨0, M, _, rfl, hM, hMn, rfl, fun j hj => ⟨_, hMa j hj, ⟨(show (0 : Int) ≤ 0 ∧ (0 : Int) < 5 by omega), (show (0 : Int) ≤ 0 ∧ (0 : Int) < 256 by omega), (show (-2147483648 : Int) ≤ 0 ∧ (0 : Int) ≤ 2147483647 by omega)⟩, ?_⟩, by omega, by omega, by omega⟩
    rcases (by omega : j = 0 ∨ j = 1 ∨ j = 2 ∨ j = 3 ∨ j = 4 ∨ j = 5 ∨ j = 6 ∨ j = 7 ∨ j = 8 ∨ j = 9 ∨ j = 10 ∨ j = 11 ∨ j = 12 ∨ j = 13 ∨ j = 14 ∨ j = 15) with rfl | rfl | rfl | rfl | rfl | rfl | rfl | rfl | rfl | rfl | rfl | rfl | rfl | rfl | rfl | rfl <;> rfl
  rintro N s' ⟨p, L, Z, rfl, hL, hL2, hZ, hall, hp, hp2, hN⟩
  by_cases hlt : p < m
  · by_cases h30 : p < 30
    · obtain ⟨v, r, hv, hd⟩ := hY p.toNat (by omega)
      have hs1 : (p + 1).toNat = p.toNat + 1 := by omega
      obtain ⟨f, f0, hf⟩ := exists_seq k (SpOk k ru) (SpT ru v) ⟨L, [], 0⟩ ⟨hL, hL2, rfl, Nat.le_refl _, fun j hj => by obtain ⟨e, h1, h2, _⟩ := hall j hj; exact ⟨e, h1, h2⟩⟩ (fun i hi a h => sp_next k hk16 ru v hv hru i hi a h)
      have c3 := con_stepg L [i32 (v 0), i32 (v 1), i32 (v 2), i32 (v 3), i32 (v 4), i32 (v 5), i32 (v 6), i32 (v 7), i32 (v 8), i32 (v 9), i32 (v 10), i32 (v 11), i32 (v 12), i32 (v 13), i32 (v 14), i32 (v 15)] k hk16 rfl v (fun j hj => by
        rcases (by omega : j = 0 ∨ j = 1 ∨ j = 2 ∨ j = 3 ∨ j = 4 ∨ j = 5 ∨ j = 6 ∨ j = 7 ∨ j = 8 ∨ j = 9 ∨ j = 10 ∨ j = 11 ∨ j = 12 ∨ j = 13 ∨ j = 14 ∨ j = 15) with rfl | rfl | rfl | rfl | rfl | rfl | rfl | rfl | rfl | rfl | rfl | rfl | rfl | rfl | rfl | rfl <;> rfl) ru hru f f0 hf hL2 hL
      have hok : ∀ i, i ≤ k → SpOk k ru i (f i) := fun i hi => by
        cases i with
        | zero => rw [f0]; exact ⟨hL, hL2, rfl, Nat.le_refl _, fun j hj => by obtain ⟨e, h1, h2, _⟩ := hall j hj; exact ⟨e, h1, h2⟩⟩
        | succ i => exact (hf i (by omega)).2.1
      have hT : ∀ i, i < k → SpT ru v i (f i) (f (i + 1)) := fun i hi => (hf i hi).2.2
      have hCl : ∀ i, i ≤ k → (f i).C.length = (f i).q * 4 := fun i hi => (hok i hi).cl
      have hS0 : ∀ j, j < k → gI Z j = stt (f 0) j := fun j hj => by
        obtain ⟨e, h1, _, h3⟩ := hall j hj
        rw [h3, f0]
        exact h1.f11.symm
      obtain ⟨L', hL'⟩ : ∃ x, x = (f k).L := ⟨_, rfl⟩
      obtain ⟨C, hC⟩ : ∃ x, x = (f k).C := ⟨_, rfl⟩
      obtain ⟨q, hq⟩ : ∃ x, x = (f k).q := ⟨_, rfl⟩
      have hLl : L'.length = 257 := by rw [hL']; exact (hok k (Nat.le_refl _)).len
      have hCC : C.length = q * 4 := by rw [hC, hq]; exact hCl k (Nat.le_refl _)
      have hq16 : q ≤ 16 := by have := (hok k (Nat.le_refl _)).q; omega
      rw [← hL', ← hC, ← hq] at c3
      have hd2 : List.drop (p.toNat * 16) Y = i32 (v 0) :: i32 (v 1) :: i32 (v 2) :: i32 (v 3) :: i32 (v 4) :: i32 (v 5) :: i32 (v 6) :: i32 (v 7) :: i32 (v 8) :: i32 (v 9) :: i32 (v 10) :: i32 (v 11) :: i32 (v 12) :: i32 (v 13) :: i32 (v 14) :: i32 (v 15) :: r := hd
      refine xe0 [4, 5, 7, 9, 33, 34, 35, 36] [7, 9] (by kernel_rfl) ?_
      refine AWP.seq ?_
      refine AWP.cond (b := decide (p < (↑m : Int))) (by kernel_rfl) (fun hq2 => ?_) (fun hq2 => ?_)
      rotate_left
      · simp only [decide_eq_false_iff_not] at hq2
        (exfalso; omega)
      simp only [decide_eq_true_eq] at hq2
      refine AWP.skip ?_
      refine AWP.seq ?_
      refine AWP.block ?_
      refine xe1 (os := [(0 : Int) ≤ p ∧ p < (↑m : Int), V.vp (List.drop (Int.toNat p * 16) Y) = V.vp (i32 (v 0) :: i32 (v 1) :: i32 (v 2) :: i32 (v 3) :: i32 (v 4) :: i32 (v 5) :: i32 (v 6) :: i32 (v 7) :: i32 (v 8) :: i32 (v 9) :: i32 (v 10) :: i32 (v 11) :: i32 (v 12) :: i32 (v 13) :: i32 (v 14) :: i32 (v 15) :: r)]) [(1, ⟨some (V.vp (i32 (v 0) :: i32 (v 1) :: i32 (v 2) :: i32 (v 3) :: i32 (v 4) :: i32 (v 5) :: i32 (v 6) :: i32 (v 7) :: i32 (v 8) :: i32 (v 9) :: i32 (v 10) :: i32 (v 11) :: i32 (v 12) :: i32 (v 13) :: i32 (v 14) :: i32 (v 15) :: r)), none⟩)] [4, 5, 7, 9, 10, 11, 33, 34, 35] [7, 9, 11] (by kernel_rfl) ⟨(by omega), (congrArg V.vp hd2), trivial⟩ ?_
      refine AWP.seq ?_
      refine xe0 [4, 5, 7, 9, 11, 33, 34, 35, 41] [7, 9, 11] (by kernel_rfl) ?_
      refine AWP.cond (b := decide (p ≥ 30)) (by kernel_rfl) (fun hq3 => ?_) (fun hq3 => ?_)
      · simp only [decide_eq_true_eq] at hq3
        (exfalso; omega)
      simp only [decide_eq_false_iff_not] at hq3
      refine AWP.skip ?_
      refine xe0 [4, 5, 7, 9, 11, 12, 33, 34, 35] [7, 9, 11, 12] (by kernel_rfl) ?_
      refine AWP.seq ?_
      refine AWP.keep' [4, 5, 7, 9, 11, 33, 34, 35] [7, 9, 11] (sf := St.mk [(4, tp (vb false)), (5, tp (V.vs A k)), (7, tp (V.ptr 7 0)), (9, tp (V.ptr 9 0)), (11, tp (V.ptr 11 0)), (33, tp (V.vs Y m)), (34, tp (i64 (↑m : Int))), (35, tp (i64 p))] [(7, Blk.mk L true 257 none), (9, Blk.mk Z true 16 none), (11, Blk.mk [i32 (v 0), i32 (v 1), i32 (v 2), i32 (v 3), i32 (v 4), i32 (v 5), i32 (v 6), i32 (v 7), i32 (v 8), i32 (v 9), i32 (v 10), i32 (v 11), i32 (v 12), i32 (v 13), i32 (v 14), i32 (v 15)] true 16 none)]) (by kernel_rfl) ?_
      refine xg1 (os := [Con Try.prog 18 [] [V.agg true L, V.agg true [i32 (v 0), i32 (v 1), i32 (v 2), i32 (v 3), i32 (v 4), i32 (v 5), i32 (v 6), i32 (v 7), i32 (v 8), i32 (v 9), i32 (v 10), i32 (v 11), i32 (v 12), i32 (v 13), i32 (v 14), i32 (v 15)]] [(6, Blk.mk C true 0 (some (52, 4)))] (V.tup [V.agg true L', V.sl 6 0 q]), List.length L' = (257 : Nat), (0 : Nat) = (0 : Nat)]) [(2, ⟨none, some ⟨V.tup [V.agg true L', V.sl 6 0 q], [(6, Blk.mk C true 0 (some (52, 4)))], []⟩⟩), (6, ⟨some V.top, none⟩)] [4, 5, 7, 9, 12, 33, 34, 35] [7, 9, 460006] (by kernel_rfl) ⟨(c3 ), (by omega), (by omega), trivial⟩ ?_
      refine xe0 [4, 5, 7, 9, 12, 13, 33, 34, 35] [7, 9, 460006] (by kernel_rfl) ?_
      refine AWP.seq ?_
      refine xe0 [4, 5, 7, 9, 13, 33, 34, 35, 48, 49, 50] [7, 9, 460006] (by kernel_rfl) ?_
      refine AWP.block ?_
      refine AWP.frz 460006 (s' := St.mk [(4, T.plain (vb false)), (5, T.plain (V.vs A k)), (7, T.plain (V.ptr 7 0)), (9, T.plain (V.ptr 9 0)), (13, T.plain (i64 (-1))), (33, T.plain (V.vs Y m)), (34, T.plain (i64 (m : Int))), (35, T.plain (i64 p)), (48, T.plain (V.vs C q)), (49, T.plain (i64 (q : Int))), (50, T.plain (i64 0))] [(7, Blk.mk L' true 257 none), (9, Blk.mk Z true 16 none)]) (by kernel_rfl) ?_
      refine AWP.loopI [4, 5, 7, 9, 13, 33, 34, 35, 48, 49, 50] [7, 9] (fun N s' => ∃ (t la : Int) (W : List V) (i : Nat), s' = St.mk [(4, T.plain (vb false)), (5, T.plain (V.vs A k)), (7, T.plain (V.ptr 7 0)), (9, T.plain (V.ptr 9 0)), (13, T.plain (i64 la)), (33, T.plain (V.vs Y m)), (34, T.plain (i64 (m : Int))), (35, T.plain (i64 p)), (48, T.plain (V.vs C q)), (49, T.plain (i64 (q : Int))), (50, T.plain (i64 t))] [(7, Blk.mk L' true 257 none), (9, Blk.mk W true 16 none)] ∧ W.length = 16 ∧ i ≤ k ∧ ((f i).q : Int) = t ∧ (∀ j, j < k → gI W j = stt (f i) j) ∧ la < i ∧ 0 ≤ t ∧ t ≤ q ∧ (N : Int) = q - t) q (s0 := St.mk [(4, T.plain (vb false)), (5, T.plain (V.vs A k)), (7, T.plain (V.ptr 7 0)), (9, T.plain (V.ptr 9 0)), (13, T.plain (i64 (-1))), (33, T.plain (V.vs Y m)), (34, T.plain (i64 (m : Int))), (35, T.plain (i64 p)), (48, T.plain (V.vs C q)), (49, T.plain (i64 (q : Int))), (50, T.plain (i64 0))] [(7, Blk.mk L' true 257 none), (9, Blk.mk Z true 16 none)]) (by kernel_rfl) ?_ ?_
      · exact ⟨0, -1, Z, 0, rfl, hZ, by omega, (by rw [f0]; rfl), hS0, by omega, by omega, by omega, by omega⟩
      rintro N2 s' ⟨t, la, W, i, rfl, hW, hik, hqt, hSt, hla, ht, ht2, hN2⟩
      by_cases hlt2 : t < q
      · obtain ⟨kk, s, s', vv, r2, h1, h2, h3, h4, ch, h6⟩ := seq_next hT hCl (k - i) i (by omega) (by omega)
        rw [← hC, show (f i).q = t.toNat by omega] at h6
        obtain ⟨r3, hr3⟩ := hA kk h2
        obtain ⟨K, hK, rfl⟩ : ∃ K : Int, 0 ≤ K ∧ kk = K.toNat := ⟨kk, by omega, by omega⟩
        rw [Int.toNat_of_nonneg hK] at h6
        have hb1 : List.drop (K.toNat * 11) A = u8 (ru K.toNat).kd :: i64 (ru K.toNat).pa :: i32 (ru K.toNat).lo :: i32 (ru K.toNat).hi :: u32 (ru K.toNat).ma :: u32 (ru K.toNat).wa :: u8 (ru K.toNat).rp :: u8 (ru K.toNat).ev :: u8 (ru K.toNat).lv :: i64 (ru K.toNat).un :: vb true :: r3 := by rw [hr3, ← ch.en]; rfl
        have hb2 : List.drop (t.toNat * 4) C = i64 K :: u8 s :: u8 s' :: i32 vv :: r2 := h6
        have wgW : gI W (0 + K.toNat * 1) = u8 s := by rw [Nat.zero_add, Nat.mul_one, hSt _ h2, ← h4]; exact ch.was
        have hne : ¬ s = s' := fun e => ch.ne e.symm
        have hnz := ch.nz
        have hs2 : (t + 1).toNat = t.toNat + 1 := by omega
        have hnx : ∀ j, j < k → gI (putC (1 == 1) W (0 + K.toNat * 1) [u8 s']) j = stt (f (K.toNat + 1)) j := fun j hj => by
          by_cases e : j = K.toNat
          · subst e
            rw [ch.is, show 0 + K.toNat * 1 = K.toNat by omega]
            exact gI_putC_eq (by omega)
          · rw [ch.oth j e, h4 j, ← hSt j hj]
            exact gI_putC_ne (by omega) rfl
        have hcq := ch.q
        refine xe0 [4, 5, 7, 9, 13, 33, 34, 35, 48, 49, 50, 51] [7, 9] (by kernel_rfl) ?_
        refine AWP.seq ?_
        refine AWP.cond (b := decide (t < (↑q : Int))) (by kernel_rfl) (fun hq4 => ?_) (fun hq4 => ?_)
        · simp only [decide_eq_true_eq] at hq4
          refine AWP.skip ?_
          refine AWP.seq ?_
          refine AWP.block ?_
          refine xe1 (os := [(0 : Int) ≤ t ∧ t < (↑q : Int), V.vp (List.drop (Int.toNat t * 4) C) = V.vp (i64 K :: u8 s :: u8 s' :: i32 vv :: r2)]) [(0, ⟨some (V.vp (i64 K :: u8 s :: u8 s' :: i32 vv :: r2)), none⟩)] [4, 5, 7, 9, 13, 15, 33, 34, 35, 48, 49, 50] [7, 9, 15] (by kernel_rfl) ⟨(by omega), (congrArg V.vp h6), trivial⟩ ?_
          refine AWP.seq ?_
          refine xe1 (os := [(0 : Int) ≤ K ∧ K < (↑k : Int), V.vp (List.drop (Int.toNat K * 11) A) = V.vp (u8 (ru (Int.toNat K)).kd :: i64 (ru (Int.toNat K)).pa :: i32 (ru (Int.toNat K)).lo :: i32 (ru (Int.toNat K)).hi :: u32 (ru (Int.toNat K)).ma :: u32 (ru (Int.toNat K)).wa :: u8 (ru (Int.toNat K)).rp :: u8 (ru (Int.toNat K)).ev :: u8 (ru (Int.toNat K)).lv :: i64 (ru (Int.toNat K)).un :: vb true :: r3), (false || s == s') = false → ((0 : Int) ≤ K ∧ K < (↑(16 : Nat) : Int)) ∧ V.ptr (9 : Nat) ((0 : Nat) + Int.toNat K * (1 : Nat)) = V.ptr (9 : Nat) ((0 : Nat) + Int.toNat K * (1 : Nat)) ∧ True, (false || s == s') = false → (0 : Nat) + Int.toNat K * (1 : Nat) + (1 : Nat) ≤ List.length W ∧ part_ true (isRow (TypeDesc.int IntKind.u8)) W ((0 : Nat) + Int.toNat K * (1 : Nat)) (1 : Nat) = u8 s ∧ True]) [(3, ⟨some (V.vp (u8 (ru (Int.toNat K)).kd :: i64 (ru (Int.toNat K)).pa :: i32 (ru (Int.toNat K)).lo :: i32 (ru (Int.toNat K)).hi :: u32 (ru (Int.toNat K)).ma :: u32 (ru (Int.toNat K)).wa :: u8 (ru (Int.toNat K)).rp :: u8 (ru (Int.toNat K)).ev :: u8 (ru (Int.toNat K)).lv :: i64 (ru (Int.toNat K)).un :: vb true :: r3)), none⟩), (17, ⟨some (V.ptr 9 (0 + Int.toNat K * 1)), none⟩), (18, ⟨some (u8 s), none⟩)] [4, 5, 7, 9, 13, 15, 33, 34, 35, 48, 49, 50, 87] [7, 9, 15] (by kernel_rfl) ⟨(by omega), (congrArg V.vp hb1), (by intro hc0; first | (cases hc0; done) | ((try simp only [Bool.or_false, Bool.false_or, Bool.true_and, Bool.and_true, decide_eq_true_eq, decide_eq_false_iff_not, Bool.and_eq_true, Bool.or_eq_true, Bool.or_eq_false_iff, Bool.not_eq_true', Bool.and_eq_false_iff, beq_iff_eq, bne_iff_ne, bne_eq_false_iff_eq, beq_eq_false_iff_ne, Bool.not_eq_false'] at hc0); exact ⟨(by omega), rfl, trivial⟩)), (by intro hc0; first | (cases hc0; done) | ((try simp only [Bool.or_false, Bool.false_or, Bool.true_and, Bool.and_true, decide_eq_true_eq, decide_eq_false_iff_not, Bool.and_eq_true, Bool.or_eq_true, Bool.or_eq_false_iff, Bool.not_eq_true', Bool.and_eq_false_iff, beq_iff_eq, bne_iff_ne, bne_eq_false_iff_eq, beq_eq_false_iff_ne, Bool.not_eq_false'] at hc0); exact ⟨(by omega), (wgW ), trivial⟩)), trivial⟩ ?_
          refine AWP.cond (b := false || s == s' || s != s || decide (K ≤ la) || s' == 0) (by kernel_rfl) (fun hq5 => ?_) (fun hq5 => ?_)
          · simp only [Bool.false_or, decide_eq_true_eq, Bool.or_eq_true, beq_iff_eq, bne_iff_ne] at hq5
            (exfalso; omega)
          simp only [Bool.false_or, decide_eq_false_iff_not, Bool.or_eq_false_iff, bne_eq_false_iff_eq, beq_eq_false_iff_ne] at hq5
          refine AWP.skip ?_
          refine AWP.region tcok hmix [(6, ⟨some (V.ptr 9 (0 + Int.toNat K * 1)), none⟩), (7, ⟨some V.top, none⟩)] (os := [(0 : Int) ≤ K ∧ K < (↑(16 : Nat) : Int), V.ptr 9 (0 + Int.toNat K * 1) = V.ptr 9 (0 + Int.toNat K * 1), (1 : Nat) = (1 : Nat), (0 : Nat) + Int.toNat K * (1 : Nat) + (1 : Nat) ≤ List.length W]) (sf := St.mk [(4, tp (vb false)), (5, tp (V.vs A k)), (7, tp (V.ptr 7 0)), (9, tp (V.ptr 9 0)), (13, tp (i64 K)), (15, tp (V.ptr 15 0)), (33, tp (V.vs Y m)), (34, tp (i64 (↑m : Int))), (35, tp (i64 p)), (48, tp (V.vs C q)), (49, tp (i64 (↑q : Int))), (50, tp (i64 t)), (87, tp (vb (false || s == s' || s != s || decide (K ≤ la) || s' == 0))), (88, tp (V.ptr 15 0)), (89, tp (i64 K)), (90, tp (V.ptr 15 2)), (91, tp (u8 s')), (92, tp (V.ptr 15 0)), (93, tp (i64 K)), (94, tp (V.ptr 9 (0 + Int.toNat K * 1)))] [(7, Blk.mk L' true 257 none), (9, Blk.mk (putC (1 == 1) W (0 + Int.toNat K * 1) [u8 s']) true 16 none), (15, Blk.mk [i64 K, u8 s, u8 s', i32 vv] true 4 none)]) (by kernel_rfl) ⟨(by omega), rfl, (by omega), (by omega), trivial⟩ ?_
          refine AWP.keep' [4, 5, 7, 9, 13, 33, 34, 35, 48, 49, 50] [7, 9] (sf := St.mk [(4, tp (vb false)), (5, tp (V.vs A k)), (7, tp (V.ptr 7 0)), (9, tp (V.ptr 9 0)), (13, tp (i64 K)), (33, tp (V.vs Y m)), (34, tp (i64 (↑m : Int))), (35, tp (i64 p)), (48, tp (V.vs C q)), (49, tp (i64 (↑q : Int))), (50, tp (i64 t))] [(7, Blk.mk L' true 257 none), (9, Blk.mk (putC (1 == 1) W (0 + Int.toNat K * 1) [u8 s']) true 16 none)]) (by kernel_rfl) ?_
          refine AWP.region tcok hmix [(0, ⟨some (i64 (t + 1)), none⟩)] (os := [i64 (IntKind.wrap IntKind.i64 (t + 1)) = i64 (t + 1)]) (sf := St.mk [(4, tp (vb false)), (5, tp (V.vs A k)), (7, tp (V.ptr 7 0)), (9, tp (V.ptr 9 0)), (13, tp (i64 K)), (33, tp (V.vs Y m)), (34, tp (i64 (↑m : Int))), (35, tp (i64 p)), (48, tp (V.vs C q)), (49, tp (i64 (↑q : Int))), (50, tp (i64 (t + 1))), (95, tp (i64 (t + 1)))] [(7, Blk.mk L' true 257 none), (9, Blk.mk (putC (1 == 1) W (0 + Int.toNat K * 1) [u8 s']) true 16 none)]) (by kernel_rfl) ⟨(wr_i64 (by omega) (by omega)), trivial⟩ ?_
          refine ⟨St.mk [(4, tp (vb false)), (5, tp (V.vs A k)), (7, tp (V.ptr 7 0)), (9, tp (V.ptr 9 0)), (13, tp (i64 K)), (33, tp (V.vs Y m)), (34, tp (i64 (↑m : Int))), (35, tp (i64 p)), (48, tp (V.vs C q)), (49, tp (i64 (↑q : Int))), (50, tp (i64 (t + 1)))] [(7, Blk.mk L' true 257 none), (9, Blk.mk (putC (1 == 1) W (0 + Int.toNat K * 1) [u8 s']) true 16 none)], by kernel_rfl, ?_⟩
          first | (exact ⟨(q - (t + 1)).toNat, (by omega), t + 1, K, _, K.toNat + 1, rfl, (by rw [len_putC]; exact hW), (by omega), (by omega), hnx, (by omega), (by omega), (by omega), (by omega)⟩) | (exfalso; omega)
        simp only [decide_eq_false_iff_not] at hq4
        (exfalso; omega)
      have htq : t = q := by omega
      subst htq
      have hend := seq_end hT (k - i) i (by omega) (by omega)
      have hfin : ∀ j, j < k → ∃ e, AtG L' (j * 16) (ru j) e ∧ SeOk e ∧ gI W j = u8 e.st := fun j hj => by
        obtain ⟨e, h1, h2⟩ := (hok k (Nat.le_refl _)).at_ j hj
        rw [← hL'] at h1
        exact ⟨e, h1, h2, by rw [hSt j hj, ← hend j]; show gI (f k).L (j * 16 + 11) = _; rw [← hL']; exact h1.f11⟩
      have hLn : gI L' 256 = i64 k := by rw [hL']; exact (hok k (Nat.le_refl _)).last
      clear hSt hend hqt hT hCl hok hf c3 hS0 hall f0 hla
      refine xe0 [4, 5, 7, 9, 13, 33, 34, 35, 48, 49, 50, 51] [7, 9] (by kernel_rfl) ?_
      refine AWP.seq ?_
      refine AWP.cond (b := decide ((↑q : Int) < (↑q : Int))) (by kernel_rfl) (fun hq6 => ?_) (fun hq6 => ?_)
      · simp only [decide_eq_true_eq] at hq6
        (exfalso; omega)
      simp only [decide_eq_false_iff_not] at hq6
      refine AWP.exit ?_
      refine AWP.seq ?_
      refine xe0 [4, 5, 7, 9, 33, 34, 35, 97, 98] [7, 9] (by kernel_rfl) ?_
      refine AWP.block ?_
      refine AWP.loopI [4, 5, 7, 9, 33, 34, 35, 97, 98] [7, 9] (fun N s' => ∃ (j : Int), s' = St.mk [(4, T.plain (vb false)), (5, T.plain (V.vs A k)), (7, T.plain (V.ptr 7 0)), (9, T.plain (V.ptr 9 0)), (33, T.plain (V.vs Y m)), (34, T.plain (i64 (m : Int))), (35, T.plain (i64 p)), (97, T.plain (i64 (k : Int))), (98, T.plain (i64 j))] [(7, Blk.mk L' true 257 none), (9, Blk.mk W true 16 none)] ∧ 0 ≤ j ∧ j ≤ k ∧ (N : Int) = k - j) k (s0 := St.mk [(4, T.plain (vb false)), (5, T.plain (V.vs A k)), (7, T.plain (V.ptr 7 0)), (9, T.plain (V.ptr 9 0)), (33, T.plain (V.vs Y m)), (34, T.plain (i64 (m : Int))), (35, T.plain (i64 p)), (97, T.plain (i64 (k : Int))), (98, T.plain (i64 0))] [(7, Blk.mk L' true 257 none), (9, Blk.mk W true 16 none)]) (by kernel_rfl) ?_ ?_
      · exact ⟨0, rfl, by omega, by omega, by omega⟩
      rintro N3 s' ⟨j, rfl, hj, hj2, hN3⟩
      by_cases hlt3 : j < k
      · obtain ⟨e, h1, h2, h3⟩ := hfin j.toNat (by omega)
        have d1 := con_stat_y L' k j e.st hLl hLn (by omega) (by omega) h1.f11
        have wg1 : gI W (0 + j.toNat * 1) = u8 e.st := by rw [Nat.zero_add, Nat.mul_one]; exact h3
        refine xe0 [4, 5, 7, 9, 33, 34, 35, 97, 98, 99] [7, 9] (by kernel_rfl) ?_
        refine AWP.seq ?_
        refine AWP.cond (b := decide (j < (↑k : Int))) (by kernel_rfl) (fun hq7 => ?_) (fun hq7 => ?_)
        · simp only [decide_eq_true_eq] at hq7
          refine AWP.skip ?_
          refine AWP.seq ?_
          refine AWP.block ?_
          refine xe0 [4, 5, 7, 9, 16, 33, 34, 35, 97, 98] [7, 9] (by kernel_rfl) ?_
          refine xe1 (os := [Con Try.prog 17 [] [V.agg true L', i64 j] [] (u8 e.st), (0 : Int) ≤ j ∧ j < (↑(16 : Nat) : Int), V.ptr 9 (0 + Int.toNat j * 1) = V.ptr 9 (0 + Int.toNat j * 1), (0 : Nat) + Int.toNat j * (1 : Nat) + (1 : Nat) ≤ List.length W, part_ true (isRow (TypeDesc.int IntKind.u8)) W (0 + Int.toNat j * 1) 1 = u8 e.st]) [(2, ⟨none, some ⟨u8 e.st, [], []⟩⟩), (4, ⟨some (V.ptr 9 (0 + Int.toNat j * 1)), none⟩), (5, ⟨some (u8 e.st), none⟩)] [4, 5, 7, 9, 33, 34, 35, 97, 98, 107] [7, 9] (by kernel_rfl) ⟨(d1 ), (by omega), rfl, (by omega), (wg1 ), trivial⟩ ?_
          refine AWP.cond (b := e.st != e.st) (by kernel_rfl) (fun hq8 => ?_) (fun hq8 => ?_)
          · simp only [bne_iff_ne] at hq8
            (exfalso; omega)
          simp only [bne_eq_false_iff_eq] at hq8
          refine AWP.skip ?_
          refine AWP.region tcok hmix [(0, ⟨some (i64 (j + 1)), none⟩)] (os := [i64 (IntKind.wrap IntKind.i64 (j + 1)) = i64 (j + 1)]) (sf := St.mk [(4, tp (vb false)), (5, tp (V.vs A k)), (7, tp (V.ptr 7 0)), (9, tp (V.ptr 9 0)), (33, tp (V.vs Y m)), (34, tp (i64 (↑m : Int))), (35, tp (i64 p)), (97, tp (i64 (↑k : Int))), (98, tp (i64 (j + 1))), (107, tp (vb (e.st != e.st))), (108, tp (i64 (j + 1)))] [(7, Blk.mk L' true 257 none), (9, Blk.mk W true 16 none)]) (by kernel_rfl) ⟨(wr_i64 (by omega) (by omega)), trivial⟩ ?_
          refine ⟨St.mk [(4, tp (vb false)), (5, tp (V.vs A k)), (7, tp (V.ptr 7 0)), (9, tp (V.ptr 9 0)), (33, tp (V.vs Y m)), (34, tp (i64 (↑m : Int))), (35, tp (i64 p)), (97, tp (i64 (↑k : Int))), (98, tp (i64 (j + 1)))] [(7, Blk.mk L' true 257 none), (9, Blk.mk W true 16 none)], by kernel_rfl, ?_⟩
          first | (exact ⟨(k - (j + 1)).toNat, (by omega), j + 1, rfl, (by omega), (by omega), (by omega)⟩) | (exfalso; omega)
        simp only [decide_eq_false_iff_not] at hq7
        (exfalso; omega)
      have hjk : j = k := by omega
      subst hjk
      obtain ⟨st, hst⟩ : ∃ st : Nat → Int, ∀ j, j < k → gI L' (j * 16 + 11) = u8 (st j) ∧ gI W j = u8 (st j) := by
        classical
        have nx : ∀ j, ∃ s : Int, j < k → gI L' (j * 16 + 11) = u8 s ∧ gI W j = u8 s := fun j => by
          by_cases hj : j < k
          · obtain ⟨e, h1, h2, h3⟩ := hfin j hj
            exact ⟨e.st, fun _ => ⟨h1.f11, h3⟩⟩
          · exact ⟨0, fun h => absurd h hj⟩
        exact ⟨fun j => Classical.choose (nx j), fun j hj => Classical.choose_spec (nx j) hj⟩
      obtain ⟨Q, hQ⟩ : ∃ x, vf (fun j => (ru j).en) st k = x := ⟨_, rfl⟩
      obtain ⟨u, hu⟩ : ∃ x, Q.length = x := ⟨_, rfl⟩
      have hu16 : u ≤ 16 := by have := vf_len (fun j => (ru j).en) st k; rw [hQ, hu] at this; omega
      have d2 := con_violg L' k hk16 hLl hLn (fun j => (ru j).en) st (fun j hj => by
        obtain ⟨e, h1, _, _⟩ := hfin j hj
        exact ⟨h1.f10, (hst j hj).1⟩) Q u hQ hu
      have hQl : Q.length = u * 1 := by omega
      refine xe0 [4, 5, 7, 9, 33, 34, 35, 97, 98, 99] [7, 9] (by kernel_rfl) ?_
      refine AWP.seq ?_
      refine AWP.cond (b := decide ((↑k : Int) < (↑k : Int))) (by kernel_rfl) (fun hq9 => ?_) (fun hq9 => ?_)
      · simp only [decide_eq_true_eq] at hq9
        (exfalso; omega)
      simp only [decide_eq_false_iff_not] at hq9
      refine AWP.exit ?_
      refine xe1 (os := [Con Try.prog 19 [] [V.agg true L'] [(3, Blk.mk Q true 0 (some (3, 1)))] (V.sl 3 0 u)]) [(1, ⟨none, some ⟨V.sl 3 0 u, [(3, Blk.mk Q true 0 (some (3, 1)))], []⟩⟩)] [4, 5, 7, 9, 33, 34, 35, 110, 111, 112] [7, 9, 1110003] (by kernel_rfl) ⟨(d2 ), trivial⟩ ?_
      refine AWP.block ?_
      refine AWP.frz 1110003 (s' := St.mk [(4, T.plain (vb false)), (5, T.plain (V.vs A k)), (7, T.plain (V.ptr 7 0)), (9, T.plain (V.ptr 9 0)), (33, T.plain (V.vs Y m)), (34, T.plain (i64 (m : Int))), (35, T.plain (i64 p)), (110, T.plain (V.vs Q u)), (111, T.plain (i64 (u : Int))), (112, T.plain (i64 0))] [(7, Blk.mk L' true 257 none), (9, Blk.mk W true 16 none)]) (by kernel_rfl) ?_
      refine AWP.loopI [4, 5, 7, 9, 33, 34, 35, 110, 111, 112] [7, 9] (fun N s' => ∃ (t : Int), s' = St.mk [(4, T.plain (vb false)), (5, T.plain (V.vs A k)), (7, T.plain (V.ptr 7 0)), (9, T.plain (V.ptr 9 0)), (33, T.plain (V.vs Y m)), (34, T.plain (i64 (m : Int))), (35, T.plain (i64 p)), (110, T.plain (V.vs Q u)), (111, T.plain (i64 (u : Int))), (112, T.plain (i64 t))] [(7, Blk.mk L' true 257 none), (9, Blk.mk W true 16 none)] ∧ 0 ≤ t ∧ t ≤ u ∧ (N : Int) = u - t) u (s0 := St.mk [(4, T.plain (vb false)), (5, T.plain (V.vs A k)), (7, T.plain (V.ptr 7 0)), (9, T.plain (V.ptr 9 0)), (33, T.plain (V.vs Y m)), (34, T.plain (i64 (m : Int))), (35, T.plain (i64 p)), (110, T.plain (V.vs Q u)), (111, T.plain (i64 (u : Int))), (112, T.plain (i64 0))] [(7, Blk.mk L' true 257 none), (9, Blk.mk W true 16 none)]) (by kernel_rfl) ?_ ?_
      · exact ⟨0, rfl, by omega, by omega, by omega⟩
      rintro N4 s' ⟨t, rfl, ht, ht2, hN4⟩
      by_cases hlt4 : t < u
      · obtain ⟨kk, r2, h1, h2, h3, h4⟩ := vf_drop (fun j => (ru j).en) st k t.toNat (by rw [hQ, hu]; omega)
        have h2' : (ru kk).en = true := h2
        rw [hQ] at h4
        obtain ⟨r3, hr3⟩ := hA kk h1
        obtain ⟨K, hK, rfl⟩ : ∃ K : Int, 0 ≤ K ∧ kk = K.toNat := ⟨kk, by omega, by omega⟩
        rw [Int.toNat_of_nonneg hK] at h4
        have hb1 : List.drop (K.toNat * 11) A = u8 (ru K.toNat).kd :: i64 (ru K.toNat).pa :: i32 (ru K.toNat).lo :: i32 (ru K.toNat).hi :: u32 (ru K.toNat).ma :: u32 (ru K.toNat).wa :: u8 (ru K.toNat).rp :: u8 (ru K.toNat).ev :: u8 (ru K.toNat).lv :: i64 (ru K.toNat).un :: vb true :: r3 := by rw [hr3, ← h2']; rfl
        have hb2 : List.drop (t.toNat * 1) Q = i64 K :: r2 := by rw [Nat.mul_one]; exact h4
        have wgW : gI W (0 + K.toNat * 1) = u8 (st K.toNat) := by rw [Nat.zero_add, Nat.mul_one]; exact (hst _ h1).2
        generalize st K.toNat = s at *
        refine xe0 [4, 5, 7, 9, 33, 34, 35, 110, 111, 112, 113] [7, 9] (by kernel_rfl) ?_
        refine AWP.seq ?_
        refine AWP.cond (b := decide (t < (↑u : Int))) (by kernel_rfl) (fun hq10 => ?_) (fun hq10 => ?_)
        · simp only [decide_eq_true_eq] at hq10
          refine AWP.skip ?_
          refine AWP.seq ?_
          refine AWP.block ?_
          refine xe1 (os := [(0 : Int) ≤ t ∧ t < (↑u : Int), V.vp (List.drop (Int.toNat t * 1) Q) = V.vp (i64 K :: r2)]) [(0, ⟨some (V.vp (i64 K :: r2)), none⟩)] [4, 5, 7, 9, 18, 33, 34, 35, 110, 111, 112] [7, 9] (by kernel_rfl) ⟨(by omega), (congrArg V.vp hb2), trivial⟩ ?_
          refine xe1 (os := [(0 : Int) ≤ K ∧ K < (↑k : Int), V.vp (List.drop (Int.toNat K * 11) A) = V.vp (u8 (ru (Int.toNat K)).kd :: i64 (ru (Int.toNat K)).pa :: i32 (ru (Int.toNat K)).lo :: i32 (ru (Int.toNat K)).hi :: u32 (ru (Int.toNat K)).ma :: u32 (ru (Int.toNat K)).wa :: u8 (ru (Int.toNat K)).rp :: u8 (ru (Int.toNat K)).ev :: u8 (ru (Int.toNat K)).lv :: i64 (ru (Int.toNat K)).un :: vb true :: r3), false = false → ((0 : Int) ≤ K ∧ K < (↑(16 : Nat) : Int)) ∧ V.ptr (9 : Nat) ((0 : Nat) + Int.toNat K * (1 : Nat)) = V.ptr (9 : Nat) ((0 : Nat) + Int.toNat K * (1 : Nat)) ∧ True, false = false → (0 : Nat) + Int.toNat K * (1 : Nat) + (1 : Nat) ≤ List.length W ∧ part_ true (isRow (TypeDesc.int IntKind.u8)) W ((0 : Nat) + Int.toNat K * (1 : Nat)) (1 : Nat) = u8 s ∧ True]) [(2, ⟨some (V.vp (u8 (ru (Int.toNat K)).kd :: i64 (ru (Int.toNat K)).pa :: i32 (ru (Int.toNat K)).lo :: i32 (ru (Int.toNat K)).hi :: u32 (ru (Int.toNat K)).ma :: u32 (ru (Int.toNat K)).wa :: u8 (ru (Int.toNat K)).rp :: u8 (ru (Int.toNat K)).ev :: u8 (ru (Int.toNat K)).lv :: i64 (ru (Int.toNat K)).un :: vb true :: r3)), none⟩), (8, ⟨some (V.ptr 9 (0 + Int.toNat K * 1)), none⟩), (9, ⟨some (u8 s), none⟩)] [4, 5, 7, 9, 33, 34, 35, 110, 111, 112, 127] [7, 9] (by kernel_rfl) ⟨(by omega), (congrArg V.vp hb1), (by intro hc0; first | (cases hc0; done) | ((try simp only [Bool.or_false, Bool.false_or, Bool.true_and, Bool.and_true, decide_eq_true_eq, decide_eq_false_iff_not, Bool.and_eq_true, Bool.or_eq_true, Bool.or_eq_false_iff, Bool.not_eq_true', Bool.and_eq_false_iff, beq_iff_eq, bne_iff_ne, bne_eq_false_iff_eq, beq_eq_false_iff_ne, Bool.not_eq_false'] at hc0); exact ⟨(by omega), rfl, trivial⟩)), (by intro hc0; first | (cases hc0; done) | ((try simp only [Bool.or_false, Bool.false_or, Bool.true_and, Bool.and_true, decide_eq_true_eq, decide_eq_false_iff_not, Bool.and_eq_true, Bool.or_eq_true, Bool.or_eq_false_iff, Bool.not_eq_true', Bool.and_eq_false_iff, beq_iff_eq, bne_iff_ne, bne_eq_false_iff_eq, beq_eq_false_iff_ne, Bool.not_eq_false'] at hc0); exact ⟨(by omega), (wgW ), trivial⟩)), trivial⟩ ?_
          refine AWP.cond (b := false || decide (s < 2)) (by kernel_rfl) (fun hq11 => ?_) (fun hq11 => ?_)
          · simp only [Bool.false_or, decide_eq_true_eq] at hq11
            (exfalso; omega)
          simp only [Bool.false_or, decide_eq_false_iff_not] at hq11
          refine AWP.skip ?_
          refine AWP.region tcok hmix [(0, ⟨some (i64 (t + 1)), none⟩)] (os := [i64 (IntKind.wrap IntKind.i64 (t + 1)) = i64 (t + 1)]) (sf := St.mk [(4, tp (vb false)), (5, tp (V.vs A k)), (7, tp (V.ptr 7 0)), (9, tp (V.ptr 9 0)), (33, tp (V.vs Y m)), (34, tp (i64 (↑m : Int))), (35, tp (i64 p)), (110, tp (V.vs Q u)), (111, tp (i64 (↑u : Int))), (112, tp (i64 (t + 1))), (127, tp (vb (false || decide (s < 2)))), (128, tp (i64 (t + 1)))] [(7, Blk.mk L' true 257 none), (9, Blk.mk W true 16 none)]) (by kernel_rfl) ⟨(wr_i64 (by omega) (by omega)), trivial⟩ ?_
          refine ⟨St.mk [(4, tp (vb false)), (5, tp (V.vs A k)), (7, tp (V.ptr 7 0)), (9, tp (V.ptr 9 0)), (33, tp (V.vs Y m)), (34, tp (i64 (↑m : Int))), (35, tp (i64 p)), (110, tp (V.vs Q u)), (111, tp (i64 (↑u : Int))), (112, tp (i64 (t + 1)))] [(7, Blk.mk L' true 257 none), (9, Blk.mk W true 16 none)], by kernel_rfl, ?_⟩
          first | (exact ⟨(u - (t + 1)).toNat, (by omega), t + 1, rfl, (by omega), (by omega), (by omega)⟩) | (exfalso; omega)
        simp only [decide_eq_false_iff_not] at hq10
        (exfalso; omega)
      have htu : t = u := by omega
      subst htu
      clear hst d2 hQ hu
      refine xe0 [4, 5, 7, 9, 33, 34, 35, 110, 111, 112, 113] [7, 9] (by kernel_rfl) ?_
      refine AWP.seq ?_
      refine AWP.cond (b := decide ((↑u : Int) < (↑u : Int))) (by kernel_rfl) (fun hq12 => ?_) (fun hq12 => ?_)
      · simp only [decide_eq_true_eq] at hq12
        (exfalso; omega)
      simp only [decide_eq_false_iff_not] at hq12
      refine AWP.exit ?_
      refine AWP.region tcok hmix [(0, ⟨some (i64 (p + 1)), none⟩)] (os := [i64 (IntKind.wrap IntKind.i64 (p + 1)) = i64 (p + 1)]) (sf := St.mk [(4, tp (vb false)), (5, tp (V.vs A k)), (7, tp (V.ptr 7 0)), (9, tp (V.ptr 9 0)), (33, tp (V.vs Y m)), (34, tp (i64 (↑m : Int))), (35, tp (i64 (p + 1))), (110, tp (V.vs Q u)), (111, tp (i64 (↑u : Int))), (112, tp (i64 (↑u : Int))), (113, tp (vb (decide ((↑u : Int) < (↑u : Int))))), (129, tp (i64 (p + 1)))] [(7, Blk.mk L' true 257 none), (9, Blk.mk W true 16 none)]) (by kernel_rfl) ⟨(wr_i64 (by omega) (by omega)), trivial⟩ ?_
      refine ⟨St.mk [(4, tp (vb false)), (5, tp (V.vs A k)), (7, tp (V.ptr 7 0)), (9, tp (V.ptr 9 0)), (33, tp (V.vs Y m)), (34, tp (i64 (↑m : Int))), (35, tp (i64 (p + 1)))] [(7, Blk.mk L' true 257 none), (9, Blk.mk W true 16 none)], by kernel_rfl, ?_⟩
      (exact ⟨(m - (p + 1)).toNat, (by omega), p + 1, L', W, rfl, hLl, hLn, hW, hfin, (by omega), (by omega), (by omega)⟩)
    · refine AWP.seq ?_
      refine xg0 [4, 5, 7, 9, 33, 34, 35, 36] [7, 9] (by kernel_rfl) ?_
      refine AWP.seq ?_
      refine AWP.cond (b := decide (p < (↑m : Int))) (by kernel_rfl) (fun hq13 => ?_) (fun hq13 => ?_)
      · simp only [decide_eq_true_eq] at hq13
        refine AWP.skip ?_
        refine AWP.seq ?_
        refine AWP.block ?_
        refine xe1 (os := [(0 : Int) ≤ p ∧ p < (↑m : Int), V.vp (List.drop (Int.toNat p * 16) Y) = V.vp (List.drop (Int.toNat p * 16) Y), (16 : Nat) ≤ List.length (List.drop (Int.toNat p * (16 : Nat)) Y), V.agg true (List.take 16 (List.drop 0 (List.drop (Int.toNat p * 16) Y))) = V.agg true (List.take 16 (List.drop 0 (List.drop (Int.toNat p * 16) Y))), List.length (List.take (16 : Nat) (List.drop (0 : Nat) (List.drop (Int.toNat p * (16 : Nat)) Y))) = (16 : Nat), (0 : Nat) = (0 : Nat)]) [(1, ⟨some (V.vp (List.drop (Int.toNat p * 16) Y)), none⟩), (2, ⟨some (V.agg true (List.take 16 (List.drop 0 (List.drop (Int.toNat p * 16) Y)))), none⟩), (5, ⟨some V.top, none⟩)] [4, 5, 7, 9, 10, 11, 33, 34, 35] [7, 9, 11] (by kernel_rfl) ⟨(by omega), rfl, (by (simp [len_u8s]; omega)), rfl, (by (simp [len_u8s]; omega)), (by omega), trivial⟩ ?_
        refine AWP.seq ?_
        refine xe0 [4, 5, 7, 9, 11, 33, 34, 35, 41] [7, 9, 11] (by kernel_rfl) ?_
        refine AWP.cond (b := decide (p ≥ 30)) (by kernel_rfl) (fun hq14 => ?_) (fun hq14 => ?_)
        · simp only [decide_eq_true_eq] at hq14
          refine AWP.exit ?_
          refine xe0 [4] [] (by kernel_rfl) ?_
          refine AWP.ret ?_
          refine ⟨Or.inr rfl, Eq.trans (b := some ([], vb true)) (by kernel_rfl) ?_⟩
          rfl
        simp only [decide_eq_false_iff_not] at hq14
        (exfalso; omega)
      simp only [decide_eq_false_iff_not] at hq13
      (exfalso; omega)
  have hpm : p = m := by omega
  subst hpm
  refine xe0 [4, 5, 7, 9, 33, 34, 35, 36] [7, 9] (by kernel_rfl) ?_
  refine AWP.seq ?_
  refine AWP.cond (b := decide ((↑m : Int) < (↑m : Int))) (by kernel_rfl) (fun hq15 => ?_) (fun hq15 => ?_)
  · simp only [decide_eq_true_eq] at hq15
    (exfalso; omega)
  simp only [decide_eq_false_iff_not] at hq15
  refine AWP.exit ?_
  refine xe0 [4] [] (by kernel_rfl) ?_
  refine AWP.ret ?_
  refine ⟨Or.inr rfl, Eq.trans (b := some ([], vb true)) (by kernel_rfl) ?_⟩
  rfl
end Go.Proofs.Ytlfjnkobnkfioaa
