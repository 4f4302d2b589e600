/- Chapter 16: the rules that may be. -/
import Derived.Test.YtlfjnkobnkfioaaRg
import Derived.Test.YtlfjnkobnkfioaaMonD
namespace Go.Proofs.Ytlfjnkobnkfioaa
open Go.Ab
set_option linter.unusedSimpArgs false
set_option linter.unusedVariables false
set_option maxHeartbeats 8000000
set_option maxRecDepth 100000
/-- The rows of the rules that may be, sixteen at most. rt: which may be. -/
def kp (xs : List V) (rt : Nat → Bool) : Nat → List (List V)
  | 0 => []
  | i + 1 => if (kp xs rt i).length < 16 ∧ rt i = true then kp xs rt i ++ [(xs.drop (i * 11)).take 11] else kp xs rt i
theorem kp_le (xs : List V) (rt : Nat → Bool) : ∀ i, (kp xs rt i).length ≤ 16
  | 0 => by simp [kp]
  | i + 1 => by
    have := kp_le xs rt i
    unfold kp
    split
    · rw [List.length_append]; simp; omega
    · exact this
theorem con_rules1 (xs : List V) (n : Nat) (hn : n ≤ 9223372036854775807) (rt : Nat → Bool) (A : List V) (k : Nat) (hA : (kp xs rt n).flatten = A) (hk : (kp xs rt n).length = k)
    (hx : ∀ i : Nat, i < n → ∃ (kd pa lo hi ma wa rp ev lv un : Int) (en : Bool) (r : List V), xs.drop (i * 11) = u8 kd :: i64 pa :: i32 lo :: i32 hi :: u32 ma :: u32 wa :: u8 rp :: u8 ev :: u8 lv :: i64 un :: vb en :: r ∧ mrt kd pa lo hi rp lv un = rt i ∧ 0 ≤ rp ∧ rp < 256) (Bf : Nat → List V) (hB0 : Bf 0 = []) (hBn : ∀ i < n, ∀ (kd pa lo hi ma wa rp ev lv un : Int) (en : Bool) (r : List V), xs.drop (i * 11) = u8 kd :: i64 pa :: i32 lo :: i32 hi :: u32 ma :: u32 wa :: u8 rp :: u8 ev :: u8 lv :: i64 un :: vb en :: r → Bf (i + 1) = if (kp xs rt i).length < 16 ∧ rt i = true then Bf i ++ [u8 kd, i64 pa, i32 lo, i32 hi, u32 ma, u32 wa, i64 rp, vb en, i64 0, .val (.slice none 0 0), i32 0, vb false] else Bf i) :
    Con Try.prog 21 [] [.vs xs n] [(4, ⟨A, true, 0, some (27, 11)⟩), (5, ⟨Bf n, true, 0, some (106, 12)⟩)] (.tup [.sl 4 0 k, .sl 5 0 k]) := by
  refine Con.of (C := ⟨Try.prog, tc, Try.f21.ntmps⟩) [4, 5] tcok Try.func21 rfl rfl (by kernel_rfl) (by kernel_rfl) ?_
  refine xe0 [0, 2, 3] [2, 3] (by kernel_rfl) ?_
  refine xe0 [0, 2, 3, 4] [2, 3, 4] (by kernel_rfl) ?_
  refine xe0 [0, 2, 3, 4, 5] [2, 3, 4, 5] (by kernel_rfl) ?_
  refine AWP.seq ?_
  refine xe0 [2, 3, 4, 5, 8, 9, 10] [2, 3, 4, 5] (by kernel_rfl) ?_
  refine AWP.block ?_
  refine AWP.loopI [2, 3, 4, 5, 8, 9, 10] [2, 3, 4, 5] (fun N s' => ∃ (i : Int) (q : Nat) (L M : List V), s' = St.mk [(2, T.plain (V.sl 2 0 0)), (3, T.plain (V.sl 3 0 0)), (4, T.plain (V.sl 4 0 q)), (5, T.plain (V.sl 5 0 q)), (8, T.plain (V.vs xs n)), (9, T.plain (i64 (n : Int))), (10, T.plain (i64 i))] [(2, Blk.mk [] true 0 (some (27, 11))), (3, Blk.mk [] true 0 (some (106, 12))), (4, Blk.mk L true 0 (some (27, 11))), (5, Blk.mk M true 0 (some (106, 12)))] ∧ L = (kp xs rt i.toNat).flatten ∧ M = Bf i.toNat ∧ q = (kp xs rt i.toNat).length ∧ L.length = q * 11 ∧ M.length = q * 12 ∧ 0 ≤ i ∧ i ≤ n ∧ (N : Int) = n - i) n (s0 := St.mk [(2, T.plain (V.sl 2 0 0)), (3, T.plain (V.sl 3 0 0)), (4, T.plain (V.sl 4 0 0)), (5, T.plain (V.sl 5 0 0)), (8, T.plain (V.vs xs n)), (9, T.plain (i64 (n : Int))), (10, T.plain (i64 0))] [(2, Blk.mk [] true 0 (some (27, 11))), (3, Blk.mk [] true 0 (some (106, 12))), (4, Blk.mk [] true 0 (some (27, 11))), (5, Blk.mk [] true 0 (some (106, 12)))]) (by kernel_rfl) ?_ ?_
  · exact ⟨0, 0, [], [], rfl, rfl, hB0.symm, rfl, rfl, rfl, by omega, by omega, by omega⟩
  rintro N s' ⟨i, q, L, M, rfl, hL, hM, hq, hLl, hMl, hi, hi2, hN⟩
  have hq16 : q ≤ 16 := by rw [hq]; exact kp_le xs rt _
  by_cases hlt : i < n
  · obtain ⟨kd, pa, lo, hi', ma, wa, rp, ev, lv, un, en, r, kx, hr, hrp1, hrp2⟩ := hx i.toNat (by omega)
    have c := con_rright kd pa lo hi' ma wa rp ev lv un en
    rw [hr] at c
    have hb := hBn i.toNat (by omega) kd pa lo hi' ma wa rp ev lv un en r kx
    have hs1 : (i + 1).toNat = i.toNat + 1 := by omega
    have hkn : kp xs rt (i.toNat + 1) = if (kp xs rt i.toNat).length < 16 ∧ rt i.toNat = true then kp xs rt i.toNat ++ [(xs.drop (i.toNat * 11)).take 11] else kp xs rt i.toNat := rfl
    rw [kx] at hkn
    by_cases h16 : q < 16
    · cases hrt : rt i.toNat with
      | true =>
        rw [hrt] at c
        rw [hrt, if_pos ⟨by omega, rfl⟩] at hkn hb
        refine xe0 [2, 3, 4, 5, 8, 9, 10, 11] [2, 3, 4, 5] (by kernel_rfl) ?_
        refine AWP.seq ?_
        refine AWP.cond (b := decide (i < (↑n : Int))) (by kernel_rfl) (fun hq0 => ?_) (fun hq0 => ?_)
        · simp only [decide_eq_true_eq] at hq0
          refine AWP.skip ?_
          refine AWP.seq ?_
          refine AWP.block ?_
          refine xe1 (os := [(0 : Int) ≤ i ∧ i < (↑n : Int), V.vp (List.drop (Int.toNat i * 11) xs) = V.vp (u8 kd :: i64 pa :: i32 lo :: i32 hi' :: u32 ma :: u32 wa :: u8 rp :: u8 ev :: u8 lv :: i64 un :: vb en :: r)]) [(0, ⟨some (V.vp (u8 kd :: i64 pa :: i32 lo :: i32 hi' :: u32 ma :: u32 wa :: u8 rp :: u8 ev :: u8 lv :: i64 un :: vb en :: r)), none⟩)] [2, 3, 4, 5, 7, 8, 9, 10] [2, 3, 4, 5, 7] (by kernel_rfl) ⟨(by omega), (congrArg V.vp kx), trivial⟩ ?_
          refine xe1 (os := [decide ((↑q : Int) < (16 : Int)) = true → Con Try.prog (12 : Nat) [] [V.agg true [u8 kd, i64 pa, i32 lo, i32 hi', u32 ma, u32 wa, u8 rp, u8 ev, u8 lv, i64 un, vb en]] [] (vb true) ∧ True]) [(5, ⟨none, some ⟨vb true, [], []⟩⟩)] [2, 3, 4, 5, 7, 8, 9, 10, 20] [2, 3, 4, 5, 7] (by kernel_rfl) ⟨(fun _ => ⟨(c ), trivial⟩), trivial⟩ ?_
          refine AWP.cond (b := decide ((↑q : Int) < 16) && true) (by kernel_rfl) (fun hq1 => ?_) (fun hq1 => ?_)
          · simp only [Bool.and_true, decide_eq_true_eq] at hq1
            refine xe1 (os := [(11 : Nat) ≤ (11 : Nat), q * (11 : Nat) = List.length L, q + (1 : Nat) ≤ (9223372036854775807 : Nat), (q + (1 : Nat)) * (56 : Nat) ≤ (140737488355328 : Nat), L ++ List.take ((1 : Nat) * (11 : Nat)) (List.drop (0 : Nat) [u8 kd, i64 pa, i32 lo, i32 hi', u32 ma, u32 wa, u8 rp, u8 ev, u8 lv, i64 un, vb en]) = L ++ [u8 kd, i64 pa, i32 lo, i32 hi', u32 ma, u32 wa, u8 rp, u8 ev, u8 lv, i64 un, vb en], q + (1 : Nat) = q + (1 : Nat)]) [(3, ⟨some (V.tup [V.agg true (L ++ [u8 kd, i64 pa, i32 lo, i32 hi', u32 ma, u32 wa, u8 rp, u8 ev, u8 lv, i64 un, vb en]), V.sl 0 0 (q + 1)]), none⟩)] [2, 3, 4, 5, 7, 8, 9, 10] [2, 3, 4, 5, 7] (by kernel_rfl) ⟨(by omega), (by omega), (by omega), (by omega), (by first | rfl | (simp only [u8s_drop, u8s_take, List.drop_zero, Nat.mul_one, Nat.one_mul, u8s_app, List.take_length, List.nil_append, List.append_nil]; done) | (simp [u8s]; done) | (simp [u8s]; omega)), (by omega), trivial⟩ ?_
            refine AWP.region tcok hmix [(5, ⟨some (i64 rp), none⟩), (10, ⟨some (V.tup [V.agg true (M ++ [u8 kd, i64 pa, i32 lo, i32 hi', u32 ma, u32 wa, i64 rp, vb en, i64 0, V.val (Value.slice none 0 0), i32 0, vb false]), V.sl 0 0 (q + 1)]), none⟩)] (os := [i64 (IntKind.wrap IntKind.i64 rp) = i64 rp, (12 : Nat) ≤ (12 : Nat), q * (12 : Nat) = List.length M, q + (1 : Nat) ≤ (9223372036854775807 : Nat), (q + (1 : Nat)) * (88 : Nat) ≤ (140737488355328 : Nat), M ++ List.take ((1 : Nat) * (12 : Nat)) (List.drop (0 : Nat) [u8 kd, i64 pa, i32 lo, i32 hi', u32 ma, u32 wa, i64 rp, vb en, i64 (0 : Int), V.val (Value.slice none (0 : Nat) (0 : Nat)), i32 (0 : Int), vb false]) = M ++ [u8 kd, i64 pa, i32 lo, i32 hi', u32 ma, u32 wa, i64 rp, vb en, i64 (0 : Int), V.val (Value.slice none (0 : Nat) (0 : Nat)), i32 (0 : Int), vb false], q + (1 : Nat) = q + (1 : Nat)]) (sf := St.mk [(2, tp (V.sl 2 0 0)), (3, tp (V.sl 3 0 0)), (4, tp (V.sl 4 0 (q + 1))), (5, tp (V.sl 5 0 (q + 1))), (7, tp (V.ptr 7 0)), (8, tp (V.vs xs n)), (9, tp (i64 (↑n : Int))), (10, tp (i64 i)), (25, tp V.top), (26, tp (V.ptr 7 0)), (27, tp (V.agg true [u8 kd, i64 pa, i32 lo, i32 hi', u32 ma, u32 wa])), (28, tp (V.ptr 7 6)), (29, tp (u8 rp)), (30, tp (i64 rp)), (31, tp (V.ptr 7 10)), (32, tp (vb en)), (33, tp (V.agg true [u8 kd, i64 pa, i32 lo, i32 hi', u32 ma, u32 wa, i64 rp, vb en, i64 0, V.val (Value.slice none 0 0), i32 0, vb false])), (34, tp (V.sl 34 0 1)), (35, tp (V.sl 5 0 (q + 1)))] [(2, Blk.mk [] true 0 (some (27, 11))), (3, Blk.mk [] true 0 (some (106, 12))), (4, Blk.mk (L ++ [u8 kd, i64 pa, i32 lo, i32 hi', u32 ma, u32 wa, u8 rp, u8 ev, u8 lv, i64 un, vb en]) true 0 (some (27, 11))), (5, Blk.mk (M ++ [u8 kd, i64 pa, i32 lo, i32 hi', u32 ma, u32 wa, i64 rp, vb en, i64 0, V.val (Value.slice none 0 0), i32 0, vb false]) true 0 (some (106, 12))), (7, Blk.mk [u8 kd, i64 pa, i32 lo, i32 hi', u32 ma, u32 wa, u8 rp, u8 ev, u8 lv, i64 un, vb en] true 11 none), (34, Blk.mk [u8 kd, i64 pa, i32 lo, i32 hi', u32 ma, u32 wa, i64 rp, vb en, i64 0, V.val (Value.slice none 0 0), i32 0, vb false] true 0 (some (106, 12)))]) (by kernel_rfl) ⟨(wr_i64 (by omega) (by omega)), (by omega), (by omega), (by omega), (by omega), (by first | rfl | (simp only [u8s_drop, u8s_take, List.drop_zero, Nat.mul_one, Nat.one_mul, u8s_app, List.take_length, List.nil_append, List.append_nil]; done) | (simp [u8s]; done) | (simp [u8s]; omega)), (by omega), trivial⟩ ?_
            refine AWP.keep' [2, 3, 4, 5, 8, 9, 10] [2, 3, 4, 5] (sf := St.mk [(2, tp (V.sl 2 0 0)), (3, tp (V.sl 3 0 0)), (4, tp (V.sl 4 0 (q + 1))), (5, tp (V.sl 5 0 (q + 1))), (8, tp (V.vs xs n)), (9, tp (i64 (↑n : Int))), (10, tp (i64 i))] [(2, Blk.mk [] true 0 (some (27, 11))), (3, Blk.mk [] true 0 (some (106, 12))), (4, Blk.mk (L ++ [u8 kd, i64 pa, i32 lo, i32 hi', u32 ma, u32 wa, u8 rp, u8 ev, u8 lv, i64 un, vb en]) true 0 (some (27, 11))), (5, Blk.mk (M ++ [u8 kd, i64 pa, i32 lo, i32 hi', u32 ma, u32 wa, i64 rp, vb en, i64 0, V.val (Value.slice none 0 0), i32 0, vb false]) true 0 (some (106, 12)))]) (by kernel_rfl) ?_
            refine AWP.region tcok hmix [(0, ⟨some (i64 (i + 1)), none⟩)] (os := [i64 (IntKind.wrap IntKind.i64 (i + 1)) = i64 (i + 1)]) (sf := St.mk [(2, tp (V.sl 2 0 0)), (3, tp (V.sl 3 0 0)), (4, tp (V.sl 4 0 (q + 1))), (5, tp (V.sl 5 0 (q + 1))), (8, tp (V.vs xs n)), (9, tp (i64 (↑n : Int))), (10, tp (i64 (i + 1))), (36, tp (i64 (i + 1)))] [(2, Blk.mk [] true 0 (some (27, 11))), (3, Blk.mk [] true 0 (some (106, 12))), (4, Blk.mk (L ++ [u8 kd, i64 pa, i32 lo, i32 hi', u32 ma, u32 wa, u8 rp, u8 ev, u8 lv, i64 un, vb en]) true 0 (some (27, 11))), (5, Blk.mk (M ++ [u8 kd, i64 pa, i32 lo, i32 hi', u32 ma, u32 wa, i64 rp, vb en, i64 0, V.val (Value.slice none 0 0), i32 0, vb false]) true 0 (some (106, 12)))]) (by kernel_rfl) ⟨(wr_i64 (by omega) (by omega)), trivial⟩ ?_
            refine ⟨St.mk [(2, tp (V.sl 2 0 0)), (3, tp (V.sl 3 0 0)), (4, tp (V.sl 4 0 (q + 1))), (5, tp (V.sl 5 0 (q + 1))), (8, tp (V.vs xs n)), (9, tp (i64 (↑n : Int))), (10, tp (i64 (i + 1)))] [(2, Blk.mk [] true 0 (some (27, 11))), (3, Blk.mk [] true 0 (some (106, 12))), (4, Blk.mk (L ++ [u8 kd, i64 pa, i32 lo, i32 hi', u32 ma, u32 wa, u8 rp, u8 ev, u8 lv, i64 un, vb en]) true 0 (some (27, 11))), (5, Blk.mk (M ++ [u8 kd, i64 pa, i32 lo, i32 hi', u32 ma, u32 wa, i64 rp, vb en, i64 0, V.val (Value.slice none 0 0), i32 0, vb false]) true 0 (some (106, 12)))], by kernel_rfl, ?_⟩
            (exact ⟨(n - (i + 1)).toNat, (by omega), i + 1, q + 1, _, _, rfl, (by rw [hs1, hkn, hL, List.flatten_append]; rfl), (by rw [hs1, hb, hM]), (by rw [hs1, hkn, List.length_append, ← hq]; rfl), (by rw [List.length_append, hLl]; show q * 11 + 11 = _; omega), (by rw [List.length_append, hMl]; show q * 12 + 12 = _; omega), (by omega), (by omega), (by omega)⟩)
          simp only [Bool.and_true, decide_eq_false_iff_not] at hq1
          (exfalso; omega)
        simp only [decide_eq_false_iff_not] at hq0
        (exfalso; omega)
      | false =>
        rw [hrt] at c
        rw [hrt, if_neg (by simp)] at hkn hb
        refine xe0 [2, 3, 4, 5, 8, 9, 10, 11] [2, 3, 4, 5] (by kernel_rfl) ?_
        refine AWP.seq ?_
        refine AWP.cond (b := decide (i < (↑n : Int))) (by kernel_rfl) (fun hq2 => ?_) (fun hq2 => ?_)
        · simp only [decide_eq_true_eq] at hq2
          refine AWP.skip ?_
          refine AWP.seq ?_
          refine AWP.block ?_
          refine xe1 (os := [(0 : Int) ≤ i ∧ i < (↑n : Int), V.vp (List.drop (Int.toNat i * 11) xs) = V.vp (u8 kd :: i64 pa :: i32 lo :: i32 hi' :: u32 ma :: u32 wa :: u8 rp :: u8 ev :: u8 lv :: i64 un :: vb en :: r)]) [(0, ⟨some (V.vp (u8 kd :: i64 pa :: i32 lo :: i32 hi' :: u32 ma :: u32 wa :: u8 rp :: u8 ev :: u8 lv :: i64 un :: vb en :: r)), none⟩)] [2, 3, 4, 5, 7, 8, 9, 10] [2, 3, 4, 5, 7] (by kernel_rfl) ⟨(by omega), (congrArg V.vp kx), trivial⟩ ?_
          refine xe1 (os := [decide ((↑q : Int) < (16 : Int)) = true → Con Try.prog (12 : Nat) [] [V.agg true [u8 kd, i64 pa, i32 lo, i32 hi', u32 ma, u32 wa, u8 rp, u8 ev, u8 lv, i64 un, vb en]] [] (vb false) ∧ True]) [(5, ⟨none, some ⟨vb false, [], []⟩⟩)] [2, 3, 4, 5, 7, 8, 9, 10, 20] [2, 3, 4, 5, 7] (by kernel_rfl) ⟨(fun _ => ⟨(c ), trivial⟩), trivial⟩ ?_
          refine AWP.cond (b := decide ((↑q : Int) < 16) && false) (by kernel_rfl) (fun hq3 => ?_) (fun hq3 => ?_)
          · simp only [decide_eq_true_eq, Bool.and_eq_true] at hq3
            (simp [bl] at hq3; done)
          simp only [decide_eq_false_iff_not, Bool.and_eq_false_iff] at hq3
          refine AWP.skip ?_
          refine AWP.region tcok hmix [(0, ⟨some (i64 (i + 1)), none⟩)] (os := [i64 (IntKind.wrap IntKind.i64 (i + 1)) = i64 (i + 1)]) (sf := St.mk [(2, tp (V.sl 2 0 0)), (3, tp (V.sl 3 0 0)), (4, tp (V.sl 4 0 q)), (5, tp (V.sl 5 0 q)), (7, tp (V.ptr 7 0)), (8, tp (V.vs xs n)), (9, tp (i64 (↑n : Int))), (10, tp (i64 (i + 1))), (20, tp (vb (decide ((↑q : Int) < 16) && false))), (36, tp (i64 (i + 1)))] [(2, Blk.mk [] true 0 (some (27, 11))), (3, Blk.mk [] true 0 (some (106, 12))), (4, Blk.mk L true 0 (some (27, 11))), (5, Blk.mk M true 0 (some (106, 12))), (7, Blk.mk [u8 kd, i64 pa, i32 lo, i32 hi', u32 ma, u32 wa, u8 rp, u8 ev, u8 lv, i64 un, vb en] true 11 none)]) (by kernel_rfl) ⟨(wr_i64 (by omega) (by omega)), trivial⟩ ?_
          refine ⟨St.mk [(2, tp (V.sl 2 0 0)), (3, tp (V.sl 3 0 0)), (4, tp (V.sl 4 0 q)), (5, tp (V.sl 5 0 q)), (8, tp (V.vs xs n)), (9, tp (i64 (↑n : Int))), (10, tp (i64 (i + 1)))] [(2, Blk.mk [] true 0 (some (27, 11))), (3, Blk.mk [] true 0 (some (106, 12))), (4, Blk.mk L true 0 (some (27, 11))), (5, Blk.mk M true 0 (some (106, 12)))], by kernel_rfl, ?_⟩
          (exact ⟨(n - (i + 1)).toNat, (by omega), i + 1, q, L, M, rfl, (by rw [hs1, hkn, hL]), (by rw [hs1, hb, hM]), (by rw [hs1, hkn, hq]), hLl, hMl, (by omega), (by omega), (by omega)⟩)
        simp only [decide_eq_false_iff_not] at hq2
        (exfalso; omega)
    · rw [if_neg (by omega)] at hkn hb
      refine xe0 [2, 3, 4, 5, 8, 9, 10, 11] [2, 3, 4, 5] (by kernel_rfl) ?_
      refine AWP.seq ?_
      refine AWP.cond (b := decide (i < (↑n : Int))) (by kernel_rfl) (fun hq4 => ?_) (fun hq4 => ?_)
      · simp only [decide_eq_true_eq] at hq4
        refine AWP.skip ?_
        refine AWP.seq ?_
        refine AWP.block ?_
        refine xe1 (os := [(0 : Int) ≤ i ∧ i < (↑n : Int), V.vp (List.drop (Int.toNat i * 11) xs) = V.vp (u8 kd :: i64 pa :: i32 lo :: i32 hi' :: u32 ma :: u32 wa :: u8 rp :: u8 ev :: u8 lv :: i64 un :: vb en :: r)]) [(0, ⟨some (V.vp (u8 kd :: i64 pa :: i32 lo :: i32 hi' :: u32 ma :: u32 wa :: u8 rp :: u8 ev :: u8 lv :: i64 un :: vb en :: r)), none⟩)] [2, 3, 4, 5, 7, 8, 9, 10] [2, 3, 4, 5, 7] (by kernel_rfl) ⟨(by omega), (congrArg V.vp kx), trivial⟩ ?_
        refine xe1 (os := [decide ((↑q : Int) < (16 : Int)) = true → Con Try.prog (12 : Nat) [] [V.agg true [u8 kd, i64 pa, i32 lo, i32 hi', u32 ma, u32 wa, u8 rp, u8 ev, u8 lv, i64 un, vb en]] [] (vb (rt (Int.toNat i))) ∧ True]) [(5, ⟨none, some ⟨vb (rt (Int.toNat i)), [], []⟩⟩)] [2, 3, 4, 5, 7, 8, 9, 10, 20] [2, 3, 4, 5, 7] (by kernel_rfl) ⟨(fun _ => ⟨(c ), trivial⟩), trivial⟩ ?_
        refine AWP.cond (b := decide ((↑q : Int) < 16) && rt (Int.toNat i)) (by kernel_rfl) (fun hq5 => ?_) (fun hq5 => ?_)
        · simp only [decide_eq_true_eq, Bool.and_eq_true] at hq5
          (exfalso; omega)
        simp only [decide_eq_false_iff_not, Bool.and_eq_false_iff] at hq5
        refine AWP.skip ?_
        refine AWP.region tcok hmix [(0, ⟨some (i64 (i + 1)), none⟩)] (os := [i64 (IntKind.wrap IntKind.i64 (i + 1)) = i64 (i + 1)]) (sf := St.mk [(2, tp (V.sl 2 0 0)), (3, tp (V.sl 3 0 0)), (4, tp (V.sl 4 0 q)), (5, tp (V.sl 5 0 q)), (7, tp (V.ptr 7 0)), (8, tp (V.vs xs n)), (9, tp (i64 (↑n : Int))), (10, tp (i64 (i + 1))), (20, tp (vb (decide ((↑q : Int) < 16) && rt (Int.toNat i)))), (36, tp (i64 (i + 1)))] [(2, Blk.mk [] true 0 (some (27, 11))), (3, Blk.mk [] true 0 (some (106, 12))), (4, Blk.mk L true 0 (some (27, 11))), (5, Blk.mk M true 0 (some (106, 12))), (7, Blk.mk [u8 kd, i64 pa, i32 lo, i32 hi', u32 ma, u32 wa, u8 rp, u8 ev, u8 lv, i64 un, vb en] true 11 none)]) (by kernel_rfl) ⟨(wr_i64 (by omega) (by omega)), trivial⟩ ?_
        refine ⟨St.mk [(2, tp (V.sl 2 0 0)), (3, tp (V.sl 3 0 0)), (4, tp (V.sl 4 0 q)), (5, tp (V.sl 5 0 q)), (8, tp (V.vs xs n)), (9, tp (i64 (↑n : Int))), (10, tp (i64 (i + 1)))] [(2, Blk.mk [] true 0 (some (27, 11))), (3, Blk.mk [] true 0 (some (106, 12))), (4, Blk.mk L true 0 (some (27, 11))), (5, Blk.mk M true 0 (some (106, 12)))], by kernel_rfl, ?_⟩
        (exact ⟨(n - (i + 1)).toNat, (by omega), i + 1, q, L, M, rfl, (by rw [hs1, hkn, hL]), (by rw [hs1, hb, hM]), (by rw [hs1, hkn, hq]), hLl, hMl, (by omega), (by omega), (by omega)⟩)
      simp only [decide_eq_false_iff_not] at hq4
      (exfalso; omega)
  have hin : i = n := by omega
  subst hin
  rw [Int.toNat_natCast] at hL hM hq
  rw [hA] at hL
  rw [hk] at hq
  subst hL hM hq
  refine xe0 [2, 3, 4, 5, 8, 9, 10, 11] [2, 3, 4, 5] (by kernel_rfl) ?_
  refine AWP.seq ?_
  refine AWP.cond (b := decide ((↑n : Int) < (↑n : Int))) (by kernel_rfl) (fun hq6 => ?_) (fun hq6 => ?_)
  · simp only [decide_eq_true_eq] at hq6
    (exfalso; omega)
  simp only [decide_eq_false_iff_not] at hq6
  refine AWP.exit ?_
  refine AWP.seq ?_
  refine AWP.keep' [4, 5] [4, 5] (sf := St.mk [(4, tp (V.sl 4 0 q)), (5, tp (V.sl 5 0 q))] [(4, Blk.mk L true 0 (some (27, 11))), (5, Blk.mk (Bf n) true 0 (some (106, 12)))]) (by kernel_rfl) ?_
  refine xg0 [2, 3] [4, 5] (by kernel_rfl) ?_
  refine AWP.ret ?_
  refine ⟨Or.inr rfl, Eq.trans (b := some ([(4, Blk.mk L true 0 (some (27, 11))), (5, Blk.mk (Bf n) true 0 (some (106, 12)))], V.tup [V.sl 4 0 q, V.sl 5 0 q])) (by kernel_rfl) ?_⟩
  first | rfl | (exfalso; omega)
end Go.Proofs.Ytlfjnkobnkfioaa
