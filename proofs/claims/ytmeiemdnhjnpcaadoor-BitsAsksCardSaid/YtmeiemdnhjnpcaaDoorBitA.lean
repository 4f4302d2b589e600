/- Sets of units: what each function gives. -/
import Derived.Test.YtmeiemdnhjnpcaaDoorRg
import Derived.Test.YtmeiemdnhjnpcaaDoorTc
import Derived.Test.YtmeiemdnhjnpcaaDoorAb26
namespace Go.Proofs.YtmeiemdnhjnpcaaDoor
open Go.Ab
set_option linter.unusedSimpArgs false
set_option linter.unusedVariables false
set_option maxHeartbeats 4000000
set_option maxRecDepth 100000
/-- The number in a value. -/
def iOf : V → Int
  | .val (.int _ n) => n
  | _ => 0
def I64L (xs : List V) : Prop := ∀ x ∈ xs, ∃ k : Int, x = i64 k ∧ -9223372036854775808 ≤ k ∧ k ≤ 9223372036854775807
theorem i64_at {xs : List V} (h : I64L xs) (i : Nat) : ∃ (x : Int) (r : List V), (-9223372036854775808 ≤ x ∧ x ≤ 9223372036854775807) ∧ (i < xs.length → xs.drop (i * 1) = i64 x :: r ∧ xs.take (i + 1) = xs.take i ++ [i64 x]) := by
  by_cases hi : i < xs.length
  · obtain ⟨k, hk, hb⟩ := h xs[i] (List.getElem_mem hi)
    refine ⟨k, xs.drop (i + 1), hb, fun _ => ⟨?_, ?_⟩⟩
    · rw [Nat.mul_one, List.drop_eq_getElem_cons hi, hk]
    · rw [List.take_add_one, List.getElem?_eq_getElem hi, hk]
      rfl
  · exact ⟨0, [], by omega, fun h => absurd h hi⟩
theorem bv16_nat (x : BitVec 16) : BitVec.ofInt 16 (x.toNat : Int) = x := by
  apply BitVec.eq_of_toNat_eq
  rw [BitVec.toNat_ofInt]
  have := x.isLt
  rw [← Int.natCast_emod, Int.toNat_natCast, Nat.mod_eq_of_lt this]
theorem wrap16 (x : BitVec 16) : IntKind.wrap .u16 (x.toNat : Int) = (x.toNat : Int) := by
  have hb := x.isLt
  show (x.toNat : Int) % 65536 = _
  omega
theorem iand16 (a b : Int) : iand .u16 a b = ((BitVec.ofInt 16 a &&& BitVec.ofInt 16 b).toNat : Int) := wrap16 _
theorem ior16 (a b : Int) : ior .u16 a b = ((BitVec.ofInt 16 a ||| BitVec.ofInt 16 b).toNat : Int) := wrap16 _
theorem iandNot16 (a b : Int) : iandNot .u16 a b = ((BitVec.ofInt 16 a &&& ~~~(BitVec.ofInt 16 b)).toNat : Int) := wrap16 _
/-- A unit is in a set. -/
def bitB (s : Int) (i : Nat) : Bool := (BitVec.ofInt 16 s).getLsbD i
theorem u16_bv (x : Int) (h : 0 ≤ x ∧ x < 65536) : ((BitVec.ofInt 16 x).toNat : Int) = x := by
  rw [BitVec.toNat_ofInt]
  have : x % ((2 ^ 16 : Nat) : Int) = x := Int.emod_eq_of_lt h.1 (by simpa using h.2)
  rw [this]
  exact Int.toNat_of_nonneg h.1
theorem bitB_at {x : Int} (h : 0 ≤ x ∧ x < 65536) (i : Nat) : bitB x i = decide (x / 2 ^ i % 2 = 1) := by
  have e := u16_bv x h
  unfold bitB
  rw [← BitVec.testBit_toNat, Nat.testBit_eq_decide_div_mod_eq]
  apply Bool.eq_iff_iff.2
  simp only [decide_eq_true_eq]
  generalize (BitVec.ofInt 16 x).toNat = m at e
  subst e
  have : ((m / 2 ^ i % 2 : Nat) : Int) = (m : Int) / 2 ^ i % 2 := by simp
  omega
theorem tshr16 {x i : Int} (hx : 0 ≤ x) (hi : 0 ≤ i ∧ i < 16) : Int.tmod (ishr .u16 x i) 2 = x / 2 ^ i.toNat % 2 := by
  unfold ishr
  rw [show min i.toNat (IntKind.bits .u16) = i.toNat from Nat.min_eq_left (by show i.toNat ≤ 16; omega), Int.fdiv_eq_ediv_of_nonneg _ (Int.pow_nonneg (by omega))]
  exact Int.tmod_eq_emod_of_nonneg (Int.ediv_nonneg hx (Int.pow_nonneg (by omega)))
theorem bitB_ior (a b : Int) (i : Nat) : bitB (ior .u16 a b) i = (bitB a i || bitB b i) := by
  unfold bitB
  rw [ior16, bv16_nat, BitVec.getLsbD_or]
theorem bitB_iand (a b : Int) (i : Nat) : bitB (iand .u16 a b) i = (bitB a i && bitB b i) := by
  unfold bitB
  rw [iand16, bv16_nat, BitVec.getLsbD_and]
theorem bitB_iandNot (a b : Int) (i : Nat) (hi : i < 16) : bitB (iandNot .u16 a b) i = (bitB a i && !bitB b i) := by
  unfold bitB
  rw [iandNot16, bv16_nat, BitVec.getLsbD_and, BitVec.getLsbD_not, decide_eq_true hi, Bool.true_and]
def one (i : Int) : Int := if 0 ≤ i ∧ i < 16 then ishl .u16 1 i else 0
theorem con_one (i : Int) : Con Tryd.prog 26 [] [i64 i] [] (u16 (one i)) := by
  refine Con.of (C := ⟨Tryd.prog, tc, Tryd.f26.ntmps⟩) [] tcok Tryd.func26 rfl rfl (by kernel_rfl) (by kernel_rfl) ?_
  refine xe0 [0, 2] [] (by kernel_rfl) ?_
  refine AWP.seq ?_
  refine xe0 [0, 2, 8] [] (by kernel_rfl) ?_
  refine AWP.cond (b := decide (i < 0) || decide (i ≥ 16)) (by kernel_rfl) (fun hq0 => ?_) (fun hq0 => ?_)
  · simp only [decide_eq_true_eq, Bool.or_eq_true] at hq0
    refine xe0 [0, 2] [] (by kernel_rfl) ?_
    refine AWP.ret ?_
    refine ⟨Or.inr rfl, Eq.trans (b := some ([], u16 0)) (by kernel_rfl) ?_⟩
    first | (simp only [one]; rw [if_neg (by omega)]; done) | (simp only [one]; rw [if_pos (by omega)]; done)
  simp only [decide_eq_false_iff_not, Bool.or_eq_false_iff] at hq0
  refine AWP.skip ?_
  refine xe1 (os := [(0 : Int) ≤ i, u16 (ishl IntKind.u16 1 i) = u16 (ishl IntKind.u16 1 i)]) [(1, ⟨some (u16 (ishl IntKind.u16 1 i)), none⟩)] [2] [] (by kernel_rfl) ⟨(by omega), rfl, trivial⟩ ?_
  refine AWP.ret ?_
  refine ⟨Or.inr rfl, Eq.trans (b := some ([], u16 (ishl IntKind.u16 1 i))) (by kernel_rfl) ?_⟩
  first | (simp only [one]; rw [if_neg (by omega)]; done) | (simp only [one]; rw [if_pos (by omega)]; done)
def has (s i : Int) : Bool := iand .u16 s (one i) != 0
theorem con_has (s i : Int) : Con Tryd.prog 11 [] [u16 s, i64 i] [] (vb (has s i)) := by
  refine Con.of (C := ⟨Tryd.prog, tc, Tryd.f11.ntmps⟩) [] tcok Tryd.func11 rfl rfl (by kernel_rfl) (by kernel_rfl) ?_
  refine xe0 [0, 1, 4] [] (by kernel_rfl) ?_
  refine xe1 [(2, ⟨none, some ⟨u16 (one i), [], []⟩⟩)] [4] [] (by kernel_rfl) (AllP.c (con_one (i)) AllP.n) ?_
  refine AWP.ret ?_
  refine ⟨Or.inr rfl, Eq.trans (b := some ([], vb (iand IntKind.u16 s (one i) != 0))) (by kernel_rfl) ?_⟩
  rfl
def wth (s : Int) (xs : List V) : Int := xs.foldl (fun s x => ior .u16 s (one (iOf x))) s
theorem wth_next {s : Int} {xs : List V} {i : Nat} {x : Int} (h : xs.take (i + 1) = xs.take i ++ [i64 x]) : ior .u16 (wth s (xs.take i)) (one x) = wth s (xs.take (i + 1)) := by
  rw [h]
  simp [wth, List.foldl_append, iOf]
theorem con_with (s : Int) (xs : List V) (n : Nat) (hx : I64L xs) (hn : xs.length = n) (hlen : n ≤ 9223372036854775807) : Con Tryd.prog 10 [] [u16 s, .vs xs n] [] (u16 (wth s xs)) := by
  refine Con.of (C := ⟨Tryd.prog, tc, Tryd.f10.ntmps⟩) [] tcok Tryd.func10 rfl rfl (by kernel_rfl) (by kernel_rfl) ?_
  refine xe0 [0, 1, 4] [] (by kernel_rfl) ?_
  refine AWP.seq ?_
  refine xe0 [0, 4, 7, 8, 9] [] (by kernel_rfl) ?_
  refine AWP.block ?_
  refine AWP.loopI [0, 4, 7, 8, 9] [] (fun N st => ∃ (i z : Int), st = St.mk [(0, T.plain (u16 z)), (4, T.plain (u16 0)), (7, T.plain (V.vs xs n)), (8, T.plain (i64 n)), (9, T.plain (i64 i))] [] ∧ z = wth s (xs.take i.toNat) ∧ 0 ≤ i ∧ i ≤ n ∧ (N : Int) = n - i) n (s0 := St.mk [(0, T.plain (u16 s)), (4, T.plain (u16 0)), (7, T.plain (V.vs xs n)), (8, T.plain (i64 n)), (9, T.plain (i64 0))] []) (by kernel_rfl) ?_ ?_
  · exact ⟨0, s, rfl, rfl, by omega, by omega, by omega⟩
  rintro N st ⟨i, z, rfl, hz, hi, hi2, hN⟩
  obtain ⟨x, r, hxb, kx0⟩ := i64_at hx i.toNat
  have kx : i.toNat < n → xs.drop (i.toNat * 1) = i64 x :: r := fun h => (kx0 (by omega)).1
  refine xe0 [0, 4, 7, 8, 9, 10] [] (by kernel_rfl) ?_
  refine AWP.seq ?_
  refine AWP.cond (b := decide (i < (↑n : Int))) (by kernel_rfl) (fun hq1 => ?_) (fun hq1 => ?_)
  · simp only [decide_eq_true_eq] at hq1
    refine AWP.skip ?_
    refine AWP.seq ?_
    refine AWP.block ?_
    refine xe1 (os := [(0 : Int) ≤ i ∧ i < (↑n : Int), V.vp (List.drop (Int.toNat i * 1) xs) = V.vp (i64 x :: r)]) [(0, ⟨some (V.vp (i64 x :: r)), none⟩)] [0, 4, 6, 7, 8, 9] [] (by kernel_rfl) ⟨(by omega), (congrArg V.vp (kx (by omega))), trivial⟩ ?_
    refine AWP.region tcok hmix [(2, ⟨none, some ⟨u16 (one x), [], []⟩⟩)] (os := [Con Tryd.prog 26 [] [i64 x] [] (u16 (one x))]) (sf := St.mk [(0, tp (u16 (ior IntKind.u16 z (one x)))), (4, tp (u16 0)), (6, tp (i64 x)), (7, tp (V.vs xs n)), (8, tp (i64 (↑n : Int))), (9, tp (i64 i)), (13, tp (u16 z)), (14, tp (i64 x)), (15, tp (u16 (one x))), (16, tp (u16 (ior IntKind.u16 z (one x))))] []) (by kernel_rfl) ⟨(con_one (x)), trivial⟩ ?_
    refine AWP.keep' [0, 4, 7, 8, 9] [] (sf := St.mk [(0, tp (u16 (ior IntKind.u16 z (one x)))), (4, tp (u16 0)), (7, tp (V.vs xs n)), (8, tp (i64 (↑n : Int))), (9, tp (i64 i))] []) (by kernel_rfl) ?_
    refine AWP.region tcok hmix [(0, ⟨some (i64 (i + 1)), none⟩)] (os := [i64 (IntKind.wrap IntKind.i64 (i + 1)) = i64 (i + 1)]) (sf := St.mk [(0, tp (u16 (ior IntKind.u16 z (one x)))), (4, tp (u16 0)), (7, tp (V.vs xs n)), (8, tp (i64 (↑n : Int))), (9, tp (i64 (i + 1))), (17, tp (i64 (i + 1)))] []) (by kernel_rfl) ⟨(wr_i64 (by omega) (by omega)), trivial⟩ ?_
    refine ⟨St.mk [(0, tp (u16 (ior IntKind.u16 z (one x)))), (4, tp (u16 0)), (7, tp (V.vs xs n)), (8, tp (i64 (↑n : Int))), (9, tp (i64 (i + 1)))] [], by kernel_rfl, ?_⟩
    first | (rw [hz, List.take_of_length_le (by omega)]; done) | (exact ⟨(n - (i + 1)).toNat, (by omega), i + 1, _, rfl, (by rw [hz, show (i + 1).toNat = i.toNat + 1 by omega]; exact wth_next (kx0 (by omega)).2), (by omega), (by omega), (by omega)⟩)
  simp only [decide_eq_false_iff_not] at hq1
  refine AWP.exit ?_
  refine xe0 [4] [] (by kernel_rfl) ?_
  refine AWP.ret ?_
  refine ⟨Or.inr rfl, Eq.trans (b := some ([], u16 z)) (by kernel_rfl) ?_⟩
  first | (rw [hz, List.take_of_length_le (by omega)]; done) | (exact ⟨(n - (i + 1)).toNat, (by omega), i + 1, _, rfl, (by rw [hz, show (i + 1).toNat = i.toNat + 1 by omega]; exact wth_next (kx0 (by omega)).2), (by omega), (by omega), (by omega)⟩)
theorem few_end {xs : List V} {i : Nat} (h : xs.length ≤ i) : xs.take (min i 20) = xs.take 20 := by
  rcases Nat.le_total i 20 with h1 | h1
  · rw [Nat.min_eq_left h1, List.take_of_length_le h, List.take_of_length_le (by omega)]
  · rw [Nat.min_eq_right h1]
theorem few_in {xs : List V} {i : Nat} {x : V} (h : xs.take (i + 1) = xs.take i ++ [x]) (h2 : i < 20) : xs.take (min i 20) ++ [x] = xs.take (min (i + 1) 20) := by
  rw [Nat.min_eq_left (by omega), Nat.min_eq_left (by omega), h]
theorem few_out {xs : List V} {i : Nat} (h : 20 ≤ i) : xs.take (min i 20) = xs.take (min (i + 1) 20) := by
  rw [Nat.min_eq_right (by omega), Nat.min_eq_right (by omega)]
theorem con_few (xs Y : List V) (n m : Nat) (hx : I64L xs) (hn : xs.length = n) (hlen : n ≤ 9223372036854775807) (hY : xs.take 20 = Y) (hm : Y.length = m) : Con Tryd.prog 8 [] [.vs xs n, i64 20] [(5, ⟨Y, true, 0, some (3, 1)⟩)] (.sl 5 0 m) := by
  refine Con.of (C := ⟨Tryd.prog, tc, Tryd.f8.ntmps⟩) [5] tcok Tryd.func8 rfl rfl (by kernel_rfl) (by kernel_rfl) ?_
  refine xe0 [0, 1, 4] [4] (by kernel_rfl) ?_
  refine xe0 [0, 1, 4, 5] [4, 5] (by kernel_rfl) ?_
  refine AWP.seq ?_
  refine xe0 [1, 4, 5, 8, 9, 10] [4, 5] (by kernel_rfl) ?_
  refine AWP.block ?_
  refine AWP.loopI [1, 4, 5, 8, 9, 10] [4, 5] (fun N st => ∃ (i : Int) (k : Nat) (L : List V), st = St.mk [(1, T.plain (i64 20)), (4, T.plain (V.sl 4 0 0)), (5, T.plain (V.sl 5 0 k)), (8, T.plain (V.vs xs n)), (9, T.plain (i64 n)), (10, T.plain (i64 i))] [(4, Blk.mk [] true 0 (some (3, 1))), (5, Blk.mk L true 0 (some (3, 1)))] ∧ L = xs.take (min i.toNat 20) ∧ L.length = k ∧ 0 ≤ i ∧ i ≤ n ∧ (N : Int) = n - i) n (s0 := St.mk [(1, T.plain (i64 20)), (4, T.plain (V.sl 4 0 0)), (5, T.plain (V.sl 5 0 0)), (8, T.plain (V.vs xs n)), (9, T.plain (i64 n)), (10, T.plain (i64 0))] [(4, Blk.mk [] true 0 (some (3, 1))), (5, Blk.mk [] true 0 (some (3, 1)))]) (by kernel_rfl) ?_ ?_
  · exact ⟨0, 0, [], rfl, rfl, rfl, by omega, by omega, by omega⟩
  rintro N st ⟨i, k, L, rfl, hL, hk, hi, hi2, hN⟩
  obtain ⟨x, r, hxb, kx0⟩ := i64_at hx i.toNat
  have kx : i.toNat < n → xs.drop (i.toNat * 1) = i64 x :: r := fun h => (kx0 (by omega)).1
  have hk20 : k ≤ 20 := by rw [← hk, hL, List.length_take]; omega
  refine xe0 [1, 4, 5, 8, 9, 10, 11] [4, 5] (by kernel_rfl) ?_
  refine AWP.seq ?_
  refine AWP.cond (b := decide (i < (↑n : Int))) (by kernel_rfl) (fun hq2 => ?_) (fun hq2 => ?_)
  · simp only [decide_eq_true_eq] at hq2
    refine AWP.skip ?_
    refine AWP.seq ?_
    refine AWP.block ?_
    refine xe1 (os := [(0 : Int) ≤ i ∧ i < (↑n : Int), V.vp (List.drop (Int.toNat i * 1) xs) = V.vp (i64 x :: r)]) [(1, ⟨some (V.vp (i64 x :: r)), none⟩)] [1, 4, 5, 6, 7, 8, 9, 10] [4, 5] (by kernel_rfl) ⟨(by omega), (congrArg V.vp (kx (by omega))), trivial⟩ ?_
    refine xe0 [1, 4, 5, 7, 8, 9, 10, 17] [4, 5] (by kernel_rfl) ?_
    refine AWP.cond (b := decide (i < 20)) (by kernel_rfl) (fun hq3 => ?_) (fun hq3 => ?_)
    · simp only [decide_eq_true_eq] at hq3
      refine AWP.region tcok hmix [(3, ⟨some (V.tup [V.agg true (L ++ [i64 x]), V.sl 0 0 (k + 1)]), none⟩)] (os := [(1 : Nat) ≤ (1 : Nat), k * (1 : Nat) = List.length L, k + (1 : Nat) ≤ (9223372036854775807 : Nat), (k + (1 : Nat)) * (8 : Nat) ≤ (140737488355328 : Nat), L ++ List.take ((1 : Nat) * (1 : Nat)) (List.drop (0 : Nat) [i64 x]) = L ++ [i64 x], k + (1 : Nat) = k + (1 : Nat)]) (sf := St.mk [(1, tp (i64 20)), (4, tp (V.sl 4 0 0)), (5, tp (V.sl 5 0 (k + 1))), (7, tp (i64 x)), (8, tp (V.vs xs n)), (9, tp (i64 (↑n : Int))), (10, tp (i64 i)), (17, tp (vb (decide (i < 20)))), (18, tp V.top), (19, tp (i64 x)), (20, tp (V.sl 20 0 1)), (21, tp (V.sl 5 0 (k + 1)))] [(4, Blk.mk [] true 0 (some (3, 1))), (5, Blk.mk (L ++ [i64 x]) true 0 (some (3, 1))), (20, Blk.mk [i64 x] true 0 (some (3, 1)))]) (by kernel_rfl) ⟨(by omega), (by omega), (by omega), (by omega), (by first | rfl | (simp only [u8s_drop, u8s_take, List.drop_zero, Nat.mul_one, Nat.one_mul, u8s_app, List.take_length, List.nil_append, List.append_nil]; done) | (simp [u8s]; done) | (simp [u8s]; omega)), (by omega), trivial⟩ ?_
      refine AWP.keep' [1, 4, 5, 8, 9, 10] [4, 5] (sf := St.mk [(1, tp (i64 20)), (4, tp (V.sl 4 0 0)), (5, tp (V.sl 5 0 (k + 1))), (8, tp (V.vs xs n)), (9, tp (i64 (↑n : Int))), (10, tp (i64 i))] [(4, Blk.mk [] true 0 (some (3, 1))), (5, Blk.mk (L ++ [i64 x]) true 0 (some (3, 1)))]) (by kernel_rfl) ?_
      refine AWP.region tcok hmix [(0, ⟨some (i64 (i + 1)), none⟩)] (os := [i64 (IntKind.wrap IntKind.i64 (i + 1)) = i64 (i + 1)]) (sf := St.mk [(1, tp (i64 20)), (4, tp (V.sl 4 0 0)), (5, tp (V.sl 5 0 (k + 1))), (8, tp (V.vs xs n)), (9, tp (i64 (↑n : Int))), (10, tp (i64 (i + 1))), (22, tp (i64 (i + 1)))] [(4, Blk.mk [] true 0 (some (3, 1))), (5, Blk.mk (L ++ [i64 x]) true 0 (some (3, 1)))]) (by kernel_rfl) ⟨(wr_i64 (by omega) (by omega)), trivial⟩ ?_
      refine ⟨St.mk [(1, tp (i64 20)), (4, tp (V.sl 4 0 0)), (5, tp (V.sl 5 0 (k + 1))), (8, tp (V.vs xs n)), (9, tp (i64 (↑n : Int))), (10, tp (i64 (i + 1)))] [(4, Blk.mk [] true 0 (some (3, 1))), (5, Blk.mk (L ++ [i64 x]) true 0 (some (3, 1)))], by kernel_rfl, ?_⟩
      first | (have e : L = Y := (by rw [hL, ← hY]; exact few_end (by omega)); subst e; rw [← hm, hk]; done) | (exact ⟨(n - (i + 1)).toNat, (by omega), i + 1, _, _, rfl, (by rw [hL, show (i + 1).toNat = i.toNat + 1 by omega]; exact few_in (kx0 (by omega)).2 (by omega)), (by simp [hk]), (by omega), (by omega), (by omega)⟩) | (exact ⟨(n - (i + 1)).toNat, (by omega), i + 1, _, _, rfl, (by rw [hL, show (i + 1).toNat = i.toNat + 1 by omega]; exact few_out (by omega)), hk, (by omega), (by omega), (by omega)⟩)
    simp only [decide_eq_false_iff_not] at hq3
    refine AWP.skip ?_
    refine AWP.region tcok hmix [(0, ⟨some (i64 (i + 1)), none⟩)] (os := [i64 (IntKind.wrap IntKind.i64 (i + 1)) = i64 (i + 1)]) (sf := St.mk [(1, tp (i64 20)), (4, tp (V.sl 4 0 0)), (5, tp (V.sl 5 0 k)), (7, tp (i64 x)), (8, tp (V.vs xs n)), (9, tp (i64 (↑n : Int))), (10, tp (i64 (i + 1))), (17, tp (vb (decide (i < 20)))), (22, tp (i64 (i + 1)))] [(4, Blk.mk [] true 0 (some (3, 1))), (5, Blk.mk L true 0 (some (3, 1)))]) (by kernel_rfl) ⟨(wr_i64 (by omega) (by omega)), trivial⟩ ?_
    refine ⟨St.mk [(1, tp (i64 20)), (4, tp (V.sl 4 0 0)), (5, tp (V.sl 5 0 k)), (8, tp (V.vs xs n)), (9, tp (i64 (↑n : Int))), (10, tp (i64 (i + 1)))] [(4, Blk.mk [] true 0 (some (3, 1))), (5, Blk.mk L true 0 (some (3, 1)))], by kernel_rfl, ?_⟩
    first | (have e : L = Y := (by rw [hL, ← hY]; exact few_end (by omega)); subst e; rw [← hm, hk]; done) | (exact ⟨(n - (i + 1)).toNat, (by omega), i + 1, _, _, rfl, (by rw [hL, show (i + 1).toNat = i.toNat + 1 by omega]; exact few_in (kx0 (by omega)).2 (by omega)), (by simp [hk]), (by omega), (by omega), (by omega)⟩) | (exact ⟨(n - (i + 1)).toNat, (by omega), i + 1, _, _, rfl, (by rw [hL, show (i + 1).toNat = i.toNat + 1 by omega]; exact few_out (by omega)), hk, (by omega), (by omega), (by omega)⟩)
  simp only [decide_eq_false_iff_not] at hq2
  refine AWP.exit ?_
  refine AWP.seq ?_
  refine AWP.keep' [5] [5] (sf := St.mk [(5, tp (V.sl 5 0 k))] [(5, Blk.mk L true 0 (some (3, 1)))]) (by kernel_rfl) ?_
  refine xg0 [4] [5] (by kernel_rfl) ?_
  refine AWP.ret ?_
  refine ⟨Or.inr rfl, Eq.trans (b := some ([(5, Blk.mk L true 0 (some (3, 1)))], V.sl 5 0 k)) (by kernel_rfl) ?_⟩
  first | (have e : L = Y := (by rw [hL, ← hY]; exact few_end (by omega)); subst e; rw [← hm, hk]; done) | (exact ⟨(n - (i + 1)).toNat, (by omega), i + 1, _, _, rfl, (by rw [hL, show (i + 1).toNat = i.toNat + 1 by omega]; exact few_in (kx0 (by omega)).2 (by omega)), (by simp [hk]), (by omega), (by omega), (by omega)⟩) | (exact ⟨(n - (i + 1)).toNat, (by omega), i + 1, _, _, rfl, (by rw [hL, show (i + 1).toNat = i.toNat + 1 by omega]; exact few_out (by omega)), hk, (by omega), (by omega), (by omega)⟩)
def inV (xs : List V) (x : Int) : Bool := xs.any fun y => iOf y == x
theorem in_here {xs : List V} {i : Nat} {x y : Int} (h : xs.take (i + 1) = xs.take i ++ [i64 y]) (e : x = y) : inV xs x = true := by
  subst e
  unfold inV
  rw [List.any_eq_true]
  refine ⟨i64 x, List.mem_of_mem_take (i := i + 1) ?_, by simp [iOf]⟩
  rw [h]
  simp
theorem in_next {xs : List V} {i : Nat} {x y : Int} (h : xs.take (i + 1) = xs.take i ++ [i64 y]) (hz : inV (xs.take i) x = false) (e : ¬ x = y) : inV (xs.take (i + 1)) x = false := by
  unfold inV at *
  rw [h, List.any_append, hz]
  simp [iOf]
  omega
theorem con_in (xs : List V) (n : Nat) (x : Int) (hx : I64L xs) (hn : xs.length = n) (hlen : n ≤ 9223372036854775807) : Con Tryd.prog 12 [] [.vs xs n, i64 x] [] (vb (inV xs x)) := by
  refine Con.of (C := ⟨Tryd.prog, tc, Tryd.f12.ntmps⟩) [] tcok Tryd.func12 rfl rfl (by kernel_rfl) (by kernel_rfl) ?_
  refine xe0 [0, 1, 4] [] (by kernel_rfl) ?_
  refine AWP.seq ?_
  refine xe0 [1, 4, 7, 8, 9] [] (by kernel_rfl) ?_
  refine AWP.block ?_
  refine AWP.loopI [1, 4, 7, 8, 9] [] (fun N st => ∃ (i : Int), st = St.mk [(1, T.plain (i64 x)), (4, T.plain (vb false)), (7, T.plain (V.vs xs n)), (8, T.plain (i64 n)), (9, T.plain (i64 i))] [] ∧ inV (xs.take i.toNat) x = false ∧ 0 ≤ i ∧ i ≤ n ∧ (N : Int) = n - i) n (s0 := St.mk [(1, T.plain (i64 x)), (4, T.plain (vb false)), (7, T.plain (V.vs xs n)), (8, T.plain (i64 n)), (9, T.plain (i64 0))] []) (by kernel_rfl) ?_ ?_
  · exact ⟨0, rfl, rfl, by omega, by omega, by omega⟩
  rintro N st ⟨i, rfl, hz, hi, hi2, hN⟩
  obtain ⟨y, r, hyb, kx0⟩ := i64_at hx i.toNat
  have kx : i.toNat < n → xs.drop (i.toNat * 1) = i64 y :: r := fun h => (kx0 (by omega)).1
  refine xe0 [1, 4, 7, 8, 9, 10] [] (by kernel_rfl) ?_
  refine AWP.seq ?_
  refine AWP.cond (b := decide (i < (↑n : Int))) (by kernel_rfl) (fun hq4 => ?_) (fun hq4 => ?_)
  · simp only [decide_eq_true_eq] at hq4
    refine AWP.skip ?_
    refine AWP.seq ?_
    refine AWP.block ?_
    refine xe1 (os := [(0 : Int) ≤ i ∧ i < (↑n : Int), V.vp (List.drop (Int.toNat i * 1) xs) = V.vp (i64 y :: r)]) [(0, ⟨some (V.vp (i64 y :: r)), none⟩)] [1, 4, 6, 7, 8, 9] [] (by kernel_rfl) ⟨(by omega), (congrArg V.vp (kx (by omega))), trivial⟩ ?_
    refine xe0 [1, 4, 7, 8, 9, 15] [] (by kernel_rfl) ?_
    refine AWP.cond (b := x == y) (by kernel_rfl) (fun hq5 => ?_) (fun hq5 => ?_)
    · simp only [beq_iff_eq] at hq5
      refine xe0 [1, 4, 7, 8, 9] [] (by kernel_rfl) ?_
      refine AWP.ret ?_
      refine ⟨Or.inr rfl, Eq.trans (b := some ([], vb true)) (by kernel_rfl) ?_⟩
      first | (rw [List.take_of_length_le (by omega)] at hz; rw [hz]; done) | (rw [in_here (kx0 (by omega)).2 (by omega)]; done) | (exact ⟨(n - (i + 1)).toNat, (by omega), i + 1, rfl, (by rw [show (i + 1).toNat = i.toNat + 1 by omega]; exact in_next (kx0 (by omega)).2 hz (by omega)), (by omega), (by omega), (by omega)⟩)
    simp only [beq_eq_false_iff_ne] at hq5
    refine AWP.skip ?_
    refine AWP.region tcok hmix [(0, ⟨some (i64 (i + 1)), none⟩)] (os := [i64 (IntKind.wrap IntKind.i64 (i + 1)) = i64 (i + 1)]) (sf := St.mk [(1, tp (i64 x)), (4, tp (vb false)), (7, tp (V.vs xs n)), (8, tp (i64 (↑n : Int))), (9, tp (i64 (i + 1))), (15, tp (vb (x == y))), (16, tp (i64 (i + 1)))] []) (by kernel_rfl) ⟨(wr_i64 (by omega) (by omega)), trivial⟩ ?_
    refine ⟨St.mk [(1, tp (i64 x)), (4, tp (vb false)), (7, tp (V.vs xs n)), (8, tp (i64 (↑n : Int))), (9, tp (i64 (i + 1)))] [], by kernel_rfl, ?_⟩
    first | (rw [List.take_of_length_le (by omega)] at hz; rw [hz]; done) | (rw [in_here (kx0 (by omega)).2 (by omega)]; done) | (exact ⟨(n - (i + 1)).toNat, (by omega), i + 1, rfl, (by rw [show (i + 1).toNat = i.toNat + 1 by omega]; exact in_next (kx0 (by omega)).2 hz (by omega)), (by omega), (by omega), (by omega)⟩)
  simp only [decide_eq_false_iff_not] at hq4
  refine AWP.exit ?_
  refine xe0 [4] [] (by kernel_rfl) ?_
  refine AWP.ret ?_
  refine ⟨Or.inr rfl, Eq.trans (b := some ([], vb false)) (by kernel_rfl) ?_⟩
  first | (rw [List.take_of_length_le (by omega)] at hz; rw [hz]; done) | (rw [in_here (kx0 (by omega)).2 (by omega)]; done) | (exact ⟨(n - (i + 1)).toNat, (by omega), i + 1, rfl, (by rw [show (i + 1).toNat = i.toNat + 1 by omega]; exact in_next (kx0 (by omega)).2 hz (by omega)), (by omega), (by omega), (by omega)⟩)
def lst (s : Int) (n : Nat) : List V := ((List.range n).filter (bitB s)).map fun (i : Nat) => i64 (i : Int)
theorem lst_in {s : Int} {n : Nat} (h : bitB s n = true) : lst s n ++ [i64 (n : Int)] = lst s (n + 1) := by
  unfold lst
  rw [List.range_succ, List.filter_append, List.map_append]
  simp [h]
theorem lst_out {s : Int} {n : Nat} (h : bitB s n = false) : lst s n = lst s (n + 1) := by
  unfold lst
  rw [List.range_succ, List.filter_append, List.map_append]
  simp [h]
theorem lst_len (s : Int) (n : Nat) : (lst s n).length ≤ n := by
  unfold lst
  rw [List.length_map]
  exact Nat.le_trans (List.length_filter_le _ _) (by simp)
theorem lst_i64 (s : Int) (n : Nat) (hn : n ≤ 16) : I64L (lst s n) := fun x hx => by
  unfold lst at hx
  simp only [List.mem_map, List.mem_filter, List.mem_range] at hx
  obtain ⟨i, ⟨h1, _⟩, rfl⟩ := hx
  exact ⟨i, rfl, by omega, by omega⟩
theorem con_list (s : Int) (hs : 0 ≤ s ∧ s < 65536) (W : List V) (m : Nat) (hW : lst s 16 = W) (hm : W.length = m) : Con Tryd.prog 9 [] [u16 s] [(3, ⟨W, true, 0, some (3, 1)⟩)] (.sl 3 0 m) := by
  refine Con.of (C := ⟨Tryd.prog, tc, Tryd.f9.ntmps⟩) [3] tcok Tryd.func9 rfl rfl (by kernel_rfl) (by kernel_rfl) ?_
  refine xe0 [0, 2] [2] (by kernel_rfl) ?_
  refine xe0 [0, 2, 3] [2, 3] (by kernel_rfl) ?_
  refine AWP.seq ?_
  refine xe0 [0, 2, 3, 4] [2, 3] (by kernel_rfl) ?_
  refine AWP.block ?_
  refine AWP.loopI [0, 2, 3, 4] [2, 3] (fun N st => ∃ (i : Int) (k : Nat) (L : List V), st = St.mk [(0, T.plain (u16 s)), (2, T.plain (V.sl 2 0 0)), (3, T.plain (V.sl 3 0 k)), (4, T.plain (i64 i))] [(2, Blk.mk [] true 0 (some (3, 1))), (3, Blk.mk L true 0 (some (3, 1)))] ∧ L = lst s i.toNat ∧ L.length = k ∧ 0 ≤ i ∧ i ≤ 16 ∧ (N : Int) = 16 - i) 16 (s0 := St.mk [(0, T.plain (u16 s)), (2, T.plain (V.sl 2 0 0)), (3, T.plain (V.sl 3 0 0)), (4, T.plain (i64 0))] [(2, Blk.mk [] true 0 (some (3, 1))), (3, Blk.mk [] true 0 (some (3, 1)))]) (by kernel_rfl) ?_ ?_
  · exact ⟨0, 0, [], rfl, rfl, rfl, by omega, by omega, by omega⟩
  rintro N st ⟨i, k, L, rfl, hL, hk, hi, hi2, hN⟩
  have hk16 : k ≤ 16 := by
    have := lst_len s i.toNat
    rw [← hk, hL]
    omega
  by_cases h16 : i < 16
  case neg =>
    obtain rfl : i = 16 := by omega
    refine AWP.seq ?_
    refine xe0 [0, 2, 3, 4, 6] [2, 3] (by kernel_rfl) ?_
    refine AWP.condF (by kernel_rfl) ?_
    refine AWP.exit ?_
    refine AWP.seq ?_
    refine AWP.keep' [3] [3] (sf := St.mk [(3, tp (V.sl 3 0 k))] [(3, Blk.mk L true 0 (some (3, 1)))]) (by kernel_rfl) ?_
    refine xg0 [2] [3] (by kernel_rfl) ?_
    refine AWP.ret ?_
    refine ⟨Or.inr rfl, Eq.trans (b := some ([(3, Blk.mk L true 0 (some (3, 1)))], V.sl 3 0 k)) (by kernel_rfl) ?_⟩
    (have e : L = W := hL.trans hW; subst e; rw [← hm, hk])
  have sw1 := tshr16 (x := s) (i := i) hs.1 (by omega)
  cases hb : bitB s i.toNat with
  | true =>
    have sw2 := hb
    rw [bitB_at hs, decide_eq_true_eq] at sw2
    have sw3 : Int.tmod (ishr .u16 s i) 2 = 1 := sw1.trans sw2
    refine AWP.seq ?_
    refine xe0 [0, 2, 3, 4, 6] [2, 3] (by kernel_rfl) ?_
    refine AWP.cond (b := decide (i < 16)) (by kernel_rfl) (fun hq7 => ?_) (fun hq7 => ?_)
    · simp only [decide_eq_true_eq] at hq7
      refine AWP.skip ?_
      refine AWP.seq ?_
      refine AWP.block ?_
      refine xe1 (os := [(0 : Int) ≤ i, u16 (ishr IntKind.u16 s i) = u16 (ishr IntKind.u16 s i), (2 : Int) ≠ (0 : Int), u16 (Int.tmod (ishr IntKind.u16 s i) 2) = u16 1]) [(2, ⟨some (u16 (ishr IntKind.u16 s i)), none⟩), (3, ⟨some (u16 1), none⟩)] [0, 2, 3, 4, 13] [2, 3] (by kernel_rfl) ⟨(by omega), rfl, (by omega), (in_eq sw3), trivial⟩ ?_
      refine AWP.condT (by kernel_rfl) ?_
      refine AWP.region tcok hmix [(3, ⟨some (V.tup [V.agg true (L ++ [i64 i]), V.sl 0 0 (k + 1)]), none⟩)] (os := [(1 : Nat) ≤ (1 : Nat), k * (1 : Nat) = List.length L, k + (1 : Nat) ≤ (9223372036854775807 : Nat), (k + (1 : Nat)) * (8 : Nat) ≤ (140737488355328 : Nat), L ++ List.take ((1 : Nat) * (1 : Nat)) (List.drop (0 : Nat) [i64 i]) = L ++ [i64 i], k + (1 : Nat) = k + (1 : Nat)]) (sf := St.mk [(0, tp (u16 s)), (2, tp (V.sl 2 0 0)), (3, tp (V.sl 3 0 (k + 1))), (4, tp (i64 i)), (13, tp (vb true)), (14, tp V.top), (15, tp (i64 i)), (16, tp (V.sl 16 0 1)), (17, tp (V.sl 3 0 (k + 1)))] [(2, Blk.mk [] true 0 (some (3, 1))), (3, Blk.mk (L ++ [i64 i]) true 0 (some (3, 1))), (16, Blk.mk [i64 i] true 0 (some (3, 1)))]) (by kernel_rfl) ⟨(by omega), (by omega), (by omega), (by omega), (by first | rfl | (simp only [u8s_drop, u8s_take, List.drop_zero, Nat.mul_one, Nat.one_mul, u8s_app, List.take_length, List.nil_append, List.append_nil]; done) | (simp [u8s]; done) | (simp [u8s]; omega)), (by omega), trivial⟩ ?_
      refine AWP.keep' [0, 2, 3, 4] [2, 3] (sf := St.mk [(0, tp (u16 s)), (2, tp (V.sl 2 0 0)), (3, tp (V.sl 3 0 (k + 1))), (4, tp (i64 i))] [(2, Blk.mk [] true 0 (some (3, 1))), (3, Blk.mk (L ++ [i64 i]) true 0 (some (3, 1)))]) (by kernel_rfl) ?_
      refine AWP.region tcok hmix [(1, ⟨some (i64 (i + 1)), none⟩)] (os := [i64 (IntKind.wrap IntKind.i64 (i + 1)) = i64 (i + 1)]) (sf := St.mk [(0, tp (u16 s)), (2, tp (V.sl 2 0 0)), (3, tp (V.sl 3 0 (k + 1))), (4, tp (i64 (i + 1))), (7, tp (i64 i)), (8, tp (i64 (i + 1)))] [(2, Blk.mk [] true 0 (some (3, 1))), (3, Blk.mk (L ++ [i64 i]) true 0 (some (3, 1)))]) (by kernel_rfl) ⟨(wr_i64 (by omega) (by omega)), trivial⟩ ?_
      refine ⟨St.mk [(0, tp (u16 s)), (2, tp (V.sl 2 0 0)), (3, tp (V.sl 3 0 (k + 1))), (4, tp (i64 (i + 1)))] [(2, Blk.mk [] true 0 (some (3, 1))), (3, Blk.mk (L ++ [i64 i]) true 0 (some (3, 1)))], by kernel_rfl, ?_⟩
      (exact ⟨(16 - (i + 1)).toNat, (by omega), i + 1, _, _, rfl, (by rw [hL, show (i + 1).toNat = i.toNat + 1 by omega, ← lst_in hb, Int.toNat_of_nonneg hi]), (by simp [hk]), (by omega), (by omega), (by omega)⟩)
    simp only [decide_eq_false_iff_not] at hq7
    (exfalso; omega)
  | false =>
    have sw2 := hb
    rw [bitB_at hs, decide_eq_false_iff_not] at sw2
    have sw3 : ¬ Int.tmod (ishr .u16 s i) 2 = 1 := fun h => sw2 (sw1.symm.trans h)
    refine AWP.seq ?_
    refine xe0 [0, 2, 3, 4, 6] [2, 3] (by kernel_rfl) ?_
    refine AWP.cond (b := decide (i < 16)) (by kernel_rfl) (fun hq9 => ?_) (fun hq9 => ?_)
    · simp only [decide_eq_true_eq] at hq9
      refine AWP.skip ?_
      refine AWP.seq ?_
      refine AWP.block ?_
      refine xe1 (os := [(0 : Int) ≤ i, u16 (ishr IntKind.u16 s i) = u16 (ishr IntKind.u16 s i)]) [(2, ⟨some (u16 (ishr IntKind.u16 s i)), none⟩)] [0, 2, 3, 4, 13] [2, 3] (by kernel_rfl) ⟨(by omega), rfl, trivial⟩ ?_
      refine AWP.cond (b := Int.tmod (ishr IntKind.u16 s i) 2 == 1) (by kernel_rfl) (fun hq10 => ?_) (fun hq10 => ?_)
      · simp only [beq_iff_eq] at hq10
        (exfalso; omega)
      simp only [beq_eq_false_iff_ne] at hq10
      refine AWP.skip ?_
      refine AWP.region tcok hmix [(1, ⟨some (i64 (i + 1)), none⟩)] (os := [i64 (IntKind.wrap IntKind.i64 (i + 1)) = i64 (i + 1)]) (sf := St.mk [(0, tp (u16 s)), (2, tp (V.sl 2 0 0)), (3, tp (V.sl 3 0 k)), (4, tp (i64 (i + 1))), (7, tp (i64 i)), (8, tp (i64 (i + 1))), (13, tp (vb (Int.tmod (ishr IntKind.u16 s i) 2 == 1)))] [(2, Blk.mk [] true 0 (some (3, 1))), (3, Blk.mk L true 0 (some (3, 1)))]) (by kernel_rfl) ⟨(wr_i64 (by omega) (by omega)), trivial⟩ ?_
      refine ⟨St.mk [(0, tp (u16 s)), (2, tp (V.sl 2 0 0)), (3, tp (V.sl 3 0 k)), (4, tp (i64 (i + 1)))] [(2, Blk.mk [] true 0 (some (3, 1))), (3, Blk.mk L true 0 (some (3, 1)))], by kernel_rfl, ?_⟩
      (exact ⟨(16 - (i + 1)).toNat, (by omega), i + 1, _, _, rfl, (by rw [hL, show (i + 1).toNat = i.toNat + 1 by omega, ← lst_out hb]), hk, (by omega), (by omega), (by omega)⟩)
    simp only [decide_eq_false_iff_not] at hq9
    (exfalso; omega)
theorem con_less (s t : Int) : Con Tryd.prog 24 [] [u16 s, u16 t] [] (u16 (iandNot .u16 s t)) := by
  refine Con.of (C := ⟨Tryd.prog, tc, Tryd.f24.ntmps⟩) [] tcok Tryd.func24 rfl rfl (by kernel_rfl) (by kernel_rfl) ?_
  refine xe0 [0, 1, 4] [] (by kernel_rfl) ?_
  refine xe0 [4] [] (by kernel_rfl) ?_
  refine AWP.ret ?_
  refine ⟨Or.inr rfl, Eq.trans (b := some ([], u16 (iandNot IntKind.u16 s t))) (by kernel_rfl) ?_⟩
  rfl
theorem con_and (s t : Int) : Con Tryd.prog 23 [] [u16 s, u16 t] [] (u16 (iand .u16 s t)) := by
  refine Con.of (C := ⟨Tryd.prog, tc, Tryd.f23.ntmps⟩) [] tcok Tryd.func23 rfl rfl (by kernel_rfl) (by kernel_rfl) ?_
  refine xe0 [0, 1, 4] [] (by kernel_rfl) ?_
  refine xe0 [4] [] (by kernel_rfl) ?_
  refine AWP.ret ?_
  refine ⟨Or.inr rfl, Eq.trans (b := some ([], u16 (iand IntKind.u16 s t))) (by kernel_rfl) ?_⟩
  rfl
theorem con_or1 (s t : Int) : Con Tryd.prog 22 [] [u16 s, .vs [u16 t] 1] [] (u16 (ior .u16 s t)) := by
  refine Con.of (C := ⟨Tryd.prog, tc, Tryd.f22.ntmps⟩) [] tcok Tryd.func22 rfl rfl (by kernel_rfl) (by kernel_rfl) ?_
  refine xe0 [0, 1, 4] [] (by kernel_rfl) ?_
  refine AWP.seq ?_
  refine xe0 [0, 4, 7, 8, 9] [] (by kernel_rfl) ?_
  refine AWP.block ?_
  refine AWP.unroll 4 ?_
  refine xe0 [0, 4, 7, 8, 9, 10] [] (by kernel_rfl) ?_
  refine AWP.seq ?_
  refine AWP.condT (by kernel_rfl) ?_
  refine AWP.skip ?_
  refine AWP.seq ?_
  refine AWP.block ?_
  refine xe0 [0, 4, 6, 7, 8, 9, 10, 11, 12] [] (by kernel_rfl) ?_
  refine AWP.region tcok hmix [] (os := []) (sf := St.mk [(0, tp (u16 (ior IntKind.u16 s t))), (4, tp (u16 0)), (6, tp (u16 t)), (7, tp (V.vs [u16 t] 1)), (8, tp (i64 1)), (9, tp (i64 0)), (10, tp (vb true)), (11, tp (V.vp [u16 t])), (12, tp (u16 t)), (13, tp (u16 s)), (14, tp (u16 t)), (15, tp (u16 (ior IntKind.u16 s t)))] []) (by kernel_rfl) trivial ?_
  refine AWP.region tcok hmix [] (os := []) (sf := St.mk [(0, tp (u16 (ior IntKind.u16 s t))), (4, tp (u16 0)), (6, tp (u16 t)), (7, tp (V.vs [u16 t] 1)), (8, tp (i64 1)), (9, tp (i64 1)), (10, tp (vb true)), (11, tp (V.vp [u16 t])), (12, tp (u16 t)), (13, tp (u16 s)), (14, tp (u16 t)), (15, tp (u16 (ior IntKind.u16 s t))), (16, tp (i64 1))] []) (by kernel_rfl) trivial ?_
  refine xe0 [0, 4, 6, 7, 8, 9, 10, 11, 12, 13, 14, 15, 16] [] (by kernel_rfl) ?_
  refine AWP.seq ?_
  refine AWP.condF (by kernel_rfl) ?_
  refine AWP.exit ?_
  refine xe0 [4] [] (by kernel_rfl) ?_
  refine AWP.ret ?_
  refine ⟨Or.inr rfl, Eq.trans (b := some ([], u16 (ior IntKind.u16 s t))) (by kernel_rfl) ?_⟩
  rfl
theorem con_or2 (s t u : Int) : Con Tryd.prog 22 [] [u16 s, .vs [u16 t, u16 u] 2] [] (u16 (ior .u16 (ior .u16 s t) u)) := by
  refine Con.of (C := ⟨Tryd.prog, tc, Tryd.f22.ntmps⟩) [] tcok Tryd.func22 rfl rfl (by kernel_rfl) (by kernel_rfl) ?_
  refine xe0 [0, 1, 4] [] (by kernel_rfl) ?_
  refine AWP.seq ?_
  refine xe0 [0, 4, 7, 8, 9] [] (by kernel_rfl) ?_
  refine AWP.block ?_
  refine AWP.unroll 4 ?_
  refine xe0 [0, 4, 7, 8, 9, 10] [] (by kernel_rfl) ?_
  refine AWP.seq ?_
  refine AWP.condT (by kernel_rfl) ?_
  refine AWP.skip ?_
  refine AWP.seq ?_
  refine AWP.block ?_
  refine xe0 [0, 4, 6, 7, 8, 9, 10, 11, 12] [] (by kernel_rfl) ?_
  refine AWP.region tcok hmix [] (os := []) (sf := St.mk [(0, tp (u16 (ior IntKind.u16 s t))), (4, tp (u16 0)), (6, tp (u16 t)), (7, tp (V.vs [u16 t, u16 u] 2)), (8, tp (i64 2)), (9, tp (i64 0)), (10, tp (vb true)), (11, tp (V.vp [u16 t, u16 u])), (12, tp (u16 t)), (13, tp (u16 s)), (14, tp (u16 t)), (15, tp (u16 (ior IntKind.u16 s t)))] []) (by kernel_rfl) trivial ?_
  refine AWP.region tcok hmix [] (os := []) (sf := St.mk [(0, tp (u16 (ior IntKind.u16 s t))), (4, tp (u16 0)), (6, tp (u16 t)), (7, tp (V.vs [u16 t, u16 u] 2)), (8, tp (i64 2)), (9, tp (i64 1)), (10, tp (vb true)), (11, tp (V.vp [u16 t, u16 u])), (12, tp (u16 t)), (13, tp (u16 s)), (14, tp (u16 t)), (15, tp (u16 (ior IntKind.u16 s t))), (16, tp (i64 1))] []) (by kernel_rfl) trivial ?_
  refine xe0 [0, 4, 6, 7, 8, 9, 10, 11, 12, 13, 14, 15, 16] [] (by kernel_rfl) ?_
  refine AWP.seq ?_
  refine AWP.condT (by kernel_rfl) ?_
  refine AWP.skip ?_
  refine AWP.seq ?_
  refine AWP.block ?_
  refine xe0 [0, 4, 6, 7, 8, 9, 10, 11, 12, 13, 14, 15, 16] [] (by kernel_rfl) ?_
  refine AWP.region tcok hmix [] (os := []) (sf := St.mk [(0, tp (u16 (ior IntKind.u16 (ior IntKind.u16 s t) u))), (4, tp (u16 0)), (6, tp (u16 u)), (7, tp (V.vs [u16 t, u16 u] 2)), (8, tp (i64 2)), (9, tp (i64 1)), (10, tp (vb true)), (11, tp (V.vp [u16 u])), (12, tp (u16 u)), (13, tp (u16 (ior IntKind.u16 s t))), (14, tp (u16 u)), (15, tp (u16 (ior IntKind.u16 (ior IntKind.u16 s t) u))), (16, tp (i64 1))] []) (by kernel_rfl) trivial ?_
  refine AWP.region tcok hmix [] (os := []) (sf := St.mk [(0, tp (u16 (ior IntKind.u16 (ior IntKind.u16 s t) u))), (4, tp (u16 0)), (6, tp (u16 u)), (7, tp (V.vs [u16 t, u16 u] 2)), (8, tp (i64 2)), (9, tp (i64 2)), (10, tp (vb true)), (11, tp (V.vp [u16 u])), (12, tp (u16 u)), (13, tp (u16 (ior IntKind.u16 s t))), (14, tp (u16 u)), (15, tp (u16 (ior IntKind.u16 (ior IntKind.u16 s t) u))), (16, tp (i64 2))] []) (by kernel_rfl) trivial ?_
  refine xe0 [0, 4, 6, 7, 8, 9, 10, 11, 12, 13, 14, 15, 16] [] (by kernel_rfl) ?_
  refine AWP.seq ?_
  refine AWP.condF (by kernel_rfl) ?_
  refine AWP.exit ?_
  refine xe0 [4] [] (by kernel_rfl) ?_
  refine AWP.ret ?_
  refine ⟨Or.inr rfl, Eq.trans (b := some ([], u16 (ior IntKind.u16 (ior IntKind.u16 s t) u))) (by kernel_rfl) ?_⟩
  rfl
theorem con_within (s t : Int) : Con Tryd.prog 25 [] [u16 s, u16 t] [] (vb (iandNot .u16 s t == 0)) := by
  refine Con.of (C := ⟨Tryd.prog, tc, Tryd.f25.ntmps⟩) [] tcok Tryd.func25 rfl rfl (by kernel_rfl) (by kernel_rfl) ?_
  refine xe0 [0, 1, 4] [] (by kernel_rfl) ?_
  refine xe1 [(2, ⟨none, some ⟨u16 (iandNot IntKind.u16 s t), [], []⟩⟩)] [4] [] (by kernel_rfl) (AllP.c (con_less (s) (t)) AllP.n) ?_
  refine AWP.ret ?_
  refine ⟨Or.inr rfl, Eq.trans (b := some ([], vb (iandNot IntKind.u16 s t == 0))) (by kernel_rfl) ?_⟩
  rfl
theorem iand255 (s : Int) (hs : 0 ≤ s ∧ s < 65536) : iand .u16 s 255 = s % 256 := by
  rw [iand16, BitVec.toNat_and]
  have e := u16_bv s hs
  have e2 : (BitVec.ofInt 16 255).toNat = 2 ^ 8 - 1 := rfl
  rw [e2, Nat.and_two_pow_sub_one_eq_mod]
  omega
def tab8 : ByteArray := ⟨#[0, 1, 1, 2, 1, 2, 2, 3, 1, 2, 2, 3, 2, 3, 3, 4, 1, 2, 2, 3, 2, 3, 3, 4, 2, 3, 3, 4, 3, 4, 4, 5, 1, 2, 2, 3, 2, 3, 3, 4, 2, 3, 3, 4, 3, 4, 4, 5, 2, 3, 3, 4, 3, 4, 4, 5, 3, 4, 4, 5, 4, 5, 5, 6, 1, 2, 2, 3, 2, 3, 3, 4, 2, 3, 3, 4, 3, 4, 4, 5, 2, 3, 3, 4, 3, 4, 4, 5, 3, 4, 4, 5, 4, 5, 5, 6, 2, 3, 3, 4, 3, 4, 4, 5, 3, 4, 4, 5, 4, 5, 5, 6, 3, 4, 4, 5, 4, 5, 5, 6, 4, 5, 5, 6, 5, 6, 6, 7, 1, 2, 2, 3, 2, 3, 3, 4, 2, 3, 3, 4, 3, 4, 4, 5, 2, 3, 3, 4, 3, 4, 4, 5, 3, 4, 4, 5, 4, 5, 5, 6, 2, 3, 3, 4, 3, 4, 4, 5, 3, 4, 4, 5, 4, 5, 5, 6, 3, 4, 4, 5, 4, 5, 5, 6, 4, 5, 5, 6, 5, 6, 6, 7, 2, 3, 3, 4, 3, 4, 4, 5, 3, 4, 4, 5, 4, 5, 5, 6, 3, 4, 4, 5, 4, 5, 5, 6, 4, 5, 5, 6, 5, 6, 6, 7, 3, 4, 4, 5, 4, 5, 5, 6, 4, 5, 5, 6, 5, 6, 6, 7, 4, 5, 5, 6, 5, 6, 6, 7, 5, 6, 6, 7, 6, 7, 7, 8]⟩
/-- How many bits. -/
def pop (s : Int) : Int := (sAt tab8 (s / 256).toNat + sAt tab8 (s % 256).toNat) % 256
theorem con_ones (s : Int) (hs : 0 ≤ s ∧ s < 65536) : Con Tryd.prog 27 [] [u16 s] [] (i64 (pop s)) := by
  have wf := iand255 s hs
  refine Con.of (C := ⟨Tryd.prog, tc, Tryd.f27.ntmps⟩) [] tcok Tryd.func27 rfl rfl (by kernel_rfl) (by kernel_rfl) ?_
  refine xe0 [0, 2] [] (by kernel_rfl) ?_
  refine xe1 (os := [(0 : Int) ≤ (8 : Int), u16 (ishr IntKind.u16 s 8) = u16 (s / 256), (0 : Int) ≤ s / (256 : Int) ∧ s / (256 : Int) < (↑(ByteArray.size (ByteArray.mk (List.toArray (List.append (List.append [(0 : UInt8), (1 : UInt8), (1 : UInt8), (2 : UInt8), (1 : UInt8), (2 : UInt8), (2 : UInt8), (3 : UInt8), (1 : UInt8), (2 : UInt8), (2 : UInt8), (3 : UInt8), (2 : UInt8), (3 : UInt8), (3 : UInt8), (4 : UInt8), (1 : UInt8), (2 : UInt8), (2 : UInt8), (3 : UInt8), (2 : UInt8), (3 : UInt8), (3 : UInt8), (4 : UInt8), (2 : UInt8), (3 : UInt8), (3 : UInt8), (4 : UInt8), (3 : UInt8), (4 : UInt8), (4 : UInt8), (5 : UInt8), (1 : UInt8), (2 : UInt8), (2 : UInt8), (3 : UInt8), (2 : UInt8), (3 : UInt8), (3 : UInt8), (4 : UInt8), (2 : UInt8), (3 : UInt8), (3 : UInt8), (4 : UInt8), (3 : UInt8), (4 : UInt8), (4 : UInt8), (5 : UInt8), (2 : UInt8), (3 : UInt8), (3 : UInt8), (4 : UInt8), (3 : UInt8), (4 : UInt8), (4 : UInt8), (5 : UInt8), (3 : UInt8), (4 : UInt8), (4 : UInt8), (5 : UInt8), (4 : UInt8), (5 : UInt8), (5 : UInt8), (6 : UInt8)] [(1 : UInt8), (2 : UInt8), (2 : UInt8), (3 : UInt8), (2 : UInt8), (3 : UInt8), (3 : UInt8), (4 : UInt8), (2 : UInt8), (3 : UInt8), (3 : UInt8), (4 : UInt8), (3 : UInt8), (4 : UInt8), (4 : UInt8), (5 : UInt8), (2 : UInt8), (3 : UInt8), (3 : UInt8), (4 : UInt8), (3 : UInt8), (4 : UInt8), (4 : UInt8), (5 : UInt8), (3 : UInt8), (4 : UInt8), (4 : UInt8), (5 : UInt8), (4 : UInt8), (5 : UInt8), (5 : UInt8), (6 : UInt8), (2 : UInt8), (3 : UInt8), (3 : UInt8), (4 : UInt8), (3 : UInt8), (4 : UInt8), (4 : UInt8), (5 : UInt8), (3 : UInt8), (4 : UInt8), (4 : UInt8), (5 : UInt8), (4 : UInt8), (5 : UInt8), (5 : UInt8), (6 : UInt8), (3 : UInt8), (4 : UInt8), (4 : UInt8), (5 : UInt8), (4 : UInt8), (5 : UInt8), (5 : UInt8), (6 : UInt8), (4 : UInt8), (5 : UInt8), (5 : UInt8), (6 : UInt8), (5 : UInt8), (6 : UInt8), (6 : UInt8), (7 : UInt8)]) (List.append [(1 : UInt8), (2 : UInt8), (2 : UInt8), (3 : UInt8), (2 : UInt8), (3 : UInt8), (3 : UInt8), (4 : UInt8), (2 : UInt8), (3 : UInt8), (3 : UInt8), (4 : UInt8), (3 : UInt8), (4 : UInt8), (4 : UInt8), (5 : UInt8), (2 : UInt8), (3 : UInt8), (3 : UInt8), (4 : UInt8), (3 : UInt8), (4 : UInt8), (4 : UInt8), (5 : UInt8), (3 : UInt8), (4 : UInt8), (4 : UInt8), (5 : UInt8), (4 : UInt8), (5 : UInt8), (5 : UInt8), (6 : UInt8), (2 : UInt8), (3 : UInt8), (3 : UInt8), (4 : UInt8), (3 : UInt8), (4 : UInt8), (4 : UInt8), (5 : UInt8), (3 : UInt8), (4 : UInt8), (4 : UInt8), (5 : UInt8), (4 : UInt8), (5 : UInt8), (5 : UInt8), (6 : UInt8), (3 : UInt8), (4 : UInt8), (4 : UInt8), (5 : UInt8), (4 : UInt8), (5 : UInt8), (5 : UInt8), (6 : UInt8), (4 : UInt8), (5 : UInt8), (5 : UInt8), (6 : UInt8), (5 : UInt8), (6 : UInt8), (6 : UInt8), (7 : UInt8)] [(2 : UInt8), (3 : UInt8), (3 : UInt8), (4 : UInt8), (3 : UInt8), (4 : UInt8), (4 : UInt8), (5 : UInt8), (3 : UInt8), (4 : UInt8), (4 : UInt8), (5 : UInt8), (4 : UInt8), (5 : UInt8), (5 : UInt8), (6 : UInt8), (3 : UInt8), (4 : UInt8), (4 : UInt8), (5 : UInt8), (4 : UInt8), (5 : UInt8), (5 : UInt8), (6 : UInt8), (4 : UInt8), (5 : UInt8), (5 : UInt8), (6 : UInt8), (5 : UInt8), (6 : UInt8), (6 : UInt8), (7 : UInt8), (3 : UInt8), (4 : UInt8), (4 : UInt8), (5 : UInt8), (4 : UInt8), (5 : UInt8), (5 : UInt8), (6 : UInt8), (4 : UInt8), (5 : UInt8), (5 : UInt8), (6 : UInt8), (5 : UInt8), (6 : UInt8), (6 : UInt8), (7 : UInt8), (4 : UInt8), (5 : UInt8), (5 : UInt8), (6 : UInt8), (5 : UInt8), (6 : UInt8), (6 : UInt8), (7 : UInt8), (5 : UInt8), (6 : UInt8), (6 : UInt8), (7 : UInt8), (6 : UInt8), (7 : UInt8), (7 : UInt8), (8 : UInt8)]))))) : Int), u8 (sAt (ByteArray.mk (List.toArray (List.append (List.append [0, 1, 1, 2, 1, 2, 2, 3, 1, 2, 2, 3, 2, 3, 3, 4, 1, 2, 2, 3, 2, 3, 3, 4, 2, 3, 3, 4, 3, 4, 4, 5, 1, 2, 2, 3, 2, 3, 3, 4, 2, 3, 3, 4, 3, 4, 4, 5, 2, 3, 3, 4, 3, 4, 4, 5, 3, 4, 4, 5, 4, 5, 5, 6] [1, 2, 2, 3, 2, 3, 3, 4, 2, 3, 3, 4, 3, 4, 4, 5, 2, 3, 3, 4, 3, 4, 4, 5, 3, 4, 4, 5, 4, 5, 5, 6, 2, 3, 3, 4, 3, 4, 4, 5, 3, 4, 4, 5, 4, 5, 5, 6, 3, 4, 4, 5, 4, 5, 5, 6, 4, 5, 5, 6, 5, 6, 6, 7]) (List.append [1, 2, 2, 3, 2, 3, 3, 4, 2, 3, 3, 4, 3, 4, 4, 5, 2, 3, 3, 4, 3, 4, 4, 5, 3, 4, 4, 5, 4, 5, 5, 6, 2, 3, 3, 4, 3, 4, 4, 5, 3, 4, 4, 5, 4, 5, 5, 6, 3, 4, 4, 5, 4, 5, 5, 6, 4, 5, 5, 6, 5, 6, 6, 7] [2, 3, 3, 4, 3, 4, 4, 5, 3, 4, 4, 5, 4, 5, 5, 6, 3, 4, 4, 5, 4, 5, 5, 6, 4, 5, 5, 6, 5, 6, 6, 7, 3, 4, 4, 5, 4, 5, 5, 6, 4, 5, 5, 6, 5, 6, 6, 7, 4, 5, 5, 6, 5, 6, 6, 7, 5, 6, 6, 7, 6, 7, 7, 8])))) (Int.toNat (s / 256))) = u8 (sAt (ByteArray.mk (List.toArray (List.append (List.append [0, 1, 1, 2, 1, 2, 2, 3, 1, 2, 2, 3, 2, 3, 3, 4, 1, 2, 2, 3, 2, 3, 3, 4, 2, 3, 3, 4, 3, 4, 4, 5, 1, 2, 2, 3, 2, 3, 3, 4, 2, 3, 3, 4, 3, 4, 4, 5, 2, 3, 3, 4, 3, 4, 4, 5, 3, 4, 4, 5, 4, 5, 5, 6] [1, 2, 2, 3, 2, 3, 3, 4, 2, 3, 3, 4, 3, 4, 4, 5, 2, 3, 3, 4, 3, 4, 4, 5, 3, 4, 4, 5, 4, 5, 5, 6, 2, 3, 3, 4, 3, 4, 4, 5, 3, 4, 4, 5, 4, 5, 5, 6, 3, 4, 4, 5, 4, 5, 5, 6, 4, 5, 5, 6, 5, 6, 6, 7]) (List.append [1, 2, 2, 3, 2, 3, 3, 4, 2, 3, 3, 4, 3, 4, 4, 5, 2, 3, 3, 4, 3, 4, 4, 5, 3, 4, 4, 5, 4, 5, 5, 6, 2, 3, 3, 4, 3, 4, 4, 5, 3, 4, 4, 5, 4, 5, 5, 6, 3, 4, 4, 5, 4, 5, 5, 6, 4, 5, 5, 6, 5, 6, 6, 7] [2, 3, 3, 4, 3, 4, 4, 5, 3, 4, 4, 5, 4, 5, 5, 6, 3, 4, 4, 5, 4, 5, 5, 6, 4, 5, 5, 6, 5, 6, 6, 7, 3, 4, 4, 5, 4, 5, 5, 6, 4, 5, 5, 6, 5, 6, 6, 7, 4, 5, 5, 6, 5, 6, 6, 7, 5, 6, 6, 7, 6, 7, 7, 8])))) (Int.toNat (s / 256))), u16 (iand IntKind.u16 s 255) = u16 (s % 256), (0 : Int) ≤ s % (256 : Int) ∧ s % (256 : Int) < (↑(ByteArray.size (ByteArray.mk (List.toArray (List.append (List.append [(0 : UInt8), (1 : UInt8), (1 : UInt8), (2 : UInt8), (1 : UInt8), (2 : UInt8), (2 : UInt8), (3 : UInt8), (1 : UInt8), (2 : UInt8), (2 : UInt8), (3 : UInt8), (2 : UInt8), (3 : UInt8), (3 : UInt8), (4 : UInt8), (1 : UInt8), (2 : UInt8), (2 : UInt8), (3 : UInt8), (2 : UInt8), (3 : UInt8), (3 : UInt8), (4 : UInt8), (2 : UInt8), (3 : UInt8), (3 : UInt8), (4 : UInt8), (3 : UInt8), (4 : UInt8), (4 : UInt8), (5 : UInt8), (1 : UInt8), (2 : UInt8), (2 : UInt8), (3 : UInt8), (2 : UInt8), (3 : UInt8), (3 : UInt8), (4 : UInt8), (2 : UInt8), (3 : UInt8), (3 : UInt8), (4 : UInt8), (3 : UInt8), (4 : UInt8), (4 : UInt8), (5 : UInt8), (2 : UInt8), (3 : UInt8), (3 : UInt8), (4 : UInt8), (3 : UInt8), (4 : UInt8), (4 : UInt8), (5 : UInt8), (3 : UInt8), (4 : UInt8), (4 : UInt8), (5 : UInt8), (4 : UInt8), (5 : UInt8), (5 : UInt8), (6 : UInt8)] [(1 : UInt8), (2 : UInt8), (2 : UInt8), (3 : UInt8), (2 : UInt8), (3 : UInt8), (3 : UInt8), (4 : UInt8), (2 : UInt8), (3 : UInt8), (3 : UInt8), (4 : UInt8), (3 : UInt8), (4 : UInt8), (4 : UInt8), (5 : UInt8), (2 : UInt8), (3 : UInt8), (3 : UInt8), (4 : UInt8), (3 : UInt8), (4 : UInt8), (4 : UInt8), (5 : UInt8), (3 : UInt8), (4 : UInt8), (4 : UInt8), (5 : UInt8), (4 : UInt8), (5 : UInt8), (5 : UInt8), (6 : UInt8), (2 : UInt8), (3 : UInt8), (3 : UInt8), (4 : UInt8), (3 : UInt8), (4 : UInt8), (4 : UInt8), (5 : UInt8), (3 : UInt8), (4 : UInt8), (4 : UInt8), (5 : UInt8), (4 : UInt8), (5 : UInt8), (5 : UInt8), (6 : UInt8), (3 : UInt8), (4 : UInt8), (4 : UInt8), (5 : UInt8), (4 : UInt8), (5 : UInt8), (5 : UInt8), (6 : UInt8), (4 : UInt8), (5 : UInt8), (5 : UInt8), (6 : UInt8), (5 : UInt8), (6 : UInt8), (6 : UInt8), (7 : UInt8)]) (List.append [(1 : UInt8), (2 : UInt8), (2 : UInt8), (3 : UInt8), (2 : UInt8), (3 : UInt8), (3 : UInt8), (4 : UInt8), (2 : UInt8), (3 : UInt8), (3 : UInt8), (4 : UInt8), (3 : UInt8), (4 : UInt8), (4 : UInt8), (5 : UInt8), (2 : UInt8), (3 : UInt8), (3 : UInt8), (4 : UInt8), (3 : UInt8), (4 : UInt8), (4 : UInt8), (5 : UInt8), (3 : UInt8), (4 : UInt8), (4 : UInt8), (5 : UInt8), (4 : UInt8), (5 : UInt8), (5 : UInt8), (6 : UInt8), (2 : UInt8), (3 : UInt8), (3 : UInt8), (4 : UInt8), (3 : UInt8), (4 : UInt8), (4 : UInt8), (5 : UInt8), (3 : UInt8), (4 : UInt8), (4 : UInt8), (5 : UInt8), (4 : UInt8), (5 : UInt8), (5 : UInt8), (6 : UInt8), (3 : UInt8), (4 : UInt8), (4 : UInt8), (5 : UInt8), (4 : UInt8), (5 : UInt8), (5 : UInt8), (6 : UInt8), (4 : UInt8), (5 : UInt8), (5 : UInt8), (6 : UInt8), (5 : UInt8), (6 : UInt8), (6 : UInt8), (7 : UInt8)] [(2 : UInt8), (3 : UInt8), (3 : UInt8), (4 : UInt8), (3 : UInt8), (4 : UInt8), (4 : UInt8), (5 : UInt8), (3 : UInt8), (4 : UInt8), (4 : UInt8), (5 : UInt8), (4 : UInt8), (5 : UInt8), (5 : UInt8), (6 : UInt8), (3 : UInt8), (4 : UInt8), (4 : UInt8), (5 : UInt8), (4 : UInt8), (5 : UInt8), (5 : UInt8), (6 : UInt8), (4 : UInt8), (5 : UInt8), (5 : UInt8), (6 : UInt8), (5 : UInt8), (6 : UInt8), (6 : UInt8), (7 : UInt8), (3 : UInt8), (4 : UInt8), (4 : UInt8), (5 : UInt8), (4 : UInt8), (5 : UInt8), (5 : UInt8), (6 : UInt8), (4 : UInt8), (5 : UInt8), (5 : UInt8), (6 : UInt8), (5 : UInt8), (6 : UInt8), (6 : UInt8), (7 : UInt8), (4 : UInt8), (5 : UInt8), (5 : UInt8), (6 : UInt8), (5 : UInt8), (6 : UInt8), (6 : UInt8), (7 : UInt8), (5 : UInt8), (6 : UInt8), (6 : UInt8), (7 : UInt8), (6 : UInt8), (7 : UInt8), (7 : UInt8), (8 : UInt8)]))))) : Int), u8 (sAt (ByteArray.mk (List.toArray (List.append (List.append [0, 1, 1, 2, 1, 2, 2, 3, 1, 2, 2, 3, 2, 3, 3, 4, 1, 2, 2, 3, 2, 3, 3, 4, 2, 3, 3, 4, 3, 4, 4, 5, 1, 2, 2, 3, 2, 3, 3, 4, 2, 3, 3, 4, 3, 4, 4, 5, 2, 3, 3, 4, 3, 4, 4, 5, 3, 4, 4, 5, 4, 5, 5, 6] [1, 2, 2, 3, 2, 3, 3, 4, 2, 3, 3, 4, 3, 4, 4, 5, 2, 3, 3, 4, 3, 4, 4, 5, 3, 4, 4, 5, 4, 5, 5, 6, 2, 3, 3, 4, 3, 4, 4, 5, 3, 4, 4, 5, 4, 5, 5, 6, 3, 4, 4, 5, 4, 5, 5, 6, 4, 5, 5, 6, 5, 6, 6, 7]) (List.append [1, 2, 2, 3, 2, 3, 3, 4, 2, 3, 3, 4, 3, 4, 4, 5, 2, 3, 3, 4, 3, 4, 4, 5, 3, 4, 4, 5, 4, 5, 5, 6, 2, 3, 3, 4, 3, 4, 4, 5, 3, 4, 4, 5, 4, 5, 5, 6, 3, 4, 4, 5, 4, 5, 5, 6, 4, 5, 5, 6, 5, 6, 6, 7] [2, 3, 3, 4, 3, 4, 4, 5, 3, 4, 4, 5, 4, 5, 5, 6, 3, 4, 4, 5, 4, 5, 5, 6, 4, 5, 5, 6, 5, 6, 6, 7, 3, 4, 4, 5, 4, 5, 5, 6, 4, 5, 5, 6, 5, 6, 6, 7, 4, 5, 5, 6, 5, 6, 6, 7, 5, 6, 6, 7, 6, 7, 7, 8])))) (Int.toNat (s % 256))) = u8 (sAt (ByteArray.mk (List.toArray (List.append (List.append [0, 1, 1, 2, 1, 2, 2, 3, 1, 2, 2, 3, 2, 3, 3, 4, 1, 2, 2, 3, 2, 3, 3, 4, 2, 3, 3, 4, 3, 4, 4, 5, 1, 2, 2, 3, 2, 3, 3, 4, 2, 3, 3, 4, 3, 4, 4, 5, 2, 3, 3, 4, 3, 4, 4, 5, 3, 4, 4, 5, 4, 5, 5, 6] [1, 2, 2, 3, 2, 3, 3, 4, 2, 3, 3, 4, 3, 4, 4, 5, 2, 3, 3, 4, 3, 4, 4, 5, 3, 4, 4, 5, 4, 5, 5, 6, 2, 3, 3, 4, 3, 4, 4, 5, 3, 4, 4, 5, 4, 5, 5, 6, 3, 4, 4, 5, 4, 5, 5, 6, 4, 5, 5, 6, 5, 6, 6, 7]) (List.append [1, 2, 2, 3, 2, 3, 3, 4, 2, 3, 3, 4, 3, 4, 4, 5, 2, 3, 3, 4, 3, 4, 4, 5, 3, 4, 4, 5, 4, 5, 5, 6, 2, 3, 3, 4, 3, 4, 4, 5, 3, 4, 4, 5, 4, 5, 5, 6, 3, 4, 4, 5, 4, 5, 5, 6, 4, 5, 5, 6, 5, 6, 6, 7] [2, 3, 3, 4, 3, 4, 4, 5, 3, 4, 4, 5, 4, 5, 5, 6, 3, 4, 4, 5, 4, 5, 5, 6, 4, 5, 5, 6, 5, 6, 6, 7, 3, 4, 4, 5, 4, 5, 5, 6, 4, 5, 5, 6, 5, 6, 6, 7, 4, 5, 5, 6, 5, 6, 6, 7, 5, 6, 6, 7, 6, 7, 7, 8])))) (Int.toNat (s % 256))), u8 (IntKind.wrap IntKind.u8 (sAt (ByteArray.mk (List.toArray (List.append (List.append [0, 1, 1, 2, 1, 2, 2, 3, 1, 2, 2, 3, 2, 3, 3, 4, 1, 2, 2, 3, 2, 3, 3, 4, 2, 3, 3, 4, 3, 4, 4, 5, 1, 2, 2, 3, 2, 3, 3, 4, 2, 3, 3, 4, 3, 4, 4, 5, 2, 3, 3, 4, 3, 4, 4, 5, 3, 4, 4, 5, 4, 5, 5, 6] [1, 2, 2, 3, 2, 3, 3, 4, 2, 3, 3, 4, 3, 4, 4, 5, 2, 3, 3, 4, 3, 4, 4, 5, 3, 4, 4, 5, 4, 5, 5, 6, 2, 3, 3, 4, 3, 4, 4, 5, 3, 4, 4, 5, 4, 5, 5, 6, 3, 4, 4, 5, 4, 5, 5, 6, 4, 5, 5, 6, 5, 6, 6, 7]) (List.append [1, 2, 2, 3, 2, 3, 3, 4, 2, 3, 3, 4, 3, 4, 4, 5, 2, 3, 3, 4, 3, 4, 4, 5, 3, 4, 4, 5, 4, 5, 5, 6, 2, 3, 3, 4, 3, 4, 4, 5, 3, 4, 4, 5, 4, 5, 5, 6, 3, 4, 4, 5, 4, 5, 5, 6, 4, 5, 5, 6, 5, 6, 6, 7] [2, 3, 3, 4, 3, 4, 4, 5, 3, 4, 4, 5, 4, 5, 5, 6, 3, 4, 4, 5, 4, 5, 5, 6, 4, 5, 5, 6, 5, 6, 6, 7, 3, 4, 4, 5, 4, 5, 5, 6, 4, 5, 5, 6, 5, 6, 6, 7, 4, 5, 5, 6, 5, 6, 6, 7, 5, 6, 6, 7, 6, 7, 7, 8])))) (Int.toNat (s / 256)) + sAt (ByteArray.mk (List.toArray (List.append (List.append [0, 1, 1, 2, 1, 2, 2, 3, 1, 2, 2, 3, 2, 3, 3, 4, 1, 2, 2, 3, 2, 3, 3, 4, 2, 3, 3, 4, 3, 4, 4, 5, 1, 2, 2, 3, 2, 3, 3, 4, 2, 3, 3, 4, 3, 4, 4, 5, 2, 3, 3, 4, 3, 4, 4, 5, 3, 4, 4, 5, 4, 5, 5, 6] [1, 2, 2, 3, 2, 3, 3, 4, 2, 3, 3, 4, 3, 4, 4, 5, 2, 3, 3, 4, 3, 4, 4, 5, 3, 4, 4, 5, 4, 5, 5, 6, 2, 3, 3, 4, 3, 4, 4, 5, 3, 4, 4, 5, 4, 5, 5, 6, 3, 4, 4, 5, 4, 5, 5, 6, 4, 5, 5, 6, 5, 6, 6, 7]) (List.append [1, 2, 2, 3, 2, 3, 3, 4, 2, 3, 3, 4, 3, 4, 4, 5, 2, 3, 3, 4, 3, 4, 4, 5, 3, 4, 4, 5, 4, 5, 5, 6, 2, 3, 3, 4, 3, 4, 4, 5, 3, 4, 4, 5, 4, 5, 5, 6, 3, 4, 4, 5, 4, 5, 5, 6, 4, 5, 5, 6, 5, 6, 6, 7] [2, 3, 3, 4, 3, 4, 4, 5, 3, 4, 4, 5, 4, 5, 5, 6, 3, 4, 4, 5, 4, 5, 5, 6, 4, 5, 5, 6, 5, 6, 6, 7, 3, 4, 4, 5, 4, 5, 5, 6, 4, 5, 5, 6, 5, 6, 6, 7, 4, 5, 5, 6, 5, 6, 6, 7, 5, 6, 6, 7, 6, 7, 7, 8])))) (Int.toNat (s % 256)))) = u8 ((sAt (ByteArray.mk (List.toArray (List.append (List.append [0, 1, 1, 2, 1, 2, 2, 3, 1, 2, 2, 3, 2, 3, 3, 4, 1, 2, 2, 3, 2, 3, 3, 4, 2, 3, 3, 4, 3, 4, 4, 5, 1, 2, 2, 3, 2, 3, 3, 4, 2, 3, 3, 4, 3, 4, 4, 5, 2, 3, 3, 4, 3, 4, 4, 5, 3, 4, 4, 5, 4, 5, 5, 6] [1, 2, 2, 3, 2, 3, 3, 4, 2, 3, 3, 4, 3, 4, 4, 5, 2, 3, 3, 4, 3, 4, 4, 5, 3, 4, 4, 5, 4, 5, 5, 6, 2, 3, 3, 4, 3, 4, 4, 5, 3, 4, 4, 5, 4, 5, 5, 6, 3, 4, 4, 5, 4, 5, 5, 6, 4, 5, 5, 6, 5, 6, 6, 7]) (List.append [1, 2, 2, 3, 2, 3, 3, 4, 2, 3, 3, 4, 3, 4, 4, 5, 2, 3, 3, 4, 3, 4, 4, 5, 3, 4, 4, 5, 4, 5, 5, 6, 2, 3, 3, 4, 3, 4, 4, 5, 3, 4, 4, 5, 4, 5, 5, 6, 3, 4, 4, 5, 4, 5, 5, 6, 4, 5, 5, 6, 5, 6, 6, 7] [2, 3, 3, 4, 3, 4, 4, 5, 3, 4, 4, 5, 4, 5, 5, 6, 3, 4, 4, 5, 4, 5, 5, 6, 4, 5, 5, 6, 5, 6, 6, 7, 3, 4, 4, 5, 4, 5, 5, 6, 4, 5, 5, 6, 5, 6, 6, 7, 4, 5, 5, 6, 5, 6, 6, 7, 5, 6, 6, 7, 6, 7, 7, 8])))) (Int.toNat (s / 256)) + sAt (ByteArray.mk (List.toArray (List.append (List.append [0, 1, 1, 2, 1, 2, 2, 3, 1, 2, 2, 3, 2, 3, 3, 4, 1, 2, 2, 3, 2, 3, 3, 4, 2, 3, 3, 4, 3, 4, 4, 5, 1, 2, 2, 3, 2, 3, 3, 4, 2, 3, 3, 4, 3, 4, 4, 5, 2, 3, 3, 4, 3, 4, 4, 5, 3, 4, 4, 5, 4, 5, 5, 6] [1, 2, 2, 3, 2, 3, 3, 4, 2, 3, 3, 4, 3, 4, 4, 5, 2, 3, 3, 4, 3, 4, 4, 5, 3, 4, 4, 5, 4, 5, 5, 6, 2, 3, 3, 4, 3, 4, 4, 5, 3, 4, 4, 5, 4, 5, 5, 6, 3, 4, 4, 5, 4, 5, 5, 6, 4, 5, 5, 6, 5, 6, 6, 7]) (List.append [1, 2, 2, 3, 2, 3, 3, 4, 2, 3, 3, 4, 3, 4, 4, 5, 2, 3, 3, 4, 3, 4, 4, 5, 3, 4, 4, 5, 4, 5, 5, 6, 2, 3, 3, 4, 3, 4, 4, 5, 3, 4, 4, 5, 4, 5, 5, 6, 3, 4, 4, 5, 4, 5, 5, 6, 4, 5, 5, 6, 5, 6, 6, 7] [2, 3, 3, 4, 3, 4, 4, 5, 3, 4, 4, 5, 4, 5, 5, 6, 3, 4, 4, 5, 4, 5, 5, 6, 4, 5, 5, 6, 5, 6, 6, 7, 3, 4, 4, 5, 4, 5, 5, 6, 4, 5, 5, 6, 5, 6, 6, 7, 4, 5, 5, 6, 5, 6, 6, 7, 5, 6, 6, 7, 6, 7, 7, 8])))) (Int.toNat (s % 256))) % 256), i64 (IntKind.wrap IntKind.i64 ((sAt (ByteArray.mk (List.toArray (List.append (List.append [0, 1, 1, 2, 1, 2, 2, 3, 1, 2, 2, 3, 2, 3, 3, 4, 1, 2, 2, 3, 2, 3, 3, 4, 2, 3, 3, 4, 3, 4, 4, 5, 1, 2, 2, 3, 2, 3, 3, 4, 2, 3, 3, 4, 3, 4, 4, 5, 2, 3, 3, 4, 3, 4, 4, 5, 3, 4, 4, 5, 4, 5, 5, 6] [1, 2, 2, 3, 2, 3, 3, 4, 2, 3, 3, 4, 3, 4, 4, 5, 2, 3, 3, 4, 3, 4, 4, 5, 3, 4, 4, 5, 4, 5, 5, 6, 2, 3, 3, 4, 3, 4, 4, 5, 3, 4, 4, 5, 4, 5, 5, 6, 3, 4, 4, 5, 4, 5, 5, 6, 4, 5, 5, 6, 5, 6, 6, 7]) (List.append [1, 2, 2, 3, 2, 3, 3, 4, 2, 3, 3, 4, 3, 4, 4, 5, 2, 3, 3, 4, 3, 4, 4, 5, 3, 4, 4, 5, 4, 5, 5, 6, 2, 3, 3, 4, 3, 4, 4, 5, 3, 4, 4, 5, 4, 5, 5, 6, 3, 4, 4, 5, 4, 5, 5, 6, 4, 5, 5, 6, 5, 6, 6, 7] [2, 3, 3, 4, 3, 4, 4, 5, 3, 4, 4, 5, 4, 5, 5, 6, 3, 4, 4, 5, 4, 5, 5, 6, 4, 5, 5, 6, 5, 6, 6, 7, 3, 4, 4, 5, 4, 5, 5, 6, 4, 5, 5, 6, 5, 6, 6, 7, 4, 5, 5, 6, 5, 6, 6, 7, 5, 6, 6, 7, 6, 7, 7, 8])))) (Int.toNat (s / 256)) + sAt (ByteArray.mk (List.toArray (List.append (List.append [0, 1, 1, 2, 1, 2, 2, 3, 1, 2, 2, 3, 2, 3, 3, 4, 1, 2, 2, 3, 2, 3, 3, 4, 2, 3, 3, 4, 3, 4, 4, 5, 1, 2, 2, 3, 2, 3, 3, 4, 2, 3, 3, 4, 3, 4, 4, 5, 2, 3, 3, 4, 3, 4, 4, 5, 3, 4, 4, 5, 4, 5, 5, 6] [1, 2, 2, 3, 2, 3, 3, 4, 2, 3, 3, 4, 3, 4, 4, 5, 2, 3, 3, 4, 3, 4, 4, 5, 3, 4, 4, 5, 4, 5, 5, 6, 2, 3, 3, 4, 3, 4, 4, 5, 3, 4, 4, 5, 4, 5, 5, 6, 3, 4, 4, 5, 4, 5, 5, 6, 4, 5, 5, 6, 5, 6, 6, 7]) (List.append [1, 2, 2, 3, 2, 3, 3, 4, 2, 3, 3, 4, 3, 4, 4, 5, 2, 3, 3, 4, 3, 4, 4, 5, 3, 4, 4, 5, 4, 5, 5, 6, 2, 3, 3, 4, 3, 4, 4, 5, 3, 4, 4, 5, 4, 5, 5, 6, 3, 4, 4, 5, 4, 5, 5, 6, 4, 5, 5, 6, 5, 6, 6, 7] [2, 3, 3, 4, 3, 4, 4, 5, 3, 4, 4, 5, 4, 5, 5, 6, 3, 4, 4, 5, 4, 5, 5, 6, 4, 5, 5, 6, 5, 6, 6, 7, 3, 4, 4, 5, 4, 5, 5, 6, 4, 5, 5, 6, 5, 6, 6, 7, 4, 5, 5, 6, 5, 6, 6, 7, 5, 6, 6, 7, 6, 7, 7, 8])))) (Int.toNat (s % 256))) % 256)) = i64 ((sAt (ByteArray.mk (List.toArray (List.append (List.append [0, 1, 1, 2, 1, 2, 2, 3, 1, 2, 2, 3, 2, 3, 3, 4, 1, 2, 2, 3, 2, 3, 3, 4, 2, 3, 3, 4, 3, 4, 4, 5, 1, 2, 2, 3, 2, 3, 3, 4, 2, 3, 3, 4, 3, 4, 4, 5, 2, 3, 3, 4, 3, 4, 4, 5, 3, 4, 4, 5, 4, 5, 5, 6] [1, 2, 2, 3, 2, 3, 3, 4, 2, 3, 3, 4, 3, 4, 4, 5, 2, 3, 3, 4, 3, 4, 4, 5, 3, 4, 4, 5, 4, 5, 5, 6, 2, 3, 3, 4, 3, 4, 4, 5, 3, 4, 4, 5, 4, 5, 5, 6, 3, 4, 4, 5, 4, 5, 5, 6, 4, 5, 5, 6, 5, 6, 6, 7]) (List.append [1, 2, 2, 3, 2, 3, 3, 4, 2, 3, 3, 4, 3, 4, 4, 5, 2, 3, 3, 4, 3, 4, 4, 5, 3, 4, 4, 5, 4, 5, 5, 6, 2, 3, 3, 4, 3, 4, 4, 5, 3, 4, 4, 5, 4, 5, 5, 6, 3, 4, 4, 5, 4, 5, 5, 6, 4, 5, 5, 6, 5, 6, 6, 7] [2, 3, 3, 4, 3, 4, 4, 5, 3, 4, 4, 5, 4, 5, 5, 6, 3, 4, 4, 5, 4, 5, 5, 6, 4, 5, 5, 6, 5, 6, 6, 7, 3, 4, 4, 5, 4, 5, 5, 6, 4, 5, 5, 6, 5, 6, 6, 7, 4, 5, 5, 6, 5, 6, 6, 7, 5, 6, 6, 7, 6, 7, 7, 8])))) (Int.toNat (s / 256)) + sAt (ByteArray.mk (List.toArray (List.append (List.append [0, 1, 1, 2, 1, 2, 2, 3, 1, 2, 2, 3, 2, 3, 3, 4, 1, 2, 2, 3, 2, 3, 3, 4, 2, 3, 3, 4, 3, 4, 4, 5, 1, 2, 2, 3, 2, 3, 3, 4, 2, 3, 3, 4, 3, 4, 4, 5, 2, 3, 3, 4, 3, 4, 4, 5, 3, 4, 4, 5, 4, 5, 5, 6] [1, 2, 2, 3, 2, 3, 3, 4, 2, 3, 3, 4, 3, 4, 4, 5, 2, 3, 3, 4, 3, 4, 4, 5, 3, 4, 4, 5, 4, 5, 5, 6, 2, 3, 3, 4, 3, 4, 4, 5, 3, 4, 4, 5, 4, 5, 5, 6, 3, 4, 4, 5, 4, 5, 5, 6, 4, 5, 5, 6, 5, 6, 6, 7]) (List.append [1, 2, 2, 3, 2, 3, 3, 4, 2, 3, 3, 4, 3, 4, 4, 5, 2, 3, 3, 4, 3, 4, 4, 5, 3, 4, 4, 5, 4, 5, 5, 6, 2, 3, 3, 4, 3, 4, 4, 5, 3, 4, 4, 5, 4, 5, 5, 6, 3, 4, 4, 5, 4, 5, 5, 6, 4, 5, 5, 6, 5, 6, 6, 7] [2, 3, 3, 4, 3, 4, 4, 5, 3, 4, 4, 5, 4, 5, 5, 6, 3, 4, 4, 5, 4, 5, 5, 6, 4, 5, 5, 6, 5, 6, 6, 7, 3, 4, 4, 5, 4, 5, 5, 6, 4, 5, 5, 6, 5, 6, 6, 7, 4, 5, 5, 6, 5, 6, 6, 7, 5, 6, 6, 7, 6, 7, 7, 8])))) (Int.toNat (s % 256))) % 256)]) [(1, ⟨some (u16 (s / 256)), none⟩), (2, ⟨some (u8 (sAt (ByteArray.mk (List.toArray (List.append (List.append [0, 1, 1, 2, 1, 2, 2, 3, 1, 2, 2, 3, 2, 3, 3, 4, 1, 2, 2, 3, 2, 3, 3, 4, 2, 3, 3, 4, 3, 4, 4, 5, 1, 2, 2, 3, 2, 3, 3, 4, 2, 3, 3, 4, 3, 4, 4, 5, 2, 3, 3, 4, 3, 4, 4, 5, 3, 4, 4, 5, 4, 5, 5, 6] [1, 2, 2, 3, 2, 3, 3, 4, 2, 3, 3, 4, 3, 4, 4, 5, 2, 3, 3, 4, 3, 4, 4, 5, 3, 4, 4, 5, 4, 5, 5, 6, 2, 3, 3, 4, 3, 4, 4, 5, 3, 4, 4, 5, 4, 5, 5, 6, 3, 4, 4, 5, 4, 5, 5, 6, 4, 5, 5, 6, 5, 6, 6, 7]) (List.append [1, 2, 2, 3, 2, 3, 3, 4, 2, 3, 3, 4, 3, 4, 4, 5, 2, 3, 3, 4, 3, 4, 4, 5, 3, 4, 4, 5, 4, 5, 5, 6, 2, 3, 3, 4, 3, 4, 4, 5, 3, 4, 4, 5, 4, 5, 5, 6, 3, 4, 4, 5, 4, 5, 5, 6, 4, 5, 5, 6, 5, 6, 6, 7] [2, 3, 3, 4, 3, 4, 4, 5, 3, 4, 4, 5, 4, 5, 5, 6, 3, 4, 4, 5, 4, 5, 5, 6, 4, 5, 5, 6, 5, 6, 6, 7, 3, 4, 4, 5, 4, 5, 5, 6, 4, 5, 5, 6, 5, 6, 6, 7, 4, 5, 5, 6, 5, 6, 6, 7, 5, 6, 6, 7, 6, 7, 7, 8])))) (Int.toNat (s / 256)))), none⟩), (4, ⟨some (u16 (s % 256)), none⟩), (5, ⟨some (u8 (sAt (ByteArray.mk (List.toArray (List.append (List.append [0, 1, 1, 2, 1, 2, 2, 3, 1, 2, 2, 3, 2, 3, 3, 4, 1, 2, 2, 3, 2, 3, 3, 4, 2, 3, 3, 4, 3, 4, 4, 5, 1, 2, 2, 3, 2, 3, 3, 4, 2, 3, 3, 4, 3, 4, 4, 5, 2, 3, 3, 4, 3, 4, 4, 5, 3, 4, 4, 5, 4, 5, 5, 6] [1, 2, 2, 3, 2, 3, 3, 4, 2, 3, 3, 4, 3, 4, 4, 5, 2, 3, 3, 4, 3, 4, 4, 5, 3, 4, 4, 5, 4, 5, 5, 6, 2, 3, 3, 4, 3, 4, 4, 5, 3, 4, 4, 5, 4, 5, 5, 6, 3, 4, 4, 5, 4, 5, 5, 6, 4, 5, 5, 6, 5, 6, 6, 7]) (List.append [1, 2, 2, 3, 2, 3, 3, 4, 2, 3, 3, 4, 3, 4, 4, 5, 2, 3, 3, 4, 3, 4, 4, 5, 3, 4, 4, 5, 4, 5, 5, 6, 2, 3, 3, 4, 3, 4, 4, 5, 3, 4, 4, 5, 4, 5, 5, 6, 3, 4, 4, 5, 4, 5, 5, 6, 4, 5, 5, 6, 5, 6, 6, 7] [2, 3, 3, 4, 3, 4, 4, 5, 3, 4, 4, 5, 4, 5, 5, 6, 3, 4, 4, 5, 4, 5, 5, 6, 4, 5, 5, 6, 5, 6, 6, 7, 3, 4, 4, 5, 4, 5, 5, 6, 4, 5, 5, 6, 5, 6, 6, 7, 4, 5, 5, 6, 5, 6, 6, 7, 5, 6, 6, 7, 6, 7, 7, 8])))) (Int.toNat (s % 256)))), none⟩), (6, ⟨some (u8 ((sAt (ByteArray.mk (List.toArray (List.append (List.append [0, 1, 1, 2, 1, 2, 2, 3, 1, 2, 2, 3, 2, 3, 3, 4, 1, 2, 2, 3, 2, 3, 3, 4, 2, 3, 3, 4, 3, 4, 4, 5, 1, 2, 2, 3, 2, 3, 3, 4, 2, 3, 3, 4, 3, 4, 4, 5, 2, 3, 3, 4, 3, 4, 4, 5, 3, 4, 4, 5, 4, 5, 5, 6] [1, 2, 2, 3, 2, 3, 3, 4, 2, 3, 3, 4, 3, 4, 4, 5, 2, 3, 3, 4, 3, 4, 4, 5, 3, 4, 4, 5, 4, 5, 5, 6, 2, 3, 3, 4, 3, 4, 4, 5, 3, 4, 4, 5, 4, 5, 5, 6, 3, 4, 4, 5, 4, 5, 5, 6, 4, 5, 5, 6, 5, 6, 6, 7]) (List.append [1, 2, 2, 3, 2, 3, 3, 4, 2, 3, 3, 4, 3, 4, 4, 5, 2, 3, 3, 4, 3, 4, 4, 5, 3, 4, 4, 5, 4, 5, 5, 6, 2, 3, 3, 4, 3, 4, 4, 5, 3, 4, 4, 5, 4, 5, 5, 6, 3, 4, 4, 5, 4, 5, 5, 6, 4, 5, 5, 6, 5, 6, 6, 7] [2, 3, 3, 4, 3, 4, 4, 5, 3, 4, 4, 5, 4, 5, 5, 6, 3, 4, 4, 5, 4, 5, 5, 6, 4, 5, 5, 6, 5, 6, 6, 7, 3, 4, 4, 5, 4, 5, 5, 6, 4, 5, 5, 6, 5, 6, 6, 7, 4, 5, 5, 6, 5, 6, 6, 7, 5, 6, 6, 7, 6, 7, 7, 8])))) (Int.toNat (s / 256)) + sAt (ByteArray.mk (List.toArray (List.append (List.append [0, 1, 1, 2, 1, 2, 2, 3, 1, 2, 2, 3, 2, 3, 3, 4, 1, 2, 2, 3, 2, 3, 3, 4, 2, 3, 3, 4, 3, 4, 4, 5, 1, 2, 2, 3, 2, 3, 3, 4, 2, 3, 3, 4, 3, 4, 4, 5, 2, 3, 3, 4, 3, 4, 4, 5, 3, 4, 4, 5, 4, 5, 5, 6] [1, 2, 2, 3, 2, 3, 3, 4, 2, 3, 3, 4, 3, 4, 4, 5, 2, 3, 3, 4, 3, 4, 4, 5, 3, 4, 4, 5, 4, 5, 5, 6, 2, 3, 3, 4, 3, 4, 4, 5, 3, 4, 4, 5, 4, 5, 5, 6, 3, 4, 4, 5, 4, 5, 5, 6, 4, 5, 5, 6, 5, 6, 6, 7]) (List.append [1, 2, 2, 3, 2, 3, 3, 4, 2, 3, 3, 4, 3, 4, 4, 5, 2, 3, 3, 4, 3, 4, 4, 5, 3, 4, 4, 5, 4, 5, 5, 6, 2, 3, 3, 4, 3, 4, 4, 5, 3, 4, 4, 5, 4, 5, 5, 6, 3, 4, 4, 5, 4, 5, 5, 6, 4, 5, 5, 6, 5, 6, 6, 7] [2, 3, 3, 4, 3, 4, 4, 5, 3, 4, 4, 5, 4, 5, 5, 6, 3, 4, 4, 5, 4, 5, 5, 6, 4, 5, 5, 6, 5, 6, 6, 7, 3, 4, 4, 5, 4, 5, 5, 6, 4, 5, 5, 6, 5, 6, 6, 7, 4, 5, 5, 6, 5, 6, 6, 7, 5, 6, 6, 7, 6, 7, 7, 8])))) (Int.toNat (s % 256))) % 256)), none⟩), (7, ⟨some (i64 ((sAt (ByteArray.mk (List.toArray (List.append (List.append [0, 1, 1, 2, 1, 2, 2, 3, 1, 2, 2, 3, 2, 3, 3, 4, 1, 2, 2, 3, 2, 3, 3, 4, 2, 3, 3, 4, 3, 4, 4, 5, 1, 2, 2, 3, 2, 3, 3, 4, 2, 3, 3, 4, 3, 4, 4, 5, 2, 3, 3, 4, 3, 4, 4, 5, 3, 4, 4, 5, 4, 5, 5, 6] [1, 2, 2, 3, 2, 3, 3, 4, 2, 3, 3, 4, 3, 4, 4, 5, 2, 3, 3, 4, 3, 4, 4, 5, 3, 4, 4, 5, 4, 5, 5, 6, 2, 3, 3, 4, 3, 4, 4, 5, 3, 4, 4, 5, 4, 5, 5, 6, 3, 4, 4, 5, 4, 5, 5, 6, 4, 5, 5, 6, 5, 6, 6, 7]) (List.append [1, 2, 2, 3, 2, 3, 3, 4, 2, 3, 3, 4, 3, 4, 4, 5, 2, 3, 3, 4, 3, 4, 4, 5, 3, 4, 4, 5, 4, 5, 5, 6, 2, 3, 3, 4, 3, 4, 4, 5, 3, 4, 4, 5, 4, 5, 5, 6, 3, 4, 4, 5, 4, 5, 5, 6, 4, 5, 5, 6, 5, 6, 6, 7] [2, 3, 3, 4, 3, 4, 4, 5, 3, 4, 4, 5, 4, 5, 5, 6, 3, 4, 4, 5, 4, 5, 5, 6, 4, 5, 5, 6, 5, 6, 6, 7, 3, 4, 4, 5, 4, 5, 5, 6, 4, 5, 5, 6, 5, 6, 6, 7, 4, 5, 5, 6, 5, 6, 6, 7, 5, 6, 6, 7, 6, 7, 7, 8])))) (Int.toNat (s / 256)) + sAt (ByteArray.mk (List.toArray (List.append (List.append [0, 1, 1, 2, 1, 2, 2, 3, 1, 2, 2, 3, 2, 3, 3, 4, 1, 2, 2, 3, 2, 3, 3, 4, 2, 3, 3, 4, 3, 4, 4, 5, 1, 2, 2, 3, 2, 3, 3, 4, 2, 3, 3, 4, 3, 4, 4, 5, 2, 3, 3, 4, 3, 4, 4, 5, 3, 4, 4, 5, 4, 5, 5, 6] [1, 2, 2, 3, 2, 3, 3, 4, 2, 3, 3, 4, 3, 4, 4, 5, 2, 3, 3, 4, 3, 4, 4, 5, 3, 4, 4, 5, 4, 5, 5, 6, 2, 3, 3, 4, 3, 4, 4, 5, 3, 4, 4, 5, 4, 5, 5, 6, 3, 4, 4, 5, 4, 5, 5, 6, 4, 5, 5, 6, 5, 6, 6, 7]) (List.append [1, 2, 2, 3, 2, 3, 3, 4, 2, 3, 3, 4, 3, 4, 4, 5, 2, 3, 3, 4, 3, 4, 4, 5, 3, 4, 4, 5, 4, 5, 5, 6, 2, 3, 3, 4, 3, 4, 4, 5, 3, 4, 4, 5, 4, 5, 5, 6, 3, 4, 4, 5, 4, 5, 5, 6, 4, 5, 5, 6, 5, 6, 6, 7] [2, 3, 3, 4, 3, 4, 4, 5, 3, 4, 4, 5, 4, 5, 5, 6, 3, 4, 4, 5, 4, 5, 5, 6, 4, 5, 5, 6, 5, 6, 6, 7, 3, 4, 4, 5, 4, 5, 5, 6, 4, 5, 5, 6, 5, 6, 6, 7, 4, 5, 5, 6, 5, 6, 6, 7, 5, 6, 6, 7, 6, 7, 7, 8])))) (Int.toNat (s % 256))) % 256)), none⟩)] [2] [] (by kernel_rfl) ⟨(by omega), (shr_eq rfl (by decide)), (by (show 0 ≤ s / 256 ∧ s / 256 < ((256 : Nat) : Int); omega)), rfl, (in_eq wf), (by (show 0 ≤ s % 256 ∧ s % 256 < ((256 : Nat) : Int); omega)), rfl, wm_u8, (wr_i64 (by omega) (by omega)), trivial⟩ ?_
  refine AWP.ret ?_
  refine ⟨Or.inr rfl, Eq.trans (b := some
    ([],
      i64
        ((sAt
              (ByteArray.mk
                (List.toArray
                  (List.append
                    (List.append
                      (let y :=
                        let y :=
                          let y :=
                            let y := [4, 5, 5, 6];
                            3 :: 4 :: 4 :: 5 :: y;
                          let y := 3 :: 4 :: 4 :: 5 :: y;
                          2 :: 3 :: 3 :: 4 :: y;
                        let y :=
                          let y := 3 :: 4 :: 4 :: 5 :: y;
                          2 :: 3 :: 3 :: 4 :: y;
                        let y := 2 :: 3 :: 3 :: 4 :: y;
                        1 :: 2 :: 2 :: 3 :: y;
                      let y :=
                        let y :=
                          let y := 3 :: 4 :: 4 :: 5 :: y;
                          2 :: 3 :: 3 :: 4 :: y;
                        let y := 2 :: 3 :: 3 :: 4 :: y;
                        1 :: 2 :: 2 :: 3 :: y;
                      let y :=
                        let y := 2 :: 3 :: 3 :: 4 :: y;
                        1 :: 2 :: 2 :: 3 :: y;
                      let y := 1 :: 2 :: 2 :: 3 :: y;
                      0 :: 1 :: 1 :: 2 :: y)
                      (let y :=
                        let y :=
                          let y :=
                            let y := [5, 6, 6, 7];
                            4 :: 5 :: 5 :: 6 :: y;
                          let y := 4 :: 5 :: 5 :: 6 :: y;
                          3 :: 4 :: 4 :: 5 :: y;
                        let y :=
                          let y := 4 :: 5 :: 5 :: 6 :: y;
                          3 :: 4 :: 4 :: 5 :: y;
                        let y := 3 :: 4 :: 4 :: 5 :: y;
                        2 :: 3 :: 3 :: 4 :: y;
                      let y :=
                        let y :=
                          let y := 4 :: 5 :: 5 :: 6 :: y;
                          3 :: 4 :: 4 :: 5 :: y;
                        let y := 3 :: 4 :: 4 :: 5 :: y;
                        2 :: 3 :: 3 :: 4 :: y;
                      let y :=
                        let y := 3 :: 4 :: 4 :: 5 :: y;
                        2 :: 3 :: 3 :: 4 :: y;
                      let y := 2 :: 3 :: 3 :: 4 :: y;
                      1 :: 2 :: 2 :: 3 :: y))
                    (List.append
                      (let y :=
                        let y :=
                          let y :=
                            let y := [5, 6, 6, 7];
                            4 :: 5 :: 5 :: 6 :: y;
                          let y := 4 :: 5 :: 5 :: 6 :: y;
                          3 :: 4 :: 4 :: 5 :: y;
                        let y :=
                          let y := 4 :: 5 :: 5 :: 6 :: y;
                          3 :: 4 :: 4 :: 5 :: y;
                        let y := 3 :: 4 :: 4 :: 5 :: y;
                        2 :: 3 :: 3 :: 4 :: y;
                      let y :=
                        let y :=
                          let y := 4 :: 5 :: 5 :: 6 :: y;
                          3 :: 4 :: 4 :: 5 :: y;
                        let y := 3 :: 4 :: 4 :: 5 :: y;
                        2 :: 3 :: 3 :: 4 :: y;
                      let y :=
                        let y := 3 :: 4 :: 4 :: 5 :: y;
                        2 :: 3 :: 3 :: 4 :: y;
                      let y := 2 :: 3 :: 3 :: 4 :: y;
                      1 :: 2 :: 2 :: 3 :: y)
                      (let y :=
                        let y :=
                          let y :=
                            let y := [6, 7, 7, 8];
                            5 :: 6 :: 6 :: 7 :: y;
                          let y := 5 :: 6 :: 6 :: 7 :: y;
                          4 :: 5 :: 5 :: 6 :: y;
                        let y :=
                          let y := 5 :: 6 :: 6 :: 7 :: y;
                          4 :: 5 :: 5 :: 6 :: y;
                        let y := 4 :: 5 :: 5 :: 6 :: y;
                        3 :: 4 :: 4 :: 5 :: y;
                      let y :=
                        let y :=
                          let y := 5 :: 6 :: 6 :: 7 :: y;
                          4 :: 5 :: 5 :: 6 :: y;
                        let y := 4 :: 5 :: 5 :: 6 :: y;
                        3 :: 4 :: 4 :: 5 :: y;
                      let y :=
                        let y := 4 :: 5 :: 5 :: 6 :: y;
                        3 :: 4 :: 4 :: 5 :: y;
                      let y := 3 :: 4 :: 4 :: 5 :: y;
                      2 :: 3 :: 3 :: 4 :: y)))))
              (Int.toNat (s / 256)) +
            sAt
              (ByteArray.mk
                (List.toArray
                  (List.append
                    (List.append
                      (let y :=
                        let y :=
                          let y :=
                            let y := [4, 5, 5, 6];
                            3 :: 4 :: 4 :: 5 :: y;
                          let y := 3 :: 4 :: 4 :: 5 :: y;
                          2 :: 3 :: 3 :: 4 :: y;
                        let y :=
                          let y := 3 :: 4 :: 4 :: 5 :: y;
                          2 :: 3 :: 3 :: 4 :: y;
                        let y := 2 :: 3 :: 3 :: 4 :: y;
                        1 :: 2 :: 2 :: 3 :: y;
                      let y :=
                        let y :=
                          let y := 3 :: 4 :: 4 :: 5 :: y;
                          2 :: 3 :: 3 :: 4 :: y;
                        let y := 2 :: 3 :: 3 :: 4 :: y;
                        1 :: 2 :: 2 :: 3 :: y;
                      let y :=
                        let y := 2 :: 3 :: 3 :: 4 :: y;
                        1 :: 2 :: 2 :: 3 :: y;
                      let y := 1 :: 2 :: 2 :: 3 :: y;
                      0 :: 1 :: 1 :: 2 :: y)
                      (let y :=
                        let y :=
                          let y :=
                            let y := [5, 6, 6, 7];
                            4 :: 5 :: 5 :: 6 :: y;
                          let y := 4 :: 5 :: 5 :: 6 :: y;
                          3 :: 4 :: 4 :: 5 :: y;
                        let y :=
                          let y := 4 :: 5 :: 5 :: 6 :: y;
                          3 :: 4 :: 4 :: 5 :: y;
                        let y := 3 :: 4 :: 4 :: 5 :: y;
                        2 :: 3 :: 3 :: 4 :: y;
                      let y :=
                        let y :=
                          let y := 4 :: 5 :: 5 :: 6 :: y;
                          3 :: 4 :: 4 :: 5 :: y;
                        let y := 3 :: 4 :: 4 :: 5 :: y;
                        2 :: 3 :: 3 :: 4 :: y;
                      let y :=
                        let y := 3 :: 4 :: 4 :: 5 :: y;
                        2 :: 3 :: 3 :: 4 :: y;
                      let y := 2 :: 3 :: 3 :: 4 :: y;
                      1 :: 2 :: 2 :: 3 :: y))
                    (List.append
                      (let y :=
                        let y :=
                          let y :=
                            let y := [5, 6, 6, 7];
                            4 :: 5 :: 5 :: 6 :: y;
                          let y := 4 :: 5 :: 5 :: 6 :: y;
                          3 :: 4 :: 4 :: 5 :: y;
                        let y :=
                          let y := 4 :: 5 :: 5 :: 6 :: y;
                          3 :: 4 :: 4 :: 5 :: y;
                        let y := 3 :: 4 :: 4 :: 5 :: y;
                        2 :: 3 :: 3 :: 4 :: y;
                      let y :=
                        let y :=
                          let y := 4 :: 5 :: 5 :: 6 :: y;
                          3 :: 4 :: 4 :: 5 :: y;
                        let y := 3 :: 4 :: 4 :: 5 :: y;
                        2 :: 3 :: 3 :: 4 :: y;
                      let y :=
                        let y := 3 :: 4 :: 4 :: 5 :: y;
                        2 :: 3 :: 3 :: 4 :: y;
                      let y := 2 :: 3 :: 3 :: 4 :: y;
                      1 :: 2 :: 2 :: 3 :: y)
                      (let y :=
                        let y :=
                          let y :=
                            let y := [6, 7, 7, 8];
                            5 :: 6 :: 6 :: 7 :: y;
                          let y := 5 :: 6 :: 6 :: 7 :: y;
                          4 :: 5 :: 5 :: 6 :: y;
                        let y :=
                          let y := 5 :: 6 :: 6 :: 7 :: y;
                          4 :: 5 :: 5 :: 6 :: y;
                        let y := 4 :: 5 :: 5 :: 6 :: y;
                        3 :: 4 :: 4 :: 5 :: y;
                      let y :=
                        let y :=
                          let y := 5 :: 6 :: 6 :: 7 :: y;
                          4 :: 5 :: 5 :: 6 :: y;
                        let y := 4 :: 5 :: 5 :: 6 :: y;
                        3 :: 4 :: 4 :: 5 :: y;
                      let y :=
                        let y := 4 :: 5 :: 5 :: 6 :: y;
                        3 :: 4 :: 4 :: 5 :: y;
                      let y := 3 :: 4 :: 4 :: 5 :: y;
                      2 :: 3 :: 3 :: 4 :: y)))))
              (Int.toNat (s % 256))) %
          256))) (by kernel_rfl) ?_⟩
  rfl
theorem con_count (s : Int) (hs : 0 ≤ s ∧ s < 65536) : Con Tryd.prog 15 [] [u16 s] [] (i64 (pop s)) := by
  refine Con.of (C := ⟨Tryd.prog, tc, Tryd.f15.ntmps⟩) [] tcok Tryd.func15 rfl rfl (by kernel_rfl) (by kernel_rfl) ?_
  refine xe0 [0, 2] [] (by kernel_rfl) ?_
  refine xe1 [(1, ⟨none, some ⟨i64 (pop s), [], []⟩⟩)] [2] [] (by kernel_rfl) (AllP.c (con_ones (s) (by assumption)) AllP.n) ?_
  refine AWP.ret ?_
  refine ⟨Or.inr rfl, Eq.trans (b := some ([], i64 (pop s))) (by kernel_rfl) ?_⟩
  rfl
end Go.Proofs.YtmeiemdnhjnpcaaDoor
