/- The document's plan: sorted. -/
import Derived.Test.YtlfjnkobnkfioaaRg
import Derived.Test.YtlfjnkobnkfioaaPlnS
namespace Go.Proofs.Ytlfjnkobnkfioaa
open Go.Ab
set_option maxRecDepth 100000
set_option maxHeartbeats 8000000
set_option linter.unusedSimpArgs false
set_option linter.unusedVariables false
def atI (a : It) (L : List It) (k : Nat) : List It := L.take k ++ [a] ++ L.drop k
theorem atI_len (a : It) (L : List It) (k : Nat) : (atI a L k).length = L.length + 1 := by
  simp only [atI, List.length_append, List.length_take, List.length_drop, List.length_cons, List.length_nil]
  omega
theorem atI_at (a : It) (L : List It) (k : Nat) (hk : k ≤ L.length) : (atI a L k)[k]? = some a := by
  unfold atI
  rw [List.append_assoc, List.getElem?_append_right (by simp; omega)]
  simp only [List.length_take, Nat.min_eq_left hk, Nat.sub_self]
  rfl
theorem atI_pre (a : It) (L : List It) (k : Nat) (hk : k + 1 ≤ L.length) : (atI a L (k + 1))[k]? = L[k]? := by
  unfold atI
  rw [List.append_assoc, List.getElem?_append_left (by simp; omega), List.getElem?_take, if_pos (by omega)]
theorem atI_swap (a y : It) (L : List It) (k : Nat) (h : L[k]? = some y) : ((atI a L (k + 1)).set (k + 1) y).set k a = atI a L k := by
  obtain ⟨hi, hy⟩ := List.getElem?_eq_some_iff.1 h
  have hl : (L.take k).length = k := by rw [List.length_take]; omega
  have e : atI a L (k + 1) = L.take k ++ (y :: a :: L.drop (k + 1)) := by
    unfold atI
    rw [List.take_add_one, h]
    simp
  rw [e, List.set_append_right _ _ (by omega), List.set_append_right _ _ (by omega), hl, Nat.sub_self, show k + 1 - k = 1 by omega]
  unfold atI
  rw [List.drop_eq_getElem_cons hi, hy]
  simp
theorem atI_ins (a : It) (L : List It) (k : Nat) (hs : SortI L) (hk : k ≤ L.length) (h1 : ∀ x ∈ L.drop k, a.t < x.t) (h2 : ∀ y, 0 < k → L[k - 1]? = some y → y.t ≤ a.t) : atI a L k = insI a L := by
  have e : posI a.t L = k := by
    have hle := posI_le a.t L
    have q1 : k ≤ posI a.t L := by
      by_cases h0 : k = 0
      · omega
      · have hy : L[k - 1]? = some L[k - 1] := List.getElem?_eq_getElem (by omega)
        have := (posI_at (t := a.t) hs hy).1 (h2 _ (by omega) hy)
        omega
    have q2 : posI a.t L ≤ k := by
      by_cases h0 : k < L.length
      · have hy : L[k]? = some L[k] := List.getElem?_eq_getElem h0
        exact (posI_at (t := a.t) hs hy).2 (h1 _ (by rw [List.drop_eq_getElem_cons h0]; exact List.mem_cons_self ..))
      · omega
    omega
  unfold atI insI
  rw [e]
theorem sort_at {L : List It} (hs : SortI L) {i : Nat} {x y : It} (hx : L[i + 1]? = some x) (hy : L[i]? = some y) : y.t ≤ x.t := by
  obtain ⟨h1, rfl⟩ := List.getElem?_eq_some_iff.1 hx
  obtain ⟨h2, rfl⟩ := List.getElem?_eq_some_iff.1 hy
  exact List.pairwise_iff_getElem.1 hs i (i + 1) h2 h1 (by omega)
theorem con_srt (L : List It) (a : It) (S : List It) (n : Nat) (hS : L ++ [a] = S) (hn : S.length = n) (hm : n ≤ 1000) (hs : SortI L) (L' : List It) (hL' : insI a L = L') :
    Con Try.prog 54 [(2000000000, ⟨rowsI S, true, 0, some (96, 3)⟩)] [.sl 2000000000 0 n] [(6, ⟨rowsI L', true, 0, some (96, 3)⟩), (2000000000, ⟨rowsI S, true, 0, some (96, 3)⟩)] (.sl 6 0 n) := by
  have hrs := rowsI_len S
  have hSl : S.length = L.length + 1 := by rw [← hS, List.length_append]; rfl
  refine Con.of (C := ⟨Try.prog, tc, Try.f54.ntmps⟩) [6, 2000000000] tcok Try.func54 rfl rfl (by kernel_rfl) (by kernel_rfl) ?_
  refine xe0 [0, 2] [2, 2000000000] (by kernel_rfl) ?_
  refine xe1 (os := [(0 : Nat) + n * (3 : Nat) ≤ List.length (rowsI S), (0 : Nat) = (0 : Nat), (0 : Nat) + n ≤ (9223372036854775807 : Nat), ((0 : Nat) + n) * (32 : Nat) ≤ (140737488355328 : Nat), [] ++ List.take (n * (3 : Nat)) (List.drop (0 : Nat) (rowsI S)) = List.take (n * (3 : Nat)) (rowsI S), (0 : Nat) + n = (0 : Nat) + n]) [(2, ⟨some (V.tup [V.agg true (List.take (n * 3) (rowsI S)), V.sl 0 0 (0 + n)]), none⟩)] [2, 3] [2000000000, 2, 6] (by kernel_rfl) ⟨(by first | omega | (simp [len_u8s]; done) | (simp [len_u8s]; omega)), (by omega), (by omega), (by omega), (by first | rfl | (show u8s ([]) ++ _ = _; simp only [u8s_drop, u8s_take, List.drop_zero, Nat.mul_one, Nat.one_mul, u8s_app, List.take_length, List.nil_append, List.append_nil]; done) | (simp [u8s]; done) | (simp [u8s]; omega)), (by omega), trivial⟩ ?_
  refine AWP.seq ?_
  refine xe0 [2, 3, 10, 11] [2000000000, 2, 6] (by kernel_rfl) ?_
  refine AWP.block ?_
  have htk : List.take (n * 3) (rowsI S) = rowsI S := by rw [← hn, ← hrs]; exact List.take_length
  simp only [Nat.zero_add, htk]
  refine AWP.loopI [11, 10, 3, 2] [2, 6, 2000000000] (fun N s' => ∃ (i : Int) (R : List It), s' = St.mk [(2, T.plain (V.sl 2 0 0)), (3, T.plain (V.sl 6 0 n)), (10, T.plain (i64 (n : Int))), (11, T.plain (i64 i))] [(2, Blk.mk [] true 0 (some (96, 3))), (6, Blk.mk (rowsI R) true 0 (some (96, 3))), (2000000000, Blk.mk (rowsI S) true 0 (some (96, 3)))] ∧ 0 ≤ i ∧ i ≤ n ∧ (i < n → R = S) ∧ (i = n → R = L') ∧ (N : Int) = n - i) n (s0 := St.mk [(2, T.plain (V.sl 2 0 0)), (3, T.plain (V.sl 6 0 n)), (10, T.plain (i64 (n : Int))), (11, T.plain (i64 0))] [(2, Blk.mk [] true 0 (some (96, 3))), (6, Blk.mk (rowsI S) true 0 (some (96, 3))), (2000000000, Blk.mk (rowsI S) true 0 (some (96, 3)))]) (by kernel_rfl) ?_ ?_
  · exact ⟨0, S, rfl, by omega, by omega, fun _ => rfl, fun h => by omega, by omega⟩
  rintro N s' ⟨i, R, rfl, hi, hi2, hR1, hR2, hN⟩
  by_cases hlt : i < n
  · have hRS := hR1 hlt
    subst hRS
    refine xe0 [2, 3, 10, 11, 12] [2, 6, 2000000000] (by kernel_rfl) ?_
    refine AWP.seq ?_
    refine AWP.cond (b := decide (i < (↑n : Int))) (by kernel_rfl) (fun hq0 => ?_) (fun hq0 => ?_)
    rotate_left
    · simp only [decide_eq_false_iff_not] at hq0
      (exfalso; omega)
    simp only [decide_eq_true_eq] at hq0
    refine AWP.skip ?_
    refine AWP.seq ?_
    refine AWP.block ?_
    refine xe0 [2, 3, 4, 10, 11] [2000000000, 2, 6] (by kernel_rfl) ?_
    refine xe0 [2, 3, 5, 10, 11] [2000000000, 2, 6] (by kernel_rfl) ?_
    refine AWP.block ?_
    refine AWP.loopI [5, 3, 11, 10, 2] [2, 6, 2000000000] (fun N2 s' => ∃ (k : Int) (Q : List It), s' = St.mk [(2, T.plain (V.sl 2 0 0)), (3, T.plain (V.sl 6 0 n)), (5, T.plain (i64 k)), (10, T.plain (i64 (n : Int))), (11, T.plain (i64 i))] [(2, Blk.mk [] true 0 (some (96, 3))), (6, Blk.mk (rowsI Q) true 0 (some (96, 3))), (2000000000, Blk.mk (rowsI R) true 0 (some (96, 3)))] ∧ 0 ≤ k ∧ k ≤ i ∧ Q.length = n ∧ (i < L.length → k = i ∧ Q = R) ∧ (i = L.length → Q = atI a L k.toNat ∧ ∀ x ∈ L.drop k.toNat, a.t < x.t) ∧ (N2 : Int) = k) i.toNat (s0 := St.mk [(2, T.plain (V.sl 2 0 0)), (3, T.plain (V.sl 6 0 n)), (5, T.plain (i64 i)), (10, T.plain (i64 (n : Int))), (11, T.plain (i64 i))] [(2, Blk.mk [] true 0 (some (96, 3))), (6, Blk.mk (rowsI R) true 0 (some (96, 3))), (2000000000, Blk.mk (rowsI R) true 0 (some (96, 3)))]) (by kernel_rfl) ?_ ?_
    · refine ⟨i, R, rfl, by omega, by omega, hn, fun _ => ⟨rfl, rfl⟩, fun h => ⟨?_, fun x hx => ?_⟩, by omega⟩
      · unfold atI
        rw [h, Int.toNat_natCast, List.take_length, List.drop_length, List.append_nil, hS]
      · rw [h, Int.toNat_natCast, List.drop_length] at hx
        cases hx
    rintro N2 s' ⟨k, Q, rfl, hk, hki, hQl, hQ1, hQ2, hN2⟩
    have hrq := rowsI_len Q
    have hiL : i < L.length ∨ i = L.length := by omega
    by_cases hk0 : k = 0
    · subst hk0
      have wb : decide ((0 : Int) > 0) = false := by decide
      have fin1 : i + 1 < n → Q = R := fun h => (hQ1 (by omega)).2
      have fin2 : i + 1 = n → Q = L' := fun h => by
        obtain ⟨h1, h2⟩ := hQ2 (by omega)
        rw [h1, ← hL']
        exact atI_ins a L _ hs (by simp) h2 (fun y h => by simp at h)
      refine AWP.seq ?_
      refine xe1 (os := [false = true → ((0 : Int) ≤ (0 : Int) ∧ (0 : Int) < (↑n : Int)) ∧ V.ptr (6 : Nat) (0 : Nat) = V.ptr (6 : Nat) (0 : Nat) ∧ True, false = true → (1 : Nat) ≤ List.length (rowsI Q) ∧ part_ true (isRow (TypeDesc.int IntKind.u32)) (rowsI Q) (0 : Nat) (1 : Nat) = u32 (0 : Int) ∧ True, false = true → ((0 : Int) ≤ (-1 : Int) ∧ (-1 : Int) < (↑n : Int)) ∧ V.ptr (6 : Nat) (0 : Nat) = V.ptr (6 : Nat) (0 : Nat) ∧ True, false = true → (1 : Nat) ≤ List.length (rowsI Q) ∧ part_ true (isRow (TypeDesc.int IntKind.u32)) (rowsI Q) (0 : Nat) (1 : Nat) = u32 (0 : Int) ∧ True]) [(5, ⟨some (V.ptr 6 0), none⟩), (7, ⟨some (u32 0), none⟩), (11, ⟨some (V.ptr 6 0), none⟩), (13, ⟨some (u32 0), none⟩)] [2, 3, 5, 10, 11, 30] [2000000000, 2, 6] (by kernel_rfl) ⟨(by intro hc0; first | (cases hc0; done) | ((try simp only [Bool.or_false, Bool.false_or, Bool.true_and, Bool.and_true, decide_eq_true_eq, decide_eq_false_iff_not, Bool.and_eq_true, Bool.or_eq_true, Bool.or_eq_false_iff, Bool.not_eq_true', Bool.and_eq_false_iff, beq_iff_eq, bne_iff_ne, bne_eq_false_iff_eq, beq_eq_false_iff_ne, Bool.not_eq_false'] at hc0); exact ⟨(by omega), rfl, trivial⟩)), (by intro hc0; first | (cases hc0; done) | ((try simp only [Bool.or_false, Bool.false_or, Bool.true_and, Bool.and_true, decide_eq_true_eq, decide_eq_false_iff_not, Bool.and_eq_true, Bool.or_eq_true, Bool.or_eq_false_iff, Bool.not_eq_true', Bool.and_eq_false_iff, beq_iff_eq, bne_iff_ne, bne_eq_false_iff_eq, beq_eq_false_iff_ne, Bool.not_eq_false'] at hc0); exact ⟨(by first | omega | (simp [len_u8s]; done) | (simp [len_u8s]; omega)), (by exfalso; omega), trivial⟩)), (by intro hc0; first | (cases hc0; done) | ((try simp only [Bool.or_false, Bool.false_or, Bool.true_and, Bool.and_true, decide_eq_true_eq, decide_eq_false_iff_not, Bool.and_eq_true, Bool.or_eq_true, Bool.or_eq_false_iff, Bool.not_eq_true', Bool.and_eq_false_iff, beq_iff_eq, bne_iff_ne, bne_eq_false_iff_eq, beq_eq_false_iff_ne, Bool.not_eq_false'] at hc0); exact ⟨(by first | omega | (simp [len_u8s]; omega) | (simp [len_u8s]; done)), rfl, trivial⟩)), (by intro hc0; first | (cases hc0; done) | ((try simp only [Bool.or_false, Bool.false_or, Bool.true_and, Bool.and_true, decide_eq_true_eq, decide_eq_false_iff_not, Bool.and_eq_true, Bool.or_eq_true, Bool.or_eq_false_iff, Bool.not_eq_true', Bool.and_eq_false_iff, beq_iff_eq, bne_iff_ne, bne_eq_false_iff_eq, beq_eq_false_iff_ne, Bool.not_eq_false'] at hc0); exact ⟨(by first | omega | (simp [len_u8s]; done) | (simp [len_u8s]; omega)), (by exfalso; omega), trivial⟩)), trivial⟩ ?_
      refine AWP.condF (by kernel_rfl) ?_
      refine AWP.exit ?_
      refine AWP.region tcok hmix [(0, ⟨some (i64 (i + 1)), none⟩)] (os := [i64 (IntKind.wrap IntKind.i64 (i + 1)) = i64 (i + 1)]) (sf := St.mk [(2, tp (V.sl 2 0 0)), (3, tp (V.sl 6 0 n)), (5, tp (i64 0)), (10, tp (i64 (↑n : Int))), (11, tp (i64 (i + 1))), (30, tp (vb false)), (49, tp (i64 (i + 1)))] [(2, Blk.mk [] true 0 (some (96, 3))), (6, Blk.mk (rowsI Q) true 0 (some (96, 3))), (2000000000, Blk.mk (rowsI R) true 0 (some (96, 3)))]) (by kernel_rfl) ⟨(wr_i64 (by omega) (by omega)), trivial⟩ ?_
      refine ⟨St.mk [(2, tp (V.sl 2 0 0)), (3, tp (V.sl 6 0 n)), (10, tp (i64 (↑n : Int))), (11, tp (i64 (i + 1)))] [(2, Blk.mk [] true 0 (some (96, 3))), (6, Blk.mk (rowsI Q) true 0 (some (96, 3))), (2000000000, Blk.mk (rowsI R) true 0 (some (96, 3)))], by kernel_rfl, ?_⟩
      first | (exact ⟨(n - (i + 1)).toNat, (by omega), i + 1, Q, rfl, (by omega), (by omega), fin1, fin2, (by omega)⟩) | (exfalso; omega)
    have hkL : k.toNat ≤ L.length := by omega
    obtain ⟨x, hx⟩ : ∃ x, Q[k.toNat]? = some x := ⟨_, List.getElem?_eq_getElem (by omega)⟩
    obtain ⟨y, hy⟩ : ∃ y, Q[(k - 1).toNat]? = some y := ⟨_, List.getElem?_eq_getElem (by omega)⟩
    have wg1 := rowsI_t hx
    have wg2 := rowsI_t hy
    have wr1 := rowsI_at hx
    have wr2 := rowsI_at hy
    have wb : decide (k > 0) = true := decide_eq_true (by omega)
    have ek : k.toNat = (k - 1).toNat + 1 := by omega
    by_cases hxy : x.t < y.t
    · have hiL2 : i = L.length := by
        rcases hiL with h | h
        · obtain ⟨h1, h2⟩ := hQ1 h
          subst h1
          subst h2
          rw [← hS, List.getElem?_append_left (by omega)] at hx hy
          rw [ek] at hx
          have := sort_at hs hx hy
          omega
        · exact h
      obtain ⟨h1, h2⟩ := hQ2 hiL2
      have hxa : x = a := by
        rw [h1, atI_at a L _ hkL] at hx
        exact (Option.some.inj hx).symm
      subst hxa
      have hyL : L[(k - 1).toNat]? = some y := by
        rw [h1, ek, atI_pre x L _ (by omega)] at hy
        exact hy
      have hsw := atI_swap x y L (k - 1).toNat hyL
      rw [← ek, ← h1] at hsw
      have p1 := rowsI_put (R := Q) (i := k.toNat) (by omega) y false
      have p2 := rowsI_put (R := Q.set k.toNat y) (i := (k - 1).toNat) (by rw [List.length_set]; omega) x false
      rw [hsw] at p2
      have hpl : (putC false (rowsI Q) (k.toNat * 3) [u32 y.t, u16 y.id, V.vs (u8s y.c) y.k]).length = n * 3 := by
        have := congrArg List.length p1
        rw [rowsI_len, List.length_set, hQl, Nat.zero_add] at this
        exact this
      have hd2 : ∀ z ∈ L.drop (k - 1).toNat, x.t < z.t := fun z hz => by
        obtain ⟨hi', hy'⟩ := List.getElem?_eq_some_iff.1 hyL
        rw [List.drop_eq_getElem_cons hi', hy', ← ek] at hz
        rcases List.mem_cons.1 hz with rfl | hz
        · exact hxy
        · exact h2 z hz
      refine AWP.seq ?_
      refine xe1 (os := [vb (decide (k > 0)) = vb true, true = true → ((0 : Int) ≤ k ∧ k < (↑n : Int)) ∧ V.ptr (6 : Nat) ((0 : Nat) + Int.toNat k * (3 : Nat)) = V.ptr (6 : Nat) ((0 : Nat) + Int.toNat k * (3 : Nat)) ∧ True, true = true → (0 : Nat) + Int.toNat k * (3 : Nat) + (0 : Nat) + (1 : Nat) ≤ List.length (rowsI Q) ∧ part_ true (isRow (TypeDesc.int IntKind.u32)) (rowsI Q) ((0 : Nat) + Int.toNat k * (3 : Nat) + (0 : Nat)) (1 : Nat) = u32 x.t ∧ True, true = true → i64 (IntKind.wrap IntKind.i64 (k - (1 : Int))) = i64 (k - (1 : Int)) ∧ True, true = true → ((0 : Int) ≤ k - (1 : Int) ∧ k - (1 : Int) < (↑n : Int)) ∧ V.ptr (6 : Nat) ((0 : Nat) + Int.toNat (k - (1 : Int)) * (3 : Nat)) = V.ptr (6 : Nat) ((0 : Nat) + Int.toNat (k - (1 : Int)) * (3 : Nat)) ∧ True, true = true → (0 : Nat) + Int.toNat (k - (1 : Int)) * (3 : Nat) + (0 : Nat) + (1 : Nat) ≤ List.length (rowsI Q) ∧ part_ true (isRow (TypeDesc.int IntKind.u32)) (rowsI Q) ((0 : Nat) + Int.toNat (k - (1 : Int)) * (3 : Nat) + (0 : Nat)) (1 : Nat) = u32 y.t ∧ True]) [(1, ⟨some (vb true), none⟩), (5, ⟨some (V.ptr 6 (0 + Int.toNat k * 3)), none⟩), (7, ⟨some (u32 x.t), none⟩), (10, ⟨some (i64 (k - 1)), none⟩), (11, ⟨some (V.ptr 6 (0 + Int.toNat (k - 1) * 3)), none⟩), (13, ⟨some (u32 y.t), none⟩)] [2, 3, 5, 10, 11, 30] [2000000000, 2, 6] (by kernel_rfl) ⟨(congrArg (fun b => V.val (Value.bool b)) wb), (by intro hc0; first | (cases hc0; done) | ((try simp only [Bool.or_false, Bool.false_or, Bool.true_and, Bool.and_true, decide_eq_true_eq, decide_eq_false_iff_not, Bool.and_eq_true, Bool.or_eq_true, Bool.or_eq_false_iff, Bool.not_eq_true', Bool.and_eq_false_iff, beq_iff_eq, bne_iff_ne, bne_eq_false_iff_eq, beq_eq_false_iff_ne, Bool.not_eq_false'] at hc0); exact ⟨(by omega), rfl, trivial⟩)), (by intro hc0; first | (cases hc0; done) | ((try simp only [Bool.or_false, Bool.false_or, Bool.true_and, Bool.and_true, decide_eq_true_eq, decide_eq_false_iff_not, Bool.and_eq_true, Bool.or_eq_true, Bool.or_eq_false_iff, Bool.not_eq_true', Bool.and_eq_false_iff, beq_iff_eq, bne_iff_ne, bne_eq_false_iff_eq, beq_eq_false_iff_ne, Bool.not_eq_false'] at hc0); exact ⟨(by first | omega | (simp [len_u8s]; done) | (simp [len_u8s]; omega)), (wg1 ), trivial⟩)), (by intro hc0; first | (cases hc0; done) | ((try simp only [Bool.or_false, Bool.false_or, Bool.true_and, Bool.and_true, decide_eq_true_eq, decide_eq_false_iff_not, Bool.and_eq_true, Bool.or_eq_true, Bool.or_eq_false_iff, Bool.not_eq_true', Bool.and_eq_false_iff, beq_iff_eq, bne_iff_ne, bne_eq_false_iff_eq, beq_eq_false_iff_ne, Bool.not_eq_false'] at hc0); exact ⟨(wr_i64 (by omega) (by omega)), trivial⟩)), (by intro hc0; first | (cases hc0; done) | ((try simp only [Bool.or_false, Bool.false_or, Bool.true_and, Bool.and_true, decide_eq_true_eq, decide_eq_false_iff_not, Bool.and_eq_true, Bool.or_eq_true, Bool.or_eq_false_iff, Bool.not_eq_true', Bool.and_eq_false_iff, beq_iff_eq, bne_iff_ne, bne_eq_false_iff_eq, beq_eq_false_iff_ne, Bool.not_eq_false'] at hc0); exact ⟨(by omega), rfl, trivial⟩)), (by intro hc0; first | (cases hc0; done) | ((try simp only [Bool.or_false, Bool.false_or, Bool.true_and, Bool.and_true, decide_eq_true_eq, decide_eq_false_iff_not, Bool.and_eq_true, Bool.or_eq_true, Bool.or_eq_false_iff, Bool.not_eq_true', Bool.and_eq_false_iff, beq_iff_eq, bne_iff_ne, bne_eq_false_iff_eq, beq_eq_false_iff_ne, Bool.not_eq_false'] at hc0); exact ⟨(by first | omega | (simp [len_u8s]; done) | (simp [len_u8s]; omega)), (wg2 ), trivial⟩)), trivial⟩ ?_
      refine AWP.cond (b := true && decide (x.t < y.t)) (by kernel_rfl) (fun hq2 => ?_) (fun hq2 => ?_)
      · simp only [Bool.true_and, decide_eq_true_eq] at hq2
        refine AWP.skip ?_
        refine AWP.seq ?_
        refine AWP.block ?_
        refine AWP.region tcok hmix [(4, ⟨some (i64 (k - 1)), none⟩), (7, ⟨some (i64 (k - 1)), none⟩), (8, ⟨some (V.ptr 6 (0 + Int.toNat (k - 1) * 3)), none⟩), (9, ⟨some (V.agg true (It.row y)), none⟩), (12, ⟨some (V.ptr 6 (0 + Int.toNat k * 3)), none⟩), (13, ⟨some (V.agg true (It.row x)), none⟩), (14, ⟨some (V.ptr 6 (0 + Int.toNat k * 3)), none⟩), (15, ⟨some V.top, none⟩), (16, ⟨some (V.ptr 6 (0 + Int.toNat (k - 1) * 3)), none⟩), (17, ⟨some V.top, none⟩)] (os := [i64 (IntKind.wrap IntKind.i64 (k - 1)) = i64 (k - 1), i64 (IntKind.wrap IntKind.i64 (k - 1)) = i64 (k - 1), (0 : Int) ≤ k - (1 : Int) ∧ k - (1 : Int) < (↑n : Int), V.ptr 6 (0 + Int.toNat (k - 1) * 3) = V.ptr 6 (0 + Int.toNat (k - 1) * 3), (0 : Nat) + Int.toNat (k - (1 : Int)) * (3 : Nat) + (3 : Nat) ≤ List.length (rowsI Q), V.agg true (List.take 3 (List.drop (0 + Int.toNat (k - 1) * 3) (rowsI Q))) = V.agg true [u32 y.t, u16 y.id, V.vs (u8s y.c) y.k], (0 : Int) ≤ k ∧ k < (↑n : Int), V.ptr 6 (0 + Int.toNat k * 3) = V.ptr 6 (0 + Int.toNat k * 3), (0 : Nat) + Int.toNat k * (3 : Nat) + (3 : Nat) ≤ List.length (rowsI Q), V.agg true (List.take 3 (List.drop (0 + Int.toNat k * 3) (rowsI Q))) = V.agg true [u32 x.t, u16 x.id, V.vs (u8s x.c) x.k], (0 : Int) ≤ k ∧ k < (↑n : Int), V.ptr 6 (0 + Int.toNat k * 3) = V.ptr 6 (0 + Int.toNat k * 3), (3 : Nat) = (3 : Nat), (0 : Nat) + Int.toNat k * (3 : Nat) + (3 : Nat) ≤ List.length (rowsI Q), (0 : Int) ≤ k - (1 : Int) ∧ k - (1 : Int) < (↑n : Int), V.ptr 6 (0 + Int.toNat (k - 1) * 3) = V.ptr 6 (0 + Int.toNat (k - 1) * 3), (3 : Nat) = (3 : Nat), (0 : Nat) + Int.toNat (k - (1 : Int)) * (3 : Nat) + (3 : Nat) ≤ List.length (putC ((3 : Nat) == (1 : Nat)) (rowsI Q) ((0 : Nat) + Int.toNat k * (3 : Nat)) [u32 y.t, u16 y.id, V.vs (u8s y.c) y.k])]) (sf := St.mk [(2, tp (V.sl 2 0 0)), (3, tp (V.sl 6 0 n)), (5, tp (i64 k)), (10, tp (i64 (↑n : Int))), (11, tp (i64 i)), (30, tp (vb (true && decide (x.t < y.t)))), (33, tp (V.sl 6 0 n)), (34, tp (i64 k)), (35, tp (V.sl 6 0 n)), (36, tp (i64 k)), (37, tp (i64 (k - 1))), (38, tp (V.sl 6 0 n)), (39, tp (i64 k)), (40, tp (i64 (k - 1))), (41, tp (V.ptr 6 (0 + Int.toNat (k - 1) * 3))), (42, tp (V.agg true [u32 y.t, u16 y.id, V.vs (u8s y.c) y.k])), (43, tp (V.sl 6 0 n)), (44, tp (i64 k)), (45, tp (V.ptr 6 (0 + Int.toNat k * 3))), (46, tp (V.agg true [u32 x.t, u16 x.id, V.vs (u8s x.c) x.k])), (47, tp (V.ptr 6 (0 + Int.toNat k * 3))), (48, tp (V.ptr 6 (0 + Int.toNat (k - 1) * 3)))] [(2, Blk.mk [] true 0 (some (96, 3))), (6, Blk.mk (putC (3 == 1) (putC (3 == 1) (rowsI Q) (0 + Int.toNat k * 3) [u32 y.t, u16 y.id, V.vs (u8s y.c) y.k]) (0 + Int.toNat (k - 1) * 3) [u32 x.t, u16 x.id, V.vs (u8s x.c) x.k]) true 0 (some (96, 3))), (2000000000, Blk.mk (rowsI R) true 0 (some (96, 3)))]) (by kernel_rfl) ⟨(wr_i64 (by omega) (by omega)), (wr_i64 (by omega) (by omega)), (by omega), rfl, (by first | omega | (simp [len_u8s]; done) | (simp [len_u8s]; omega)), (congrArg (V.agg true) (wr2 )), (by omega), rfl, (by first | omega | (simp [len_u8s]; done) | (simp [len_u8s]; omega)), (congrArg (V.agg true) (wr1 )), (by omega), rfl, (by omega), (by first | omega | (simp [len_u8s]; done) | (simp [len_u8s]; omega)), (by omega), rfl, (by omega), (by first | omega | (simp [len_u8s]; omega) | (simp [len_u8s]; done)), trivial⟩ ?_
        refine AWP.keep' [2, 3, 5, 10, 11] [2000000000, 2, 6] (sf := St.mk [(2, tp (V.sl 2 0 0)), (3, tp (V.sl 6 0 n)), (5, tp (i64 k)), (10, tp (i64 (↑n : Int))), (11, tp (i64 i))] [(2, Blk.mk [] true 0 (some (96, 3))), (6, Blk.mk (putC (3 == 1) (putC (3 == 1) (rowsI Q) (0 + Int.toNat k * 3) [u32 y.t, u16 y.id, V.vs (u8s y.c) y.k]) (0 + Int.toNat (k - 1) * 3) [u32 x.t, u16 x.id, V.vs (u8s x.c) x.k]) true 0 (some (96, 3))), (2000000000, Blk.mk (rowsI R) true 0 (some (96, 3)))]) (by kernel_rfl) ?_
        refine AWP.region tcok hmix [(1, ⟨some (i64 (k - 1)), none⟩)] (os := [i64 (IntKind.wrap IntKind.i64 (k - 1)) = i64 (k - 1)]) (sf := St.mk [(2, tp (V.sl 2 0 0)), (3, tp (V.sl 6 0 n)), (5, tp (i64 (k - 1))), (10, tp (i64 (↑n : Int))), (11, tp (i64 i)), (31, tp (i64 k)), (32, tp (i64 (k - 1)))] [(2, Blk.mk [] true 0 (some (96, 3))), (6, Blk.mk (putC (3 == 1) (putC (3 == 1) (rowsI Q) (0 + Int.toNat k * 3) [u32 y.t, u16 y.id, V.vs (u8s y.c) y.k]) (0 + Int.toNat (k - 1) * 3) [u32 x.t, u16 x.id, V.vs (u8s x.c) x.k]) true 0 (some (96, 3))), (2000000000, Blk.mk (rowsI R) true 0 (some (96, 3)))]) (by kernel_rfl) ⟨(wr_i64 (by omega) (by omega)), trivial⟩ ?_
        refine ⟨St.mk [(2, tp (V.sl 2 0 0)), (3, tp (V.sl 6 0 n)), (5, tp (i64 (k - 1))), (10, tp (i64 (↑n : Int))), (11, tp (i64 i))] [(2, Blk.mk [] true 0 (some (96, 3))), (6, Blk.mk (putC (3 == 1) (putC (3 == 1) (rowsI Q) (0 + Int.toNat k * 3) [u32 y.t, u16 y.id, V.vs (u8s y.c) y.k]) (0 + Int.toNat (k - 1) * 3) [u32 x.t, u16 x.id, V.vs (u8s x.c) x.k]) true 0 (some (96, 3))), (2000000000, Blk.mk (rowsI R) true 0 (some (96, 3)))], by kernel_rfl, ?_⟩
        first | (exact ⟨(k - 1).toNat, (by omega), k - 1, atI x L (k - 1).toNat, (by rw [← p2, ← p1]; rfl), (by omega), (by omega), (by rw [atI_len]; omega), (fun h => by omega), (fun _ => ⟨rfl, hd2⟩), (by omega)⟩) | (exfalso; omega)
      simp only [Bool.true_and, decide_eq_false_iff_not] at hq2
      (exfalso; omega)
    · have fin1 : i + 1 < n → Q = R := fun h => (hQ1 (by omega)).2
      have fin2 : i + 1 = n → Q = L' := fun h => by
        obtain ⟨h1, h2⟩ := hQ2 (by omega)
        rw [h1, ← hL']
        refine atI_ins a L _ hs hkL h2 (fun z _ hz => ?_)
        rw [h1, atI_at a L _ hkL] at hx
        have hxa : a = x := Option.some.inj hx
        rw [h1, ek, atI_pre a L _ (by omega)] at hy
        rw [show k.toNat - 1 = (k - 1).toNat by omega, hy] at hz
        have hzy : y = z := Option.some.inj hz
        subst hxa
        subst hzy
        omega
      refine AWP.seq ?_
      refine xe1 (os := [vb (decide (k > 0)) = vb true, true = true → ((0 : Int) ≤ k ∧ k < (↑n : Int)) ∧ V.ptr (6 : Nat) ((0 : Nat) + Int.toNat k * (3 : Nat)) = V.ptr (6 : Nat) ((0 : Nat) + Int.toNat k * (3 : Nat)) ∧ True, true = true → (0 : Nat) + Int.toNat k * (3 : Nat) + (0 : Nat) + (1 : Nat) ≤ List.length (rowsI Q) ∧ part_ true (isRow (TypeDesc.int IntKind.u32)) (rowsI Q) ((0 : Nat) + Int.toNat k * (3 : Nat) + (0 : Nat)) (1 : Nat) = u32 x.t ∧ True, true = true → i64 (IntKind.wrap IntKind.i64 (k - (1 : Int))) = i64 (k - (1 : Int)) ∧ True, true = true → ((0 : Int) ≤ k - (1 : Int) ∧ k - (1 : Int) < (↑n : Int)) ∧ V.ptr (6 : Nat) ((0 : Nat) + Int.toNat (k - (1 : Int)) * (3 : Nat)) = V.ptr (6 : Nat) ((0 : Nat) + Int.toNat (k - (1 : Int)) * (3 : Nat)) ∧ True, true = true → (0 : Nat) + Int.toNat (k - (1 : Int)) * (3 : Nat) + (0 : Nat) + (1 : Nat) ≤ List.length (rowsI Q) ∧ part_ true (isRow (TypeDesc.int IntKind.u32)) (rowsI Q) ((0 : Nat) + Int.toNat (k - (1 : Int)) * (3 : Nat) + (0 : Nat)) (1 : Nat) = u32 y.t ∧ True]) [(1, ⟨some (vb true), none⟩), (5, ⟨some (V.ptr 6 (0 + Int.toNat k * 3)), none⟩), (7, ⟨some (u32 x.t), none⟩), (10, ⟨some (i64 (k - 1)), none⟩), (11, ⟨some (V.ptr 6 (0 + Int.toNat (k - 1) * 3)), none⟩), (13, ⟨some (u32 y.t), none⟩)] [2, 3, 5, 10, 11, 30] [2000000000, 2, 6] (by kernel_rfl) ⟨(congrArg (fun b => V.val (Value.bool b)) wb), (by intro hc0; first | (cases hc0; done) | ((try simp only [Bool.or_false, Bool.false_or, Bool.true_and, Bool.and_true, decide_eq_true_eq, decide_eq_false_iff_not, Bool.and_eq_true, Bool.or_eq_true, Bool.or_eq_false_iff, Bool.not_eq_true', Bool.and_eq_false_iff, beq_iff_eq, bne_iff_ne, bne_eq_false_iff_eq, beq_eq_false_iff_ne, Bool.not_eq_false'] at hc0); exact ⟨(by omega), rfl, trivial⟩)), (by intro hc0; first | (cases hc0; done) | ((try simp only [Bool.or_false, Bool.false_or, Bool.true_and, Bool.and_true, decide_eq_true_eq, decide_eq_false_iff_not, Bool.and_eq_true, Bool.or_eq_true, Bool.or_eq_false_iff, Bool.not_eq_true', Bool.and_eq_false_iff, beq_iff_eq, bne_iff_ne, bne_eq_false_iff_eq, beq_eq_false_iff_ne, Bool.not_eq_false'] at hc0); exact ⟨(by first | omega | (simp [len_u8s]; done) | (simp [len_u8s]; omega)), (wg1 ), trivial⟩)), (by intro hc0; first | (cases hc0; done) | ((try simp only [Bool.or_false, Bool.false_or, Bool.true_and, Bool.and_true, decide_eq_true_eq, decide_eq_false_iff_not, Bool.and_eq_true, Bool.or_eq_true, Bool.or_eq_false_iff, Bool.not_eq_true', Bool.and_eq_false_iff, beq_iff_eq, bne_iff_ne, bne_eq_false_iff_eq, beq_eq_false_iff_ne, Bool.not_eq_false'] at hc0); exact ⟨(wr_i64 (by omega) (by omega)), trivial⟩)), (by intro hc0; first | (cases hc0; done) | ((try simp only [Bool.or_false, Bool.false_or, Bool.true_and, Bool.and_true, decide_eq_true_eq, decide_eq_false_iff_not, Bool.and_eq_true, Bool.or_eq_true, Bool.or_eq_false_iff, Bool.not_eq_true', Bool.and_eq_false_iff, beq_iff_eq, bne_iff_ne, bne_eq_false_iff_eq, beq_eq_false_iff_ne, Bool.not_eq_false'] at hc0); exact ⟨(by omega), rfl, trivial⟩)), (by intro hc0; first | (cases hc0; done) | ((try simp only [Bool.or_false, Bool.false_or, Bool.true_and, Bool.and_true, decide_eq_true_eq, decide_eq_false_iff_not, Bool.and_eq_true, Bool.or_eq_true, Bool.or_eq_false_iff, Bool.not_eq_true', Bool.and_eq_false_iff, beq_iff_eq, bne_iff_ne, bne_eq_false_iff_eq, beq_eq_false_iff_ne, Bool.not_eq_false'] at hc0); exact ⟨(by first | omega | (simp [len_u8s]; done) | (simp [len_u8s]; omega)), (wg2 ), trivial⟩)), trivial⟩ ?_
      refine AWP.cond (b := true && decide (x.t < y.t)) (by kernel_rfl) (fun hq3 => ?_) (fun hq3 => ?_)
      · simp only [Bool.true_and, decide_eq_true_eq] at hq3
        (exfalso; omega)
      simp only [Bool.true_and, decide_eq_false_iff_not] at hq3
      refine AWP.exit ?_
      refine AWP.region tcok hmix [(0, ⟨some (i64 (i + 1)), none⟩)] (os := [i64 (IntKind.wrap IntKind.i64 (i + 1)) = i64 (i + 1)]) (sf := St.mk [(2, tp (V.sl 2 0 0)), (3, tp (V.sl 6 0 n)), (5, tp (i64 k)), (10, tp (i64 (↑n : Int))), (11, tp (i64 (i + 1))), (30, tp (vb (true && decide (x.t < y.t)))), (49, tp (i64 (i + 1)))] [(2, Blk.mk [] true 0 (some (96, 3))), (6, Blk.mk (rowsI Q) true 0 (some (96, 3))), (2000000000, Blk.mk (rowsI R) true 0 (some (96, 3)))]) (by kernel_rfl) ⟨(wr_i64 (by omega) (by omega)), trivial⟩ ?_
      refine ⟨St.mk [(2, tp (V.sl 2 0 0)), (3, tp (V.sl 6 0 n)), (10, tp (i64 (↑n : Int))), (11, tp (i64 (i + 1)))] [(2, Blk.mk [] true 0 (some (96, 3))), (6, Blk.mk (rowsI Q) true 0 (some (96, 3))), (2000000000, Blk.mk (rowsI R) true 0 (some (96, 3)))], by kernel_rfl, ?_⟩
      first | (exact ⟨(n - (i + 1)).toNat, (by omega), i + 1, Q, rfl, (by omega), (by omega), fin1, fin2, (by omega)⟩) | (exfalso; omega)
  have hin : i = n := by omega
  subst hin
  have := hR2 rfl
  subst this
  refine xe0 [2, 3, 10, 11, 12] [2, 6, 2000000000] (by kernel_rfl) ?_
  refine AWP.seq ?_
  refine AWP.cond (b := decide ((↑n : Int) < (↑n : Int))) (by kernel_rfl) (fun hq4 => ?_) (fun hq4 => ?_)
  · simp only [decide_eq_true_eq] at hq4
    (exfalso; omega)
  simp only [decide_eq_false_iff_not] at hq4
  refine AWP.exit ?_
  refine AWP.seq ?_
  refine AWP.keep' [3] [2000000000, 6] (sf := St.mk [(3, tp (V.sl 6 0 n))] [(6, Blk.mk (rowsI R) true 0 (some (96, 3))), (2000000000, Blk.mk (rowsI S) true 0 (some (96, 3)))]) (by kernel_rfl) ?_
  refine xg0 [2] [2000000000, 6] (by kernel_rfl) ?_
  refine AWP.ret ?_
  refine ⟨Or.inr rfl, Eq.trans (b := some ([(6, Blk.mk (rowsI R) true 0 (some (96, 3))), (2000000000, Blk.mk (rowsI S) true 0 (some (96, 3)))], V.sl 6 0 n)) (by kernel_rfl) ?_⟩
  first | rfl | (exfalso; omega)
end Go.Proofs.Ytlfjnkobnkfioaa
