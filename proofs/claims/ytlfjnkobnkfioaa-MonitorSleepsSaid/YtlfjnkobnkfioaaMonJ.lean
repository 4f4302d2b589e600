/- Chapter 16: what is violated, and the statuses, of any monitor. -/
import Derived.Test.YtlfjnkobnkfioaaRg
import Derived.Test.YtlfjnkobnkfioaaMonI
namespace Go.Proofs.Ytlfjnkobnkfioaa
open Go.Ab
set_option linter.unusedSimpArgs false
set_option linter.unusedVariables false
set_option maxHeartbeats 8000000
set_option maxRecDepth 100000
def vf (en : Nat → Bool) (st : Nat → Int) : Nat → List V
  | 0 => []
  | i + 1 => if en i = true ∧ 2 ≤ st i ∧ st i ≤ 4 then vf en st i ++ [i64 i] else vf en st i
theorem vf_len (en : Nat → Bool) (st : Nat → Int) : ∀ i, (vf en st i).length ≤ i
  | 0 => by simp [vf]
  | i + 1 => by
    have := vf_len en st i
    unfold vf
    split
    · rw [List.length_append]; simp; omega
    · omega
theorem con_violg (M : List V) (n : Nat) (hn : n ≤ 16) (hl : M.length = 257) (wg0 : gI M 256 = i64 n) (en : Nat → Bool) (st : Nat → Int) (h : ∀ i, i < n → gI M (i * 16 + 10) = vb (en i) ∧ gI M (i * 16 + 11) = u8 (st i)) (W : List V) (q : Nat) (hW : vf en st n = W) (hq : W.length = q) : Con Try.prog 19 [] [.agg true M] [(3, ⟨W, true, 0, some (3, 1)⟩)] (.sl 3 0 q) := by
  refine Con.of (C := ⟨Try.prog, tc, Try.f19.ntmps⟩) [3] tcok Try.func19 rfl rfl (by kernel_rfl) (by kernel_rfl) ?_
  refine xe1 (os := [List.length M = (257 : Nat)]) [(0, ⟨some V.top, none⟩)] [1, 2] [1, 2] (by kernel_rfl) ⟨(by omega), trivial⟩ ?_
  refine xe0 [1, 2, 3] [1, 2, 3] (by kernel_rfl) ?_
  refine AWP.seq ?_
  refine xe1 (os := [(257 : Nat) ≤ List.length M, part_ true (isRow (TypeDesc.int IntKind.i64)) M 256 1 = i64 (↑n : Int)]) [(1, ⟨some (i64 (↑n : Int)), none⟩)] [1, 2, 3, 6, 7] [1, 2, 3] (by kernel_rfl) ⟨(by omega), (wg0 ), trivial⟩ ?_
  refine AWP.block ?_
  refine AWP.loopI [1, 2, 3, 6, 7] [1, 2, 3] (fun N s' => ∃ (i : Int) (q : Nat) (L : List V), s' = St.mk [(1, T.plain (V.ptr 1 0)), (2, T.plain (V.sl 2 0 0)), (3, T.plain (V.sl 3 0 q)), (6, T.plain (i64 (n : Int))), (7, T.plain (i64 i))] [(1, Blk.mk M true 257 none), (2, Blk.mk [] true 0 (some (3, 1))), (3, Blk.mk L true 0 (some (3, 1)))] ∧ L = vf en st i.toNat ∧ q = L.length ∧ 0 ≤ i ∧ i ≤ n ∧ (N : Int) = n - i) n (s0 := St.mk [(1, T.plain (V.ptr 1 0)), (2, T.plain (V.sl 2 0 0)), (3, T.plain (V.sl 3 0 0)), (6, T.plain (i64 (n : Int))), (7, T.plain (i64 0))] [(1, Blk.mk M true 257 none), (2, Blk.mk [] true 0 (some (3, 1))), (3, Blk.mk [] true 0 (some (3, 1)))]) (by kernel_rfl) ?_ ?_
  · exact ⟨0, 0, [], rfl, rfl, rfl, by omega, by omega, by omega⟩
  rintro N s' ⟨i, q, L, rfl, hLe, hqe, hi, hi2, hN⟩
  by_cases hlt : i < n
  · obtain ⟨h10, h11⟩ := h i.toNat (by omega)
    have hs1 : (i + 1).toNat = i.toNat + 1 := by omega
    have hii : ((i.toNat : Nat) : Int) = i := Int.toNat_of_nonneg hi
    have hq16 : q ≤ 16 := by have := vf_len en st i.toNat; rw [← hLe] at this; omega
    have wg1 : gI M (0 + i.toNat * 16 + 10) = vb (en i.toNat) := by rw [Nat.zero_add]; exact h10
    have wg2 : gI M (0 + i.toNat * 16 + 11) = u8 (st i.toNat) := by rw [Nat.zero_add]; exact h11
    have hv : vf en st (i.toNat + 1) = if en i.toNat = true ∧ 2 ≤ st i.toNat ∧ st i.toNat ≤ 4 then vf en st i.toNat ++ [i64 i.toNat] else vf en st i.toNat := rfl
    have c := con_violates (st i.toNat)
    rw [hii] at hv
    generalize st i.toNat = s at *
    generalize en i.toNat = b at *
    cases b with
    | false =>
      rw [if_neg (by simp), ← hLe, ← hs1] at hv
      refine xe0 [1, 2, 3, 6, 7, 8] [1, 2, 3] (by kernel_rfl) ?_
      refine AWP.seq ?_
      refine AWP.cond (b := decide (i < (↑n : Int))) (by kernel_rfl) (fun hq0 => ?_) (fun hq0 => ?_)
      · simp only [decide_eq_true_eq] at hq0
        refine AWP.skip ?_
        refine AWP.seq ?_
        refine AWP.block ?_
        refine xe0 [1, 2, 3, 4, 6, 7] [1, 2, 3] (by kernel_rfl) ?_
        refine xe1 (os := [(0 : Int) ≤ i ∧ i < (↑(16 : Nat) : Int), V.ptr 1 (0 + Int.toNat i * 16) = V.ptr 1 (0 + Int.toNat i * 16), (0 : Nat) + Int.toNat i * (16 : Nat) + (0 : Nat) + (10 : Nat) + (1 : Nat) ≤ List.length M, part_ true (isRow TypeDesc.bool) M (0 + Int.toNat i * 16 + 0 + 10) 1 = vb false, false = true → ((0 : Int) ≤ i ∧ i < (↑(16 : Nat) : Int)) ∧ V.ptr (1 : Nat) ((0 : Nat) + Int.toNat i * (16 : Nat)) = V.ptr (1 : Nat) ((0 : Nat) + Int.toNat i * (16 : Nat)) ∧ True, false = true → (0 : Nat) + Int.toNat i * (16 : Nat) + (11 : Nat) + (0 : Nat) + (1 : Nat) ≤ List.length M ∧ part_ true (isRow (TypeDesc.int IntKind.u8)) M ((0 : Nat) + Int.toNat i * (16 : Nat) + (11 : Nat) + (0 : Nat)) (1 : Nat) = u8 s ∧ True, false = true → Con Try.prog (20 : Nat) [] [u8 s] [] (vb (decide ((2 : Int) ≤ s) && decide (s ≤ (4 : Int)))) ∧ True]) [(2, ⟨some (V.ptr 1 (0 + Int.toNat i * 16)), none⟩), (5, ⟨some (vb false), none⟩), (9, ⟨some (V.ptr 1 (0 + Int.toNat i * 16)), none⟩), (12, ⟨some (u8 s), none⟩), (13, ⟨none, some ⟨vb (decide (2 ≤ s) && decide (s ≤ 4)), [], []⟩⟩)] [1, 2, 3, 4, 6, 7, 24] [1, 2, 3] (by kernel_rfl) ⟨(by omega), rfl, (by omega), (wg1 ), (by intro hc0; first | (cases hc0; done) | ((try simp only [Bool.or_false, Bool.false_or, Bool.true_and, Bool.and_true, decide_eq_true_eq, decide_eq_false_iff_not, Bool.and_eq_true, Bool.or_eq_true, Bool.or_eq_false_iff, Bool.not_eq_true', Bool.and_eq_false_iff, beq_iff_eq, bne_iff_ne, bne_eq_false_iff_eq, beq_eq_false_iff_ne, Bool.not_eq_false'] at hc0); exact ⟨(by omega), rfl, trivial⟩)), (by intro hc0; first | (cases hc0; done) | ((try simp only [Bool.or_false, Bool.false_or, Bool.true_and, Bool.and_true, decide_eq_true_eq, decide_eq_false_iff_not, Bool.and_eq_true, Bool.or_eq_true, Bool.or_eq_false_iff, Bool.not_eq_true', Bool.and_eq_false_iff, beq_iff_eq, bne_iff_ne, bne_eq_false_iff_eq, beq_eq_false_iff_ne, Bool.not_eq_false'] at hc0); exact ⟨(by omega), (wg2 ), trivial⟩)), (fun _ => ⟨(c ), trivial⟩), trivial⟩ ?_
        refine AWP.condF (by kernel_rfl) ?_
        refine AWP.skip ?_
        refine AWP.region tcok hmix [(0, ⟨some (i64 (i + 1)), none⟩)] (os := [i64 (IntKind.wrap IntKind.i64 (i + 1)) = i64 (i + 1)]) (sf := St.mk [(1, tp (V.ptr 1 0)), (2, tp (V.sl 2 0 0)), (3, tp (V.sl 3 0 q)), (4, tp (i64 i)), (6, tp (i64 (↑n : Int))), (7, tp (i64 (i + 1))), (24, tp (vb false)), (29, tp (i64 (i + 1)))] [(1, Blk.mk M true 257 none), (2, Blk.mk [] true 0 (some (3, 1))), (3, Blk.mk L true 0 (some (3, 1)))]) (by kernel_rfl) ⟨(wr_i64 (by omega) (by omega)), trivial⟩ ?_
        refine ⟨St.mk [(1, tp (V.ptr 1 0)), (2, tp (V.sl 2 0 0)), (3, tp (V.sl 3 0 q)), (6, tp (i64 (↑n : Int))), (7, tp (i64 (i + 1)))] [(1, Blk.mk M true 257 none), (2, Blk.mk [] true 0 (some (3, 1))), (3, Blk.mk L true 0 (some (3, 1)))], by kernel_rfl, ?_⟩
        (exact ⟨(n - (i + 1)).toNat, (by omega), i + 1, q, L, rfl, hv.symm, hqe, (by omega), (by omega), (by omega)⟩)
      simp only [decide_eq_false_iff_not] at hq0
      (exfalso; omega)
    | true =>
      by_cases h24 : 2 ≤ s ∧ s ≤ 4
      · rw [if_pos ⟨rfl, h24⟩, ← hLe, ← hs1] at hv
        rw [show (decide (2 ≤ s) && decide (s ≤ 4)) = true by simp; omega] at c
        refine xe0 [1, 2, 3, 6, 7, 8] [1, 2, 3] (by kernel_rfl) ?_
        refine AWP.seq ?_
        refine AWP.cond (b := decide (i < (↑n : Int))) (by kernel_rfl) (fun hq2 => ?_) (fun hq2 => ?_)
        · simp only [decide_eq_true_eq] at hq2
          refine AWP.skip ?_
          refine AWP.seq ?_
          refine AWP.block ?_
          refine xe0 [1, 2, 3, 4, 6, 7] [1, 2, 3] (by kernel_rfl) ?_
          refine xe1 (os := [(0 : Int) ≤ i ∧ i < (↑(16 : Nat) : Int), V.ptr 1 (0 + Int.toNat i * 16) = V.ptr 1 (0 + Int.toNat i * 16), (0 : Nat) + Int.toNat i * (16 : Nat) + (0 : Nat) + (10 : Nat) + (1 : Nat) ≤ List.length M, part_ true (isRow TypeDesc.bool) M (0 + Int.toNat i * 16 + 0 + 10) 1 = vb true, true = true → ((0 : Int) ≤ i ∧ i < (↑(16 : Nat) : Int)) ∧ V.ptr (1 : Nat) ((0 : Nat) + Int.toNat i * (16 : Nat)) = V.ptr (1 : Nat) ((0 : Nat) + Int.toNat i * (16 : Nat)) ∧ True, true = true → (0 : Nat) + Int.toNat i * (16 : Nat) + (11 : Nat) + (0 : Nat) + (1 : Nat) ≤ List.length M ∧ part_ true (isRow (TypeDesc.int IntKind.u8)) M ((0 : Nat) + Int.toNat i * (16 : Nat) + (11 : Nat) + (0 : Nat)) (1 : Nat) = u8 s ∧ True, true = true → Con Try.prog (20 : Nat) [] [u8 s] [] (vb true) ∧ True]) [(2, ⟨some (V.ptr 1 (0 + Int.toNat i * 16)), none⟩), (5, ⟨some (vb true), none⟩), (9, ⟨some (V.ptr 1 (0 + Int.toNat i * 16)), none⟩), (12, ⟨some (u8 s), none⟩), (13, ⟨none, some ⟨vb true, [], []⟩⟩)] [1, 2, 3, 4, 6, 7, 24] [1, 2, 3] (by kernel_rfl) ⟨(by omega), rfl, (by omega), (wg1 ), (by intro hc0; first | (cases hc0; done) | ((try simp only [Bool.or_false, Bool.false_or, Bool.true_and, Bool.and_true, decide_eq_true_eq, decide_eq_false_iff_not, Bool.and_eq_true, Bool.or_eq_true, Bool.or_eq_false_iff, Bool.not_eq_true', Bool.and_eq_false_iff, beq_iff_eq, bne_iff_ne, bne_eq_false_iff_eq, beq_eq_false_iff_ne, Bool.not_eq_false'] at hc0); exact ⟨(by omega), rfl, trivial⟩)), (by intro hc0; first | (cases hc0; done) | ((try simp only [Bool.or_false, Bool.false_or, Bool.true_and, Bool.and_true, decide_eq_true_eq, decide_eq_false_iff_not, Bool.and_eq_true, Bool.or_eq_true, Bool.or_eq_false_iff, Bool.not_eq_true', Bool.and_eq_false_iff, beq_iff_eq, bne_iff_ne, bne_eq_false_iff_eq, beq_eq_false_iff_ne, Bool.not_eq_false'] at hc0); exact ⟨(by omega), (wg2 ), trivial⟩)), (fun _ => ⟨(c ), trivial⟩), trivial⟩ ?_
          refine AWP.condT (by kernel_rfl) ?_
          refine AWP.region tcok hmix [(3, ⟨some (V.tup [V.agg true (L ++ [i64 i]), V.sl 0 0 (q + 1)]), none⟩)] (os := [(1 : Nat) ≤ (1 : Nat), q * (1 : Nat) = List.length L, q + (1 : Nat) ≤ (9223372036854775807 : Nat), (q + (1 : Nat)) * (8 : Nat) ≤ (140737488355328 : Nat), L ++ List.take ((1 : Nat) * (1 : Nat)) (List.drop (0 : Nat) [i64 i]) = L ++ [i64 i], q + (1 : Nat) = q + (1 : Nat)]) (sf := St.mk [(1, tp (V.ptr 1 0)), (2, tp (V.sl 2 0 0)), (3, tp (V.sl 3 0 (q + 1))), (4, tp (i64 i)), (6, tp (i64 (↑n : Int))), (7, tp (i64 i)), (24, tp (vb true)), (25, tp V.top), (26, tp (i64 i)), (27, tp (V.sl 27 0 1)), (28, tp (V.sl 3 0 (q + 1)))] [(1, Blk.mk M true 257 none), (2, Blk.mk [] true 0 (some (3, 1))), (3, Blk.mk (L ++ [i64 i]) true 0 (some (3, 1))), (27, Blk.mk [i64 i] true 0 (some (3, 1)))]) (by kernel_rfl) ⟨(by omega), (by omega), (by omega), (by omega), (by first | rfl | (simp only [u8s_drop, u8s_take, List.drop_zero, Nat.mul_one, Nat.one_mul, u8s_app, List.take_length, List.nil_append, List.append_nil]; done) | (simp [u8s]; done) | (simp [u8s]; omega)), (by omega), trivial⟩ ?_
          refine AWP.keep' [1, 2, 3, 6, 7] [1, 2, 3] (sf := St.mk [(1, tp (V.ptr 1 0)), (2, tp (V.sl 2 0 0)), (3, tp (V.sl 3 0 (q + 1))), (6, tp (i64 (↑n : Int))), (7, tp (i64 i))] [(1, Blk.mk M true 257 none), (2, Blk.mk [] true 0 (some (3, 1))), (3, Blk.mk (L ++ [i64 i]) true 0 (some (3, 1)))]) (by kernel_rfl) ?_
          refine AWP.region tcok hmix [(0, ⟨some (i64 (i + 1)), none⟩)] (os := [i64 (IntKind.wrap IntKind.i64 (i + 1)) = i64 (i + 1)]) (sf := St.mk [(1, tp (V.ptr 1 0)), (2, tp (V.sl 2 0 0)), (3, tp (V.sl 3 0 (q + 1))), (6, tp (i64 (↑n : Int))), (7, tp (i64 (i + 1))), (29, tp (i64 (i + 1)))] [(1, Blk.mk M true 257 none), (2, Blk.mk [] true 0 (some (3, 1))), (3, Blk.mk (L ++ [i64 i]) true 0 (some (3, 1)))]) (by kernel_rfl) ⟨(wr_i64 (by omega) (by omega)), trivial⟩ ?_
          refine ⟨St.mk [(1, tp (V.ptr 1 0)), (2, tp (V.sl 2 0 0)), (3, tp (V.sl 3 0 (q + 1))), (6, tp (i64 (↑n : Int))), (7, tp (i64 (i + 1)))] [(1, Blk.mk M true 257 none), (2, Blk.mk [] true 0 (some (3, 1))), (3, Blk.mk (L ++ [i64 i]) true 0 (some (3, 1)))], by kernel_rfl, ?_⟩
          (exact ⟨(n - (i + 1)).toNat, (by omega), i + 1, q + 1, _, rfl, hv.symm, (by rw [List.length_append, hqe]; rfl), (by omega), (by omega), (by omega)⟩)
        simp only [decide_eq_false_iff_not] at hq2
        (exfalso; omega)
      · rw [if_neg (fun q => h24 q.2), ← hLe, ← hs1] at hv
        rw [show (decide (2 ≤ s) && decide (s ≤ 4)) = false by simp; omega] at c
        refine xe0 [1, 2, 3, 6, 7, 8] [1, 2, 3] (by kernel_rfl) ?_
        refine AWP.seq ?_
        refine AWP.cond (b := decide (i < (↑n : Int))) (by kernel_rfl) (fun hq4 => ?_) (fun hq4 => ?_)
        · simp only [decide_eq_true_eq] at hq4
          refine AWP.skip ?_
          refine AWP.seq ?_
          refine AWP.block ?_
          refine xe0 [1, 2, 3, 4, 6, 7] [1, 2, 3] (by kernel_rfl) ?_
          refine xe1 (os := [(0 : Int) ≤ i ∧ i < (↑(16 : Nat) : Int), V.ptr 1 (0 + Int.toNat i * 16) = V.ptr 1 (0 + Int.toNat i * 16), (0 : Nat) + Int.toNat i * (16 : Nat) + (0 : Nat) + (10 : Nat) + (1 : Nat) ≤ List.length M, part_ true (isRow TypeDesc.bool) M (0 + Int.toNat i * 16 + 0 + 10) 1 = vb true, true = true → ((0 : Int) ≤ i ∧ i < (↑(16 : Nat) : Int)) ∧ V.ptr (1 : Nat) ((0 : Nat) + Int.toNat i * (16 : Nat)) = V.ptr (1 : Nat) ((0 : Nat) + Int.toNat i * (16 : Nat)) ∧ True, true = true → (0 : Nat) + Int.toNat i * (16 : Nat) + (11 : Nat) + (0 : Nat) + (1 : Nat) ≤ List.length M ∧ part_ true (isRow (TypeDesc.int IntKind.u8)) M ((0 : Nat) + Int.toNat i * (16 : Nat) + (11 : Nat) + (0 : Nat)) (1 : Nat) = u8 s ∧ True, true = true → Con Try.prog (20 : Nat) [] [u8 s] [] (vb false) ∧ True]) [(2, ⟨some (V.ptr 1 (0 + Int.toNat i * 16)), none⟩), (5, ⟨some (vb true), none⟩), (9, ⟨some (V.ptr 1 (0 + Int.toNat i * 16)), none⟩), (12, ⟨some (u8 s), none⟩), (13, ⟨none, some ⟨vb false, [], []⟩⟩)] [1, 2, 3, 4, 6, 7, 24] [1, 2, 3] (by kernel_rfl) ⟨(by omega), rfl, (by omega), (wg1 ), (by intro hc0; first | (cases hc0; done) | ((try simp only [Bool.or_false, Bool.false_or, Bool.true_and, Bool.and_true, decide_eq_true_eq, decide_eq_false_iff_not, Bool.and_eq_true, Bool.or_eq_true, Bool.or_eq_false_iff, Bool.not_eq_true', Bool.and_eq_false_iff, beq_iff_eq, bne_iff_ne, bne_eq_false_iff_eq, beq_eq_false_iff_ne, Bool.not_eq_false'] at hc0); exact ⟨(by omega), rfl, trivial⟩)), (by intro hc0; first | (cases hc0; done) | ((try simp only [Bool.or_false, Bool.false_or, Bool.true_and, Bool.and_true, decide_eq_true_eq, decide_eq_false_iff_not, Bool.and_eq_true, Bool.or_eq_true, Bool.or_eq_false_iff, Bool.not_eq_true', Bool.and_eq_false_iff, beq_iff_eq, bne_iff_ne, bne_eq_false_iff_eq, beq_eq_false_iff_ne, Bool.not_eq_false'] at hc0); exact ⟨(by omega), (wg2 ), trivial⟩)), (fun _ => ⟨(c ), trivial⟩), trivial⟩ ?_
          refine AWP.condF (by kernel_rfl) ?_
          refine AWP.skip ?_
          refine AWP.region tcok hmix [(0, ⟨some (i64 (i + 1)), none⟩)] (os := [i64 (IntKind.wrap IntKind.i64 (i + 1)) = i64 (i + 1)]) (sf := St.mk [(1, tp (V.ptr 1 0)), (2, tp (V.sl 2 0 0)), (3, tp (V.sl 3 0 q)), (4, tp (i64 i)), (6, tp (i64 (↑n : Int))), (7, tp (i64 (i + 1))), (24, tp (vb false)), (29, tp (i64 (i + 1)))] [(1, Blk.mk M true 257 none), (2, Blk.mk [] true 0 (some (3, 1))), (3, Blk.mk L true 0 (some (3, 1)))]) (by kernel_rfl) ⟨(wr_i64 (by omega) (by omega)), trivial⟩ ?_
          refine ⟨St.mk [(1, tp (V.ptr 1 0)), (2, tp (V.sl 2 0 0)), (3, tp (V.sl 3 0 q)), (6, tp (i64 (↑n : Int))), (7, tp (i64 (i + 1)))] [(1, Blk.mk M true 257 none), (2, Blk.mk [] true 0 (some (3, 1))), (3, Blk.mk L true 0 (some (3, 1)))], by kernel_rfl, ?_⟩
          (exact ⟨(n - (i + 1)).toNat, (by omega), i + 1, q, L, rfl, hv.symm, hqe, (by omega), (by omega), (by omega)⟩)
        simp only [decide_eq_false_iff_not] at hq4
        (exfalso; omega)
  have hin : i = n := by omega
  subst hin
  rw [Int.toNat_natCast, hW] at hLe
  subst hLe
  rw [hq] at hqe
  subst hqe
  refine xe0 [1, 2, 3, 6, 7, 8] [1, 2, 3] (by kernel_rfl) ?_
  refine AWP.seq ?_
  refine AWP.cond (b := decide ((↑n : Int) < (↑n : Int))) (by kernel_rfl) (fun hq6 => ?_) (fun hq6 => ?_)
  · simp only [decide_eq_true_eq] at hq6
    (exfalso; omega)
  simp only [decide_eq_false_iff_not] at hq6
  refine AWP.exit ?_
  refine AWP.seq ?_
  refine AWP.keep' [3] [3] (sf := St.mk [(3, tp (V.sl 3 0 q))] [(3, Blk.mk L true 0 (some (3, 1)))]) (by kernel_rfl) ?_
  refine xg0 [2] [3] (by kernel_rfl) ?_
  refine AWP.ret ?_
  refine ⟨Or.inr rfl, Eq.trans (b := some ([(3, Blk.mk L true 0 (some (3, 1)))], V.sl 3 0 q)) (by kernel_rfl) ?_⟩
  first | rfl | (exfalso; omega)
theorem con_stat_y (M : List V) (n i s : Int) (hl : M.length = 257) (wg0 : gI M 256 = i64 n) (hn : 0 ≤ n ∧ n ≤ 16) (hi : 0 ≤ i ∧ i < n) (h : gI M (i.toNat * 16 + 11) = u8 s) : Con Try.prog 17 [] [.agg true M, i64 i] [] (u8 s) := by
  have c := con_thereg M n i hl wg0 hn
  rw [show (decide (0 ≤ i) && decide (i < n)) = true by simp; omega] at c
  have wg1 : gI M (0 + i.toNat * 16 + 11) = u8 s := by rw [Nat.zero_add]; exact h
  refine Con.of (C := ⟨Try.prog, tc, Try.f17.ntmps⟩) [] tcok Try.func17 rfl rfl (by kernel_rfl) (by kernel_rfl) ?_
  refine xe1 (os := [List.length M = (257 : Nat)]) [(0, ⟨some V.top, none⟩)] [1, 2, 4] [2] (by kernel_rfl) ⟨(by omega), trivial⟩ ?_
  refine AWP.seq ?_
  refine xe1 (os := [Con Try.prog 42 [] [V.agg true M, i64 i] [] (vb true)]) [(2, ⟨none, some ⟨vb true, [], []⟩⟩)] [1, 2, 4, 8] [2] (by kernel_rfl) ⟨(c ), trivial⟩ ?_
  refine AWP.condF (by kernel_rfl) ?_
  refine AWP.skip ?_
  refine xe1 (os := [(0 : Int) ≤ i ∧ i < (↑(16 : Nat) : Int), V.ptr 2 (0 + Int.toNat i * 16) = V.ptr 2 (0 + Int.toNat i * 16), (0 : Nat) + Int.toNat i * (16 : Nat) + (11 : Nat) + (0 : Nat) + (1 : Nat) ≤ List.length M, part_ true (isRow (TypeDesc.int IntKind.u8)) M (0 + Int.toNat i * 16 + 11 + 0) 1 = u8 s]) [(2, ⟨some (V.ptr 2 (0 + Int.toNat i * 16)), none⟩), (5, ⟨some (u8 s), none⟩)] [4] [] (by kernel_rfl) ⟨(by omega), rfl, (by omega), (wg1 ), trivial⟩ ?_
  refine AWP.ret ?_
  refine ⟨Or.inr rfl, Eq.trans (b := some ([], u8 s)) (by kernel_rfl) ?_⟩
  first | rfl | (exfalso; omega)
end Go.Proofs.Ytlfjnkobnkfioaa
