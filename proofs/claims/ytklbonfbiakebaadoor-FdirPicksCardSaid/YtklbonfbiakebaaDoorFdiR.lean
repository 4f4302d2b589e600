/- Alarms sorted. -/
import Derived.Test.YtklbonfbiakebaaDoorRg
import Derived.Test.YtklbonfbiakebaaDoorFdiQ
import Derived.Test.YtklbonfbiakebaaDoorFdiS
namespace Go.Proofs.YtklbonfbiakebaaDoor
open Go.Ab
set_option maxRecDepth 100000
set_option maxHeartbeats 8000000
set_option linter.unusedSimpArgs false
set_option linter.unusedVariables false
instance : Inhabited Al := ⟨⟨0, 0, 0⟩⟩
def levA (a : Al) : Nat := a.lv.toNat
theorem swapA (r : List Al) (y x : Al) (u : List Al) : (((y :: r).reverse ++ x :: u).set (r.length + 1) y).set r.length x = r.reverse ++ x :: y :: u := by
  have q1 : ((y :: r).reverse ++ x :: u).set (r.length + 1) y = (y :: r).reverse ++ y :: u := by
    rw [List.set_append_right _ _ (by simp)]
    simp
  have q2 : ((y :: r).reverse ++ y :: u).set r.length x = r.reverse ++ x :: y :: u := by
    rw [List.reverse_cons, List.append_assoc, List.set_append_right _ _ (by simp)]
    simp
  rw [q1, q2]
theorem byLev_mem : ∀ (l : List Al) (n : Nat) (a : Al), a ∈ byLev levA l n → a ∈ l
  | l, 0, a, h => by simp [byLev] at h
  | l, n + 1, a, h => by
    simp only [byLev, List.mem_append] at h
    rcases h with h | h
    · exact (List.mem_filter.1 h).1
    · exact byLev_mem l n a h
theorem insRev_len2 (lt : Al → Al → Bool) (r : List Al) (x : Al) (t : List Al) : (insRev lt r x t).length = r.length + 1 + t.length := insRev_len lt r x t
theorem byLev_len : ∀ (l : List Al) (n : Nat), (∀ a ∈ l, levA a < n) → (byLev levA l n).length = l.length := by
  intro l n h
  have := sortL_byLev levA n l [] h
  rw [byLev_nil, List.nil_append] at this
  rw [← this]
  have key : ∀ (t s : List Al), (sortL (ltLev levA) s t).length = s.length + t.length := by
    intro t
    induction t with
    | nil => intro s; simp [sortL]
    | cons x t ih => intro s; rw [sortL, ih, insRev_len]; simp; omega
  rw [key]
  simp
theorem con_isort (R : List Al) (n : Nat) (hn : R.length = n) (hm : n ≤ 1000000) (hR : ∀ a ∈ R, 0 ≤ a.lv ∧ a.lv < 5) (K : List Al) (hK : byLev levA R 5 = K) : Con Tryd.prog 60 [(2000000000, ⟨rowsA R, true, 0, some (29, 3)⟩)] [.sl 2000000000 0 n, i64 0, i64 n, .val (.func (.func 53) #[] #[])] [(2000000000, ⟨rowsA K, true, 0, some (29, 3)⟩)] (.tup []) := by
  refine Con.of (C := ⟨Tryd.prog, tc, Tryd.f60.ntmps⟩) [2000000000] tcok Tryd.func60 rfl rfl (by kernel_rfl) (by kernel_rfl) ?_
  have hrl := rowsA_len R
  refine AWP.seq ?_
  refine AWP.regionT tcok hmix [] [0, 1, 2, 3, 8] [2000000000] (os := []) (s' := St.mk [(0, tp (V.sl 2000000000 0 n)), (1, tp (i64 0)), (2, tp (i64 (↑n : Int))), (3, tp (V.val (Value.func (Fn.func 53) (Array.mk []) (Array.mk [])))), (8, tp (i64 1))] [(2000000000, Blk.mk (rowsA R) true 0 (some (29, 3)))]) (by kernel_rfl) trivial ?_
  refine AWP.block ?_
  refine AWP.loopI [8, 2, 1, 3, 0] [2000000000] (fun N s' => ∃ (i : Int), s' = St.mk [(0, T.plain (V.sl 2000000000 0 n)), (1, T.plain (i64 0)), (2, T.plain (i64 (n : Int))), (3, T.plain (V.val (Value.func (Fn.func 53) #[] #[]))), (8, T.plain (i64 i))] [(2000000000, Blk.mk (rowsA (byLev levA (R.take i.toNat) 5 ++ R.drop i.toNat)) true 0 (some (29, 3)))] ∧ 1 ≤ i ∧ (N : Int) = n + 1 - i) n (s0 := St.mk [(0, T.plain (V.sl 2000000000 0 n)), (1, T.plain (i64 0)), (2, T.plain (i64 (n : Int))), (3, T.plain (V.val (Value.func (Fn.func 53) #[] #[]))), (8, T.plain (i64 1))] [(2000000000, Blk.mk (rowsA R) true 0 (some (29, 3)))]) (by kernel_rfl) ?_ ?_
  · refine ⟨1, ?_, by omega, by omega⟩
    have : byLev levA (R.take 1) 5 ++ R.drop 1 = R := by
      cases R with
      | nil => rfl
      | cons x r =>
        have := ins_byLev levA ([] : List Al) x 5 (by have := hR x (List.mem_cons_self ..); unfold levA; omega)
        rw [byLev_nil] at this
        simp only [List.take_succ_cons, List.take_zero, List.drop_succ_cons, List.drop_zero]
        rw [← List.nil_append [x], ← this]
        rfl
    rw [show (1 : Int).toNat = 1 from rfl, this]
  rintro N s' ⟨i, rfl, hi, hN⟩
  by_cases hlt : i < n
  · obtain ⟨x, hx⟩ : ∃ x, R[i.toNat]? = some x := ⟨_, List.getElem?_eq_getElem (by omega)⟩
    have hxm := hR x (List.mem_of_getElem? hx)
    have hins := ins_byLev levA (R.take i.toNat) x 5 (by unfold levA; omega)
    have hdr : R.drop i.toNat = x :: R.drop (i.toNat + 1) := by
      obtain ⟨h1, rfl⟩ := List.getElem?_eq_some_iff.1 hx
      exact List.drop_eq_getElem_cons h1
    have htk : R.take (i.toNat + 1) = R.take i.toNat ++ [x] := by rw [List.take_add_one, hx]; rfl
    rw [← htk] at hins
    have hPm : ∀ a ∈ byLev levA (R.take i.toNat) 5, a ∈ R := fun a h => List.mem_of_mem_take (byLev_mem _ _ _ h)
    have hPl : (byLev levA (R.take i.toNat) 5).length = i.toNat := by
      rw [byLev_len _ _ (fun a h => by have := hR a (List.mem_of_mem_take h); unfold levA; omega), List.length_take]; omega
    have hi1 : (i + 1).toNat = i.toNat + 1 := by omega
    rw [← hi1] at hins htk
    rw [hdr]
    generalize byLev levA (R.take i.toNat) 5 = P at *
    rw [← hi1] at hdr ⊢
    generalize hTT : byLev levA (R.take (i + 1).toNat) 5 = TT at *
    generalize hQ : R.drop (i + 1).toNat = Q at *
    have hQl : Q.length + i.toNat + 1 = n := by rw [← hQ, List.length_drop]; omega
    refine AWP.seq ?_
    refine AWP.seq ?_
    refine AWP.regionT tcok hmix [] [0, 1, 2, 3, 8, 14] [2000000000] (os := []) (s' := St.mk [(0, tp (V.sl 2000000000 0 n)), (1, tp (i64 0)), (2, tp (i64 (↑n : Int))), (3, tp (V.val (Value.func (Fn.func 53) (Array.mk []) (Array.mk [])))), (8, tp (i64 i)), (14, tp (vb (decide (i < (↑n : Int)))))] [(2000000000, Blk.mk (rowsA (P ++ x :: Q)) true 0 (some (29, 3)))]) (by kernel_rfl) trivial ?_
    refine AWP.cond (b := decide (i < (↑n : Int))) (by kernel_rfl) (fun hq0 => ?_) (fun hq0 => ?_)
    rotate_left
    · simp only [decide_eq_false_iff_not] at hq0
      (exfalso; omega)
    simp only [decide_eq_true_eq] at hq0
    refine AWP.skip ?_
    refine AWP.seq ?_
    refine AWP.block ?_
    refine AWP.seq ?_
    refine AWP.regionT tcok hmix [] [0, 1, 2, 3, 8, 9] [2000000000] (os := []) (s' := St.mk [(0, tp (V.sl 2000000000 0 n)), (1, tp (i64 0)), (2, tp (i64 (↑n : Int))), (3, tp (V.val (Value.func (Fn.func 53) (Array.mk []) (Array.mk [])))), (8, tp (i64 i)), (9, tp (i64 i))] [(2000000000, Blk.mk (rowsA (P ++ x :: Q)) true 0 (some (29, 3)))]) (by kernel_rfl) trivial ?_
    refine AWP.block ?_
    refine AWP.loopI [9, 1, 3, 0, 8, 2] [2000000000] (fun N s' => ∃ (j : Int) (r t : List Al), s' = St.mk [(0, T.plain (V.sl 2000000000 0 n)), (1, T.plain (i64 0)), (2, T.plain (i64 (n : Int))), (3, T.plain (V.val (Value.func (Fn.func 53) #[] #[]))), (8, T.plain (i64 i)), (9, T.plain (i64 j))] [(2000000000, Blk.mk (rowsA (r.reverse ++ x :: (t ++ Q))) true 0 (some (29, 3)))] ∧ j = r.length ∧ insRev (ltLev levA) r x t = TT ∧ (∀ a ∈ r, a ∈ R) ∧ r.length + t.length = i.toNat ∧ N = r.length) i.toNat (s0 := St.mk [(0, T.plain (V.sl 2000000000 0 n)), (1, T.plain (i64 0)), (2, T.plain (i64 (n : Int))), (3, T.plain (V.val (Value.func (Fn.func 53) #[] #[]))), (8, T.plain (i64 i)), (9, T.plain (i64 i))] [(2000000000, Blk.mk (rowsA (P ++ x :: Q)) true 0 (some (29, 3)))]) (by kernel_rfl) ?_ ?_
    · refine ⟨i, P.reverse, [], ?_, ?_, hins, fun a h => hPm a (List.mem_reverse.1 h), ?_, ?_⟩
      · rw [List.reverse_reverse, List.nil_append]
      · rw [List.length_reverse, hPl]; omega
      · rw [List.length_reverse, hPl]; rfl
      · rw [List.length_reverse, hPl]
    rintro M s' ⟨j, r, t, rfl, hj, hT, hrm, hrt, rfl⟩
    cases r with
    | nil =>
      obtain rfl : j = 0 := by simpa using hj
      simp only [insRev] at hT
      have hZ : ([] : List Al).reverse ++ x :: (t ++ Q) = TT ++ Q := by rw [← hT]; rfl
      rw [hZ]
      refine AWP.seq ?_
      refine AWP.seq ?_
      refine AWP.regionT tcok hmix [(7, ⟨some (V.ptr 2000000000 0), none⟩), (8, ⟨some (V.agg true (List.take 3 (List.drop 0 (rowsA (TT ++ Q))))), none⟩), (12, ⟨some (V.ptr 2000000000 0), none⟩), (13, ⟨some (V.agg true (List.take 3 (List.drop 0 (rowsA (TT ++ Q))))), none⟩), (15, ⟨some (V.tup [vb false]), none⟩)] [0, 1, 2, 3, 8, 9, 34] [2000000000] (os := [false = true → ((0 : Int) ≤ (0 : Int) ∧ (0 : Int) < (↑n : Int)) ∧ V.ptr (2000000000 : Nat) (0 : Nat) = V.ptr (2000000000 : Nat) (0 : Nat) ∧ True, false = true → (3 : Nat) ≤ List.length (rowsA (TT ++ Q)) ∧ V.agg true (List.take (3 : Nat) (List.drop (0 : Nat) (rowsA (TT ++ Q)))) = V.agg true (List.take (3 : Nat) (List.drop (0 : Nat) (rowsA (TT ++ Q)))) ∧ True, false = true → ((0 : Int) ≤ (-1 : Int) ∧ (-1 : Int) < (↑n : Int)) ∧ V.ptr (2000000000 : Nat) (0 : Nat) = V.ptr (2000000000 : Nat) (0 : Nat) ∧ True, false = true → (3 : Nat) ≤ List.length (rowsA (TT ++ Q)) ∧ V.agg true (List.take (3 : Nat) (List.drop (0 : Nat) (rowsA (TT ++ Q)))) = V.agg true (List.take (3 : Nat) (List.drop (0 : Nat) (rowsA (TT ++ Q)))) ∧ True, false = true → False]) (s' := St.mk [(0, tp (V.sl 2000000000 0 n)), (1, tp (i64 0)), (2, tp (i64 (↑n : Int))), (3, tp (V.val (Value.func (Fn.func 53) (Array.mk []) (Array.mk [])))), (8, tp (i64 i)), (9, tp (i64 0)), (34, tp (vb false))] [(2000000000, Blk.mk (rowsA (TT ++ Q)) true 0 (some (29, 3)))]) (by kernel_rfl) ⟨(by intro hc0; first | (cases hc0; done) | ((try simp only [Bool.or_false, Bool.false_or, Bool.true_and, Bool.and_true, decide_eq_true_eq, decide_eq_false_iff_not, Bool.and_eq_true, Bool.or_eq_true, Bool.or_eq_false_iff, Bool.not_eq_true', Bool.and_eq_false_iff, beq_iff_eq, bne_iff_ne, bne_eq_false_iff_eq, beq_eq_false_iff_ne, Bool.not_eq_false'] at hc0); exact ⟨(by omega), rfl, trivial⟩)), (by intro hc0; first | (cases hc0; done) | ((try simp only [Bool.or_false, Bool.false_or, Bool.true_and, Bool.and_true, decide_eq_true_eq, decide_eq_false_iff_not, Bool.and_eq_true, Bool.or_eq_true, Bool.or_eq_false_iff, Bool.not_eq_true', Bool.and_eq_false_iff, beq_iff_eq, bne_iff_ne, bne_eq_false_iff_eq, beq_eq_false_iff_ne, Bool.not_eq_false'] at hc0); exact ⟨(by first | omega | (simp [len_u8s]; omega) | (simp [len_u8s]; done)), rfl, trivial⟩)), (by intro hc0; first | (cases hc0; done) | ((try simp only [Bool.or_false, Bool.false_or, Bool.true_and, Bool.and_true, decide_eq_true_eq, decide_eq_false_iff_not, Bool.and_eq_true, Bool.or_eq_true, Bool.or_eq_false_iff, Bool.not_eq_true', Bool.and_eq_false_iff, beq_iff_eq, bne_iff_ne, bne_eq_false_iff_eq, beq_eq_false_iff_ne, Bool.not_eq_false'] at hc0); exact ⟨(by first | omega | (simp [len_u8s]; omega) | (simp [len_u8s]; done)), rfl, trivial⟩)), (by intro hc0; first | (cases hc0; done) | ((try simp only [Bool.or_false, Bool.false_or, Bool.true_and, Bool.and_true, decide_eq_true_eq, decide_eq_false_iff_not, Bool.and_eq_true, Bool.or_eq_true, Bool.or_eq_false_iff, Bool.not_eq_true', Bool.and_eq_false_iff, beq_iff_eq, bne_iff_ne, bne_eq_false_iff_eq, beq_eq_false_iff_ne, Bool.not_eq_false'] at hc0); exact ⟨(by first | omega | (simp [len_u8s]; omega) | (simp [len_u8s]; done)), rfl, trivial⟩)), (by (intro hc0; first | (cases hc0; done) | (exfalso; simp_all; done) | ((try simp only [Bool.or_false, Bool.false_or, Bool.true_and, Bool.and_true, decide_eq_true_eq, decide_eq_false_iff_not, Bool.and_eq_true, Bool.or_eq_true, Bool.or_eq_false_iff, Bool.not_eq_true', Bool.and_eq_false_iff, beq_iff_eq, bne_iff_ne, bne_eq_false_iff_eq, beq_eq_false_iff_ne, Bool.not_eq_false'] at hc0); omega))), trivial⟩ ?_
      refine AWP.condF (by kernel_rfl) ?_
      refine AWP.exit ?_
      refine AWP.region tcok hmix [(1, ⟨some (i64 (i + 1)), none⟩)] (os := [i64 (IntKind.wrap IntKind.i64 (i + 1)) = i64 (i + 1)]) (sf := St.mk [(0, tp (V.sl 2000000000 0 n)), (1, tp (i64 0)), (2, tp (i64 (↑n : Int))), (3, tp (V.val (Value.func (Fn.func 53) (Array.mk []) (Array.mk [])))), (8, tp (i64 (i + 1))), (9, tp (i64 0)), (15, tp (i64 i)), (16, tp (i64 (i + 1))), (34, tp (vb false))] [(2000000000, Blk.mk (rowsA (TT ++ Q)) true 0 (some (29, 3)))]) (by kernel_rfl) ⟨(wr_i64 (by omega) (by omega)), trivial⟩ ?_
      refine ⟨St.mk [(0, tp (V.sl 2000000000 0 n)), (1, tp (i64 0)), (2, tp (i64 (↑n : Int))), (3, tp (V.val (Value.func (Fn.func 53) (Array.mk []) (Array.mk [])))), (8, tp (i64 (i + 1)))] [(2000000000, Blk.mk (rowsA (TT ++ Q)) true 0 (some (29, 3)))], by kernel_rfl, ?_⟩
      first | (exact ⟨(n - i).toNat, (by omega), i + 1, (by rw [hTT, hQ]), (by omega), (by omega)⟩) | (exfalso; omega)
    | cons y r =>
      have hj : j = (r.length : Int) + 1 := by simpa using hj
      have hym := hR y (hrm y (List.mem_cons_self ..))
      have hlen : ((y :: r).reverse ++ x :: (t ++ Q)).length = n := by simp only [List.length_append, List.length_reverse, List.length_cons] at hrt ⊢; omega
      have hsw := swapA r y x (t ++ Q)
      have h1 : ((y :: r).reverse ++ x :: (t ++ Q))[j.toNat]? = some x := by
        rw [show j.toNat = (y :: r).reverse.length by simp; omega, List.getElem?_append_right (Nat.le_refl _), Nat.sub_self]; rfl
      have h2 : ((y :: r).reverse ++ x :: (t ++ Q))[(j - 1).toNat]? = some y := by
        rw [show (j - 1).toNat = r.reverse.length by simp; omega, List.reverse_cons, List.append_assoc, List.getElem?_append_right (Nat.le_refl _), Nat.sub_self]; rfl
      have hput : ∀ S : List Al, S.length = n → (S.set (r.length + 1) y).set r.length x = r.reverse ++ x :: y :: (t ++ Q) → putC (3 == 1) (putC (3 == 1) (rowsA S) (0 + j.toNat * 3) (Al.row y)) (0 + (j - 1).toNat * 3) (Al.row x) = rowsA (r.reverse ++ x :: y :: (t ++ Q)) := fun S hl e => by
        rw [rowsA_put (by simp only [List.length_cons] at hrt; omega), rowsA_put (by rw [List.length_set]; simp only [List.length_cons] at hrt; omega), ← e, show j.toNat = r.length + 1 by omega, show (j - 1).toNat = r.length by omega]
      have hput := hput _ hlen hsw
      have c := con_cmp x y (by omega) (by omega)
      have hrm' : ∀ a ∈ r, a ∈ R := fun a h => hrm a (List.mem_cons_of_mem _ h)
      simp only [List.length_cons] at hrt
      have hsl : (rowsA ((y :: r).reverse ++ x :: (t ++ Q))).length = n * 3 := by rw [rowsA_len, hlen]
      have hstop : insRev (ltLev levA) (y :: r) x t = TT := hT
      generalize hZe : (y :: r).reverse ++ x :: (t ++ Q) = Z at *
      have wr1 := rowsA_at h1
      have wr2 := rowsA_at h2
      have wb : decide (j > 0) = true := by simp; omega
      by_cases hc : y.lv < x.lv
      · have hl : ltLev levA x y = true := by
          unfold ltLev levA
          exact decide_eq_true (by omega)
        rw [insRev, if_pos hl] at hT
        have hpl : (putC (3 == 1) (rowsA Z) (0 + j.toNat * 3) (Al.row y)).length = n * 3 := by rw [rowsA_put (by omega), rowsA_len, List.length_set, hlen]
        refine AWP.seq ?_
        refine AWP.seq ?_
        refine AWP.regionT tcok hmix [(2, ⟨some (vb true), none⟩), (7, ⟨some (V.ptr 2000000000 (0 + Int.toNat j * 3)), none⟩), (8, ⟨some (V.agg true (Al.row x)), none⟩), (11, ⟨some (i64 (j - 1)), none⟩), (12, ⟨some (V.ptr 2000000000 (0 + Int.toNat (j - 1) * 3)), none⟩), (13, ⟨some (V.agg true (Al.row y)), none⟩), (14, ⟨some (V.tup []), some ⟨i64 (y.lv - x.lv), [], []⟩⟩)] [0, 1, 2, 3, 8, 9, 34] [2000000000] (os := [vb (decide (j > 0)) = vb true, true = true → ((0 : Int) ≤ j ∧ j < (↑n : Int)) ∧ V.ptr (2000000000 : Nat) ((0 : Nat) + Int.toNat j * (3 : Nat)) = V.ptr (2000000000 : Nat) ((0 : Nat) + Int.toNat j * (3 : Nat)) ∧ True, true = true → (0 : Nat) + Int.toNat j * (3 : Nat) + (3 : Nat) ≤ List.length (rowsA Z) ∧ V.agg true (List.take (3 : Nat) (List.drop ((0 : Nat) + Int.toNat j * (3 : Nat)) (rowsA Z))) = V.agg true [u8 x.lv, i64 x.un, u8 x.ev] ∧ True, true = true → i64 (IntKind.wrap IntKind.i64 (j - (1 : Int))) = i64 (j - (1 : Int)) ∧ True, true = true → ((0 : Int) ≤ j - (1 : Int) ∧ j - (1 : Int) < (↑n : Int)) ∧ V.ptr (2000000000 : Nat) ((0 : Nat) + Int.toNat (j - (1 : Int)) * (3 : Nat)) = V.ptr (2000000000 : Nat) ((0 : Nat) + Int.toNat (j - (1 : Int)) * (3 : Nat)) ∧ True, true = true → (0 : Nat) + Int.toNat (j - (1 : Int)) * (3 : Nat) + (3 : Nat) ≤ List.length (rowsA Z) ∧ V.agg true (List.take (3 : Nat) (List.drop ((0 : Nat) + Int.toNat (j - (1 : Int)) * (3 : Nat)) (rowsA Z))) = V.agg true [u8 y.lv, i64 y.un, u8 y.ev] ∧ True, Con Tryd.prog 53 [] [V.agg true [u8 x.lv, i64 x.un, u8 x.ev], V.agg true [u8 y.lv, i64 y.un, u8 y.ev]] [] (i64 (y.lv - x.lv))]) (s' := St.mk [(0, tp (V.sl 2000000000 0 n)), (1, tp (i64 0)), (2, tp (i64 (↑n : Int))), (3, tp (V.val (Value.func (Fn.func 53) (Array.mk []) (Array.mk [])))), (8, tp (i64 i)), (9, tp (i64 j)), (34, tp (vb (true && decide (y.lv - x.lv < 0))))] [(2000000000, Blk.mk (rowsA Z) true 0 (some (29, 3)))]) (by kernel_rfl) ⟨(congrArg (fun b => V.val (Value.bool b)) wb), (by intro hc0; first | (cases hc0; done) | ((try simp only [Bool.or_false, Bool.false_or, Bool.true_and, Bool.and_true, decide_eq_true_eq, decide_eq_false_iff_not, Bool.and_eq_true, Bool.or_eq_true, Bool.or_eq_false_iff, Bool.not_eq_true', Bool.and_eq_false_iff, beq_iff_eq, bne_iff_ne, bne_eq_false_iff_eq, beq_eq_false_iff_ne, Bool.not_eq_false'] at hc0); exact ⟨(by omega), rfl, trivial⟩)), (by intro hc0; first | (cases hc0; done) | ((try simp only [Bool.or_false, Bool.false_or, Bool.true_and, Bool.and_true, decide_eq_true_eq, decide_eq_false_iff_not, Bool.and_eq_true, Bool.or_eq_true, Bool.or_eq_false_iff, Bool.not_eq_true', Bool.and_eq_false_iff, beq_iff_eq, bne_iff_ne, bne_eq_false_iff_eq, beq_eq_false_iff_ne, Bool.not_eq_false'] at hc0); exact ⟨(by first | omega | (simp [len_u8s]; done) | (simp [len_u8s]; omega)), (congrArg (V.agg true) (wr1 )), trivial⟩)), (by intro hc0; first | (cases hc0; done) | ((try simp only [Bool.or_false, Bool.false_or, Bool.true_and, Bool.and_true, decide_eq_true_eq, decide_eq_false_iff_not, Bool.and_eq_true, Bool.or_eq_true, Bool.or_eq_false_iff, Bool.not_eq_true', Bool.and_eq_false_iff, beq_iff_eq, bne_iff_ne, bne_eq_false_iff_eq, beq_eq_false_iff_ne, Bool.not_eq_false'] at hc0); exact ⟨(wr_i64 (by omega) (by omega)), trivial⟩)), (by intro hc0; first | (cases hc0; done) | ((try simp only [Bool.or_false, Bool.false_or, Bool.true_and, Bool.and_true, decide_eq_true_eq, decide_eq_false_iff_not, Bool.and_eq_true, Bool.or_eq_true, Bool.or_eq_false_iff, Bool.not_eq_true', Bool.and_eq_false_iff, beq_iff_eq, bne_iff_ne, bne_eq_false_iff_eq, beq_eq_false_iff_ne, Bool.not_eq_false'] at hc0); exact ⟨(by omega), rfl, trivial⟩)), (by intro hc0; first | (cases hc0; done) | ((try simp only [Bool.or_false, Bool.false_or, Bool.true_and, Bool.and_true, decide_eq_true_eq, decide_eq_false_iff_not, Bool.and_eq_true, Bool.or_eq_true, Bool.or_eq_false_iff, Bool.not_eq_true', Bool.and_eq_false_iff, beq_iff_eq, bne_iff_ne, bne_eq_false_iff_eq, beq_eq_false_iff_ne, Bool.not_eq_false'] at hc0); exact ⟨(by first | omega | (simp [len_u8s]; done) | (simp [len_u8s]; omega)), (congrArg (V.agg true) (wr2 )), trivial⟩)), (c ), trivial⟩ ?_
        refine AWP.cond (b := true && decide (y.lv - x.lv < 0)) (by kernel_rfl) (fun hq2 => ?_) (fun hq2 => ?_)
        · simp only [Bool.true_and, decide_eq_true_eq] at hq2
          refine AWP.skip ?_
          refine AWP.seq ?_
          refine AWP.block ?_
          refine AWP.region tcok hmix [(4, ⟨some (i64 (j - 1)), none⟩), (7, ⟨some (i64 (j - 1)), none⟩), (8, ⟨some (V.ptr 2000000000 (0 + Int.toNat (j - 1) * 3)), none⟩), (9, ⟨some (V.agg true (Al.row y)), none⟩), (12, ⟨some (V.ptr 2000000000 (0 + Int.toNat j * 3)), none⟩), (13, ⟨some (V.agg true (Al.row x)), none⟩), (14, ⟨some (V.ptr 2000000000 (0 + Int.toNat j * 3)), none⟩), (15, ⟨some V.top, none⟩), (16, ⟨some (V.ptr 2000000000 (0 + Int.toNat (j - 1) * 3)), none⟩), (17, ⟨some V.top, none⟩)] (os := [i64 (IntKind.wrap IntKind.i64 (j - 1)) = i64 (j - 1), i64 (IntKind.wrap IntKind.i64 (j - 1)) = i64 (j - 1), (0 : Int) ≤ j - (1 : Int) ∧ j - (1 : Int) < (↑n : Int), V.ptr 2000000000 (0 + Int.toNat (j - 1) * 3) = V.ptr 2000000000 (0 + Int.toNat (j - 1) * 3), (0 : Nat) + Int.toNat (j - (1 : Int)) * (3 : Nat) + (3 : Nat) ≤ List.length (rowsA Z), V.agg true (List.take 3 (List.drop (0 + Int.toNat (j - 1) * 3) (rowsA Z))) = V.agg true [u8 y.lv, i64 y.un, u8 y.ev], (0 : Int) ≤ j ∧ j < (↑n : Int), V.ptr 2000000000 (0 + Int.toNat j * 3) = V.ptr 2000000000 (0 + Int.toNat j * 3), (0 : Nat) + Int.toNat j * (3 : Nat) + (3 : Nat) ≤ List.length (rowsA Z), V.agg true (List.take 3 (List.drop (0 + Int.toNat j * 3) (rowsA Z))) = V.agg true [u8 x.lv, i64 x.un, u8 x.ev], (0 : Int) ≤ j ∧ j < (↑n : Int), V.ptr 2000000000 (0 + Int.toNat j * 3) = V.ptr 2000000000 (0 + Int.toNat j * 3), (3 : Nat) = (3 : Nat), (0 : Nat) + Int.toNat j * (3 : Nat) + (3 : Nat) ≤ List.length (rowsA Z), (0 : Int) ≤ j - (1 : Int) ∧ j - (1 : Int) < (↑n : Int), V.ptr 2000000000 (0 + Int.toNat (j - 1) * 3) = V.ptr 2000000000 (0 + Int.toNat (j - 1) * 3), (3 : Nat) = (3 : Nat), (0 : Nat) + Int.toNat (j - (1 : Int)) * (3 : Nat) + (3 : Nat) ≤ List.length (putC ((3 : Nat) == (1 : Nat)) (rowsA Z) ((0 : Nat) + Int.toNat j * (3 : Nat)) [u8 y.lv, i64 y.un, u8 y.ev])]) (sf := St.mk [(0, tp (V.sl 2000000000 0 n)), (1, tp (i64 0)), (2, tp (i64 (↑n : Int))), (3, tp (V.val (Value.func (Fn.func 53) (Array.mk []) (Array.mk [])))), (8, tp (i64 i)), (9, tp (i64 j)), (34, tp (vb (true && decide (y.lv - x.lv < 0)))), (37, tp (V.sl 2000000000 0 n)), (38, tp (i64 j)), (39, tp (V.sl 2000000000 0 n)), (40, tp (i64 j)), (41, tp (i64 (j - 1))), (42, tp (V.sl 2000000000 0 n)), (43, tp (i64 j)), (44, tp (i64 (j - 1))), (45, tp (V.ptr 2000000000 (0 + Int.toNat (j - 1) * 3))), (46, tp (V.agg true [u8 y.lv, i64 y.un, u8 y.ev])), (47, tp (V.sl 2000000000 0 n)), (48, tp (i64 j)), (49, tp (V.ptr 2000000000 (0 + Int.toNat j * 3))), (50, tp (V.agg true [u8 x.lv, i64 x.un, u8 x.ev])), (51, tp (V.ptr 2000000000 (0 + Int.toNat j * 3))), (52, tp (V.ptr 2000000000 (0 + Int.toNat (j - 1) * 3)))] [(2000000000, Blk.mk (putC (3 == 1) (putC (3 == 1) (rowsA Z) (0 + Int.toNat j * 3) [u8 y.lv, i64 y.un, u8 y.ev]) (0 + Int.toNat (j - 1) * 3) [u8 x.lv, i64 x.un, u8 x.ev]) true 0 (some (29, 3)))]) (by kernel_rfl) ⟨(wr_i64 (by omega) (by omega)), (wr_i64 (by omega) (by omega)), (by omega), rfl, (by first | omega | (simp [len_u8s]; done) | (simp [len_u8s]; omega)), (congrArg (V.agg true) (wr2 )), (by omega), rfl, (by first | omega | (simp [len_u8s]; done) | (simp [len_u8s]; omega)), (congrArg (V.agg true) (wr1 )), (by omega), rfl, (by omega), (by first | omega | (simp [len_u8s]; done) | (simp [len_u8s]; omega)), (by omega), rfl, (by omega), (by (show _ ≤ List.length (putC (3 == 1) (rowsA Z) (0 + j.toNat * 3) (Al.row y)); omega)), trivial⟩ ?_
          refine AWP.keep' [0, 1, 2, 3, 8, 9] [2000000000] (sf := St.mk [(0, tp (V.sl 2000000000 0 n)), (1, tp (i64 0)), (2, tp (i64 (↑n : Int))), (3, tp (V.val (Value.func (Fn.func 53) (Array.mk []) (Array.mk [])))), (8, tp (i64 i)), (9, tp (i64 j))] [(2000000000, Blk.mk (putC (3 == 1) (putC (3 == 1) (rowsA Z) (0 + Int.toNat j * 3) [u8 y.lv, i64 y.un, u8 y.ev]) (0 + Int.toNat (j - 1) * 3) [u8 x.lv, i64 x.un, u8 x.ev]) true 0 (some (29, 3)))]) (by kernel_rfl) ?_
          refine AWP.region tcok hmix [(1, ⟨some (i64 (j - 1)), none⟩)] (os := [i64 (IntKind.wrap IntKind.i64 (j - 1)) = i64 (j - 1)]) (sf := St.mk [(0, tp (V.sl 2000000000 0 n)), (1, tp (i64 0)), (2, tp (i64 (↑n : Int))), (3, tp (V.val (Value.func (Fn.func 53) (Array.mk []) (Array.mk [])))), (8, tp (i64 i)), (9, tp (i64 (j - 1))), (35, tp (i64 j)), (36, tp (i64 (j - 1)))] [(2000000000, Blk.mk (putC (3 == 1) (putC (3 == 1) (rowsA Z) (0 + Int.toNat j * 3) [u8 y.lv, i64 y.un, u8 y.ev]) (0 + Int.toNat (j - 1) * 3) [u8 x.lv, i64 x.un, u8 x.ev]) true 0 (some (29, 3)))]) (by kernel_rfl) ⟨(wr_i64 (by omega) (by omega)), trivial⟩ ?_
          refine ⟨St.mk [(0, tp (V.sl 2000000000 0 n)), (1, tp (i64 0)), (2, tp (i64 (↑n : Int))), (3, tp (V.val (Value.func (Fn.func 53) (Array.mk []) (Array.mk [])))), (8, tp (i64 i)), (9, tp (i64 (j - 1)))] [(2000000000, Blk.mk (putC (3 == 1) (putC (3 == 1) (rowsA Z) (0 + Int.toNat j * 3) [u8 y.lv, i64 y.un, u8 y.ev]) (0 + Int.toNat (j - 1) * 3) [u8 x.lv, i64 x.un, u8 x.ev]) true 0 (some (29, 3)))], by kernel_rfl, ?_⟩
          first | (exact ⟨r.length, (by simp), j - 1, r, y :: t, (by show _ = St.mk _ [(_, Blk.mk (rowsA (r.reverse ++ x :: y :: (t ++ Q))) _ _ _)]; rw [← hput]; rfl), (by omega), hT, hrm', (by simp only [List.length_cons]; omega), rfl⟩) | (exfalso; simp at hq2; omega)
        simp only [Bool.true_and, decide_eq_false_iff_not] at hq2
        (exfalso; omega)
      · have hl : ltLev levA x y = false := by
          unfold ltLev levA
          exact decide_eq_false (by omega)
        rw [insRev, if_neg (by rw [hl]; simp)] at hT
        have hZ : Z = TT ++ Q := by rw [← hT, ← hZe]; simp
        subst hZ
        refine AWP.seq ?_
        refine AWP.seq ?_
        refine AWP.regionT tcok hmix [(2, ⟨some (vb true), none⟩), (7, ⟨some (V.ptr 2000000000 (0 + Int.toNat j * 3)), none⟩), (8, ⟨some (V.agg true (Al.row x)), none⟩), (11, ⟨some (i64 (j - 1)), none⟩), (12, ⟨some (V.ptr 2000000000 (0 + Int.toNat (j - 1) * 3)), none⟩), (13, ⟨some (V.agg true (Al.row y)), none⟩), (14, ⟨some (V.tup []), some ⟨i64 (y.lv - x.lv), [], []⟩⟩)] [0, 1, 2, 3, 8, 9, 34] [2000000000] (os := [vb (decide (j > 0)) = vb true, true = true → ((0 : Int) ≤ j ∧ j < (↑n : Int)) ∧ V.ptr (2000000000 : Nat) ((0 : Nat) + Int.toNat j * (3 : Nat)) = V.ptr (2000000000 : Nat) ((0 : Nat) + Int.toNat j * (3 : Nat)) ∧ True, true = true → (0 : Nat) + Int.toNat j * (3 : Nat) + (3 : Nat) ≤ List.length (rowsA (TT ++ Q)) ∧ V.agg true (List.take (3 : Nat) (List.drop ((0 : Nat) + Int.toNat j * (3 : Nat)) (rowsA (TT ++ Q)))) = V.agg true [u8 x.lv, i64 x.un, u8 x.ev] ∧ True, true = true → i64 (IntKind.wrap IntKind.i64 (j - (1 : Int))) = i64 (j - (1 : Int)) ∧ True, true = true → ((0 : Int) ≤ j - (1 : Int) ∧ j - (1 : Int) < (↑n : Int)) ∧ V.ptr (2000000000 : Nat) ((0 : Nat) + Int.toNat (j - (1 : Int)) * (3 : Nat)) = V.ptr (2000000000 : Nat) ((0 : Nat) + Int.toNat (j - (1 : Int)) * (3 : Nat)) ∧ True, true = true → (0 : Nat) + Int.toNat (j - (1 : Int)) * (3 : Nat) + (3 : Nat) ≤ List.length (rowsA (TT ++ Q)) ∧ V.agg true (List.take (3 : Nat) (List.drop ((0 : Nat) + Int.toNat (j - (1 : Int)) * (3 : Nat)) (rowsA (TT ++ Q)))) = V.agg true [u8 y.lv, i64 y.un, u8 y.ev] ∧ True, Con Tryd.prog 53 [] [V.agg true [u8 x.lv, i64 x.un, u8 x.ev], V.agg true [u8 y.lv, i64 y.un, u8 y.ev]] [] (i64 (y.lv - x.lv))]) (s' := St.mk [(0, tp (V.sl 2000000000 0 n)), (1, tp (i64 0)), (2, tp (i64 (↑n : Int))), (3, tp (V.val (Value.func (Fn.func 53) (Array.mk []) (Array.mk [])))), (8, tp (i64 i)), (9, tp (i64 j)), (34, tp (vb (true && decide (y.lv - x.lv < 0))))] [(2000000000, Blk.mk (rowsA (TT ++ Q)) true 0 (some (29, 3)))]) (by kernel_rfl) ⟨(congrArg (fun b => V.val (Value.bool b)) wb), (by intro hc0; first | (cases hc0; done) | ((try simp only [Bool.or_false, Bool.false_or, Bool.true_and, Bool.and_true, decide_eq_true_eq, decide_eq_false_iff_not, Bool.and_eq_true, Bool.or_eq_true, Bool.or_eq_false_iff, Bool.not_eq_true', Bool.and_eq_false_iff, beq_iff_eq, bne_iff_ne, bne_eq_false_iff_eq, beq_eq_false_iff_ne, Bool.not_eq_false'] at hc0); exact ⟨(by omega), rfl, trivial⟩)), (by intro hc0; first | (cases hc0; done) | ((try simp only [Bool.or_false, Bool.false_or, Bool.true_and, Bool.and_true, decide_eq_true_eq, decide_eq_false_iff_not, Bool.and_eq_true, Bool.or_eq_true, Bool.or_eq_false_iff, Bool.not_eq_true', Bool.and_eq_false_iff, beq_iff_eq, bne_iff_ne, bne_eq_false_iff_eq, beq_eq_false_iff_ne, Bool.not_eq_false'] at hc0); exact ⟨(by first | omega | (simp [len_u8s]; done) | (simp [len_u8s]; omega)), (congrArg (V.agg true) (wr1 )), trivial⟩)), (by intro hc0; first | (cases hc0; done) | ((try simp only [Bool.or_false, Bool.false_or, Bool.true_and, Bool.and_true, decide_eq_true_eq, decide_eq_false_iff_not, Bool.and_eq_true, Bool.or_eq_true, Bool.or_eq_false_iff, Bool.not_eq_true', Bool.and_eq_false_iff, beq_iff_eq, bne_iff_ne, bne_eq_false_iff_eq, beq_eq_false_iff_ne, Bool.not_eq_false'] at hc0); exact ⟨(wr_i64 (by omega) (by omega)), trivial⟩)), (by intro hc0; first | (cases hc0; done) | ((try simp only [Bool.or_false, Bool.false_or, Bool.true_and, Bool.and_true, decide_eq_true_eq, decide_eq_false_iff_not, Bool.and_eq_true, Bool.or_eq_true, Bool.or_eq_false_iff, Bool.not_eq_true', Bool.and_eq_false_iff, beq_iff_eq, bne_iff_ne, bne_eq_false_iff_eq, beq_eq_false_iff_ne, Bool.not_eq_false'] at hc0); exact ⟨(by omega), rfl, trivial⟩)), (by intro hc0; first | (cases hc0; done) | ((try simp only [Bool.or_false, Bool.false_or, Bool.true_and, Bool.and_true, decide_eq_true_eq, decide_eq_false_iff_not, Bool.and_eq_true, Bool.or_eq_true, Bool.or_eq_false_iff, Bool.not_eq_true', Bool.and_eq_false_iff, beq_iff_eq, bne_iff_ne, bne_eq_false_iff_eq, beq_eq_false_iff_ne, Bool.not_eq_false'] at hc0); exact ⟨(by first | omega | (simp [len_u8s]; done) | (simp [len_u8s]; omega)), (congrArg (V.agg true) (wr2 )), trivial⟩)), (c ), trivial⟩ ?_
        refine AWP.cond (b := true && decide (y.lv - x.lv < 0)) (by kernel_rfl) (fun hq3 => ?_) (fun hq3 => ?_)
        · simp only [Bool.true_and, decide_eq_true_eq] at hq3
          (exfalso; omega)
        simp only [Bool.true_and, decide_eq_false_iff_not] at hq3
        refine AWP.exit ?_
        refine AWP.region tcok hmix [(1, ⟨some (i64 (i + 1)), none⟩)] (os := [i64 (IntKind.wrap IntKind.i64 (i + 1)) = i64 (i + 1)]) (sf := St.mk [(0, tp (V.sl 2000000000 0 n)), (1, tp (i64 0)), (2, tp (i64 (↑n : Int))), (3, tp (V.val (Value.func (Fn.func 53) (Array.mk []) (Array.mk [])))), (8, tp (i64 (i + 1))), (9, tp (i64 j)), (15, tp (i64 i)), (16, tp (i64 (i + 1))), (34, tp (vb (true && decide (y.lv - x.lv < 0))))] [(2000000000, Blk.mk (rowsA (TT ++ Q)) true 0 (some (29, 3)))]) (by kernel_rfl) ⟨(wr_i64 (by omega) (by omega)), trivial⟩ ?_
        refine ⟨St.mk [(0, tp (V.sl 2000000000 0 n)), (1, tp (i64 0)), (2, tp (i64 (↑n : Int))), (3, tp (V.val (Value.func (Fn.func 53) (Array.mk []) (Array.mk [])))), (8, tp (i64 (i + 1)))] [(2000000000, Blk.mk (rowsA (TT ++ Q)) true 0 (some (29, 3)))], by kernel_rfl, ?_⟩
        first | (exact ⟨(n - i).toNat, (by omega), i + 1, (by rw [hTT, hQ]), (by omega), (by omega)⟩) | (exfalso; simp at hq3; omega)
  have hin : n ≤ i := by omega
  rw [List.take_of_length_le (by omega), List.drop_eq_nil_of_le (by omega), List.append_nil, hK]
  refine AWP.seq ?_
  refine AWP.seq ?_
  refine AWP.regionT tcok hmix [] [0, 1, 2, 3, 8, 14] [2000000000] (os := []) (s' := St.mk [(0, tp (V.sl 2000000000 0 n)), (1, tp (i64 0)), (2, tp (i64 (↑n : Int))), (3, tp (V.val (Value.func (Fn.func 53) (Array.mk []) (Array.mk [])))), (8, tp (i64 i)), (14, tp (vb (decide (i < (↑n : Int)))))] [(2000000000, Blk.mk (rowsA K) true 0 (some (29, 3)))]) (by kernel_rfl) trivial ?_
  refine AWP.cond (b := decide (i < (↑n : Int))) (by kernel_rfl) (fun hq4 => ?_) (fun hq4 => ?_)
  · simp only [decide_eq_true_eq] at hq4
    (exfalso; omega)
  simp only [decide_eq_false_iff_not] at hq4
  refine AWP.exit ?_
  refine ⟨Or.inl rfl, Eq.trans (b := some ([(2000000000, Blk.mk (rowsA K) true 0 (some (29, 3)))], V.tup [])) (by kernel_rfl) ?_⟩
  first | rfl | (exfalso; omega)
end Go.Proofs.YtklbonfbiakebaaDoor
