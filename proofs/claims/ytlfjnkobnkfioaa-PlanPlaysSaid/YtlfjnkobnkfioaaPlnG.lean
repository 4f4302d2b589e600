/- slices.IndexFunc and slices.DeleteFunc at items: by its number. -/
import Derived.Test.YtlfjnkobnkfioaaRg
import Derived.Test.YtlfjnkobnkfioaaPlnF
namespace Go.Proofs.Ytlfjnkobnkfioaa
open Go.Ab
set_option maxRecDepth 100000
set_option maxHeartbeats 8000000
set_option linter.unusedSimpArgs false
set_option linter.unusedVariables false
abbrev pId (id : Int) (a : It) : Bool := a.id == id
theorem con_idxI (id : Int) (R : List It) (n : Nat) (hn : R.length = n) (hm : n ≤ 1000) (x : Int) (hx : (if fstP (pId id) R < n then ((fstP (pId id) R : Nat) : Int) else -1) = x) : Con Try.prog 59 [(2000000000, ⟨rowsI R, true, 0, some (79, 3)⟩), (2000000001, ⟨[u16 id], true, 1, none⟩)] [.sl 2000000000 0 n, .clo (.func 51) [] [.ptr 2000000001 0]] [(2000000000, ⟨rowsI R, true, 0, some (79, 3)⟩), (2000000001, ⟨[u16 id], true, 1, none⟩)] (i64 x) := by
  have hrl := rowsI_len R
  refine Con.of (C := ⟨Try.prog, tc, Try.f59.ntmps⟩) [2000000000, 2000000001] tcok Try.func59 rfl rfl (by kernel_rfl) (by kernel_rfl) ?_
  refine AWP.seq ?_
  refine AWP.regionT tcok hmix [] [0, 1, 4] [2000000000, 2000000001] (os := []) (s' := St.mk [(0, tp (V.sl 2000000000 0 n)), (1, tp (V.clo (Fn.func 51) [] [V.ptr 2000000001 0])), (4, tp (i64 0))] [(2000000000, Blk.mk (rowsI R) true 0 (some (79, 3))), (2000000001, Blk.mk [u16 id] true 1 none)]) (by kernel_rfl) trivial ?_
  refine AWP.seq ?_
  refine xe0 [0, 1, 4, 7, 8] [2000000000, 2000000001] (by kernel_rfl) ?_
  refine AWP.block ?_
  refine AWP.loopI [8, 7, 1, 0, 4] [2000000000, 2000000001] (fun N s' => ∃ i : Int, s' = St.mk [(0, T.plain (V.sl 2000000000 0 n)), (1, T.plain (V.clo (.func 51) [] [.ptr 2000000001 0])), (4, T.plain (i64 0)), (7, T.plain (i64 (n : Int))), (8, T.plain (i64 i))] [(2000000000, Blk.mk (rowsI R) true 0 (some (79, 3))), (2000000001, Blk.mk [u16 id] true 1 none)] ∧ 0 ≤ i ∧ i ≤ n ∧ i.toNat ≤ fstP (pId id) R ∧ (N : Int) = n - i) n (s0 := St.mk [(0, T.plain (V.sl 2000000000 0 n)), (1, T.plain (V.clo (.func 51) [] [.ptr 2000000001 0])), (4, T.plain (i64 0)), (7, T.plain (i64 (n : Int))), (8, T.plain (i64 0))] [(2000000000, Blk.mk (rowsI R) true 0 (some (79, 3))), (2000000001, Blk.mk [u16 id] true 1 none)]) (by kernel_rfl) ?_ ?_
  · exact ⟨0, rfl, by omega, by omega, by simp, by omega⟩
  rintro N s' ⟨i, rfl, hi, hi2, hf, hN⟩
  have hfl := fstP_le (pId id) R
  by_cases hlt : i < n
  · obtain ⟨a, ha⟩ : ∃ a, R[i.toNat]? = some a := ⟨_, List.getElem?_eq_getElem (by omega)⟩
    have wr := rowsI_at ha
    obtain ⟨f1, f2⟩ := fstP_at (pId id) ha hf
    have c := con_pid a id
    cases hok : pId id a with
    | false =>
      have c : Con _ _ _ _ _ (vb (pId id a)) := c
      rw [hok] at c
      have f1 := f1 hok
      refine AWP.seq ?_
      refine AWP.regionT tcok hmix [] [0, 1, 4, 7, 8, 9] [2000000000, 2000000001] (os := []) (s' := St.mk [(0, tp (V.sl 2000000000 0 n)), (1, tp (V.clo (Fn.func 51) [] [V.ptr 2000000001 0])), (4, tp (i64 0)), (7, tp (i64 (↑n : Int))), (8, tp (i64 i)), (9, tp (vb (decide (i < (↑n : Int)))))] [(2000000000, Blk.mk (rowsI R) true 0 (some (79, 3))), (2000000001, Blk.mk [u16 id] true 1 none)]) (by kernel_rfl) trivial ?_
      refine AWP.seq ?_
      refine AWP.cond (b := decide (i < (↑n : Int))) (by kernel_rfl) (fun hq0 => ?_) (fun hq0 => ?_)
      · simp only [decide_eq_true_eq] at hq0
        refine AWP.skip ?_
        refine AWP.seq ?_
        refine AWP.block ?_
        refine AWP.seq ?_
        refine AWP.regionT tcok hmix [] [0, 1, 4, 5, 7, 8] [2000000000, 2000000001] (os := []) (s' := St.mk [(0, tp (V.sl 2000000000 0 n)), (1, tp (V.clo (Fn.func 51) [] [V.ptr 2000000001 0])), (4, tp (i64 0)), (5, tp (i64 i)), (7, tp (i64 (↑n : Int))), (8, tp (i64 i))] [(2000000000, Blk.mk (rowsI R) true 0 (some (79, 3))), (2000000001, Blk.mk [u16 id] true 1 none)]) (by kernel_rfl) trivial ?_
        refine xe1 (os := [(0 : Int) ≤ i ∧ i < (↑n : Int), V.ptr 2000000000 (0 + Int.toNat i * 3) = V.ptr 2000000000 (0 + Int.toNat i * 3), (0 : Nat) + Int.toNat i * (3 : Nat) + (3 : Nat) ≤ List.length (rowsI R), V.agg true (List.take 3 (List.drop (0 + Int.toNat i * 3) (rowsI R))) = V.agg true [u32 a.t, u16 a.id, V.vs (u8s a.c) a.k], Con Try.prog 51 [(2000000001, Blk.mk [u16 id] true 1 none)] [V.agg true [u32 a.t, u16 a.id, V.vs (u8s a.c) a.k], V.ptr 2000000001 0] [(2000000001, Blk.mk [u16 id] true 1 none)] (vb false)]) [(3, ⟨some (V.ptr 2000000000 (0 + Int.toNat i * 3)), none⟩), (4, ⟨some (V.agg true (It.row a)), none⟩), (5, ⟨some (V.tup [V.sl 2000000001 2000000001 0]), some ⟨vb false, [(2000000001, Blk.mk [u16 id] true 1 none)], []⟩⟩)] [0, 1, 4, 5, 7, 8, 16] [2000000000, 2000000001] (by kernel_rfl) ⟨(by omega), rfl, (by first | omega | (simp [len_u8s]; done) | (simp [len_u8s]; omega)), (congrArg (V.agg true) (wr )), (c ), trivial⟩ ?_
        refine AWP.condF (by kernel_rfl) ?_
        refine AWP.skip ?_
        refine AWP.region tcok hmix [(0, ⟨some (i64 (i + 1)), none⟩)] (os := [i64 (IntKind.wrap IntKind.i64 (i + 1)) = i64 (i + 1)]) (sf := St.mk [(0, tp (V.sl 2000000000 0 n)), (1, tp (V.clo (Fn.func 51) [] [V.ptr 2000000001 0])), (4, tp (i64 0)), (5, tp (i64 i)), (7, tp (i64 (↑n : Int))), (8, tp (i64 (i + 1))), (16, tp (vb false)), (18, tp (i64 (i + 1)))] [(2000000000, Blk.mk (rowsI R) true 0 (some (79, 3))), (2000000001, Blk.mk [u16 id] true 1 none)]) (by kernel_rfl) ⟨(wr_i64 (by omega) (by omega)), trivial⟩ ?_
        refine ⟨St.mk [(0, tp (V.sl 2000000000 0 n)), (1, tp (V.clo (Fn.func 51) [] [V.ptr 2000000001 0])), (4, tp (i64 0)), (7, tp (i64 (↑n : Int))), (8, tp (i64 (i + 1)))] [(2000000000, Blk.mk (rowsI R) true 0 (some (79, 3))), (2000000001, Blk.mk [u16 id] true 1 none)], by kernel_rfl, ?_⟩
        first | (exact ⟨(n - (i + 1)).toNat, (by omega), i + 1, rfl, (by omega), (by omega), (by omega), (by omega)⟩) | (exfalso; omega)
      simp only [decide_eq_false_iff_not] at hq0
      (exfalso; omega)
    | true =>
      have c : Con _ _ _ _ _ (vb (pId id a)) := c
      rw [hok] at c
      have f2 := f2 hok
      rw [if_pos (by omega), f2, Int.toNat_of_nonneg hi] at hx
      subst hx
      refine AWP.seq ?_
      refine AWP.regionT tcok hmix [] [0, 1, 4, 7, 8, 9] [2000000000, 2000000001] (os := []) (s' := St.mk [(0, tp (V.sl 2000000000 0 n)), (1, tp (V.clo (Fn.func 51) [] [V.ptr 2000000001 0])), (4, tp (i64 0)), (7, tp (i64 (↑n : Int))), (8, tp (i64 i)), (9, tp (vb (decide (i < (↑n : Int)))))] [(2000000000, Blk.mk (rowsI R) true 0 (some (79, 3))), (2000000001, Blk.mk [u16 id] true 1 none)]) (by kernel_rfl) trivial ?_
      refine AWP.seq ?_
      refine AWP.cond (b := decide (i < (↑n : Int))) (by kernel_rfl) (fun hq2 => ?_) (fun hq2 => ?_)
      · simp only [decide_eq_true_eq] at hq2
        refine AWP.skip ?_
        refine AWP.seq ?_
        refine AWP.block ?_
        refine AWP.seq ?_
        refine AWP.regionT tcok hmix [] [0, 1, 4, 5, 7, 8] [2000000000, 2000000001] (os := []) (s' := St.mk [(0, tp (V.sl 2000000000 0 n)), (1, tp (V.clo (Fn.func 51) [] [V.ptr 2000000001 0])), (4, tp (i64 0)), (5, tp (i64 i)), (7, tp (i64 (↑n : Int))), (8, tp (i64 i))] [(2000000000, Blk.mk (rowsI R) true 0 (some (79, 3))), (2000000001, Blk.mk [u16 id] true 1 none)]) (by kernel_rfl) trivial ?_
        refine xe1 (os := [(0 : Int) ≤ i ∧ i < (↑n : Int), V.ptr 2000000000 (0 + Int.toNat i * 3) = V.ptr 2000000000 (0 + Int.toNat i * 3), (0 : Nat) + Int.toNat i * (3 : Nat) + (3 : Nat) ≤ List.length (rowsI R), V.agg true (List.take 3 (List.drop (0 + Int.toNat i * 3) (rowsI R))) = V.agg true [u32 a.t, u16 a.id, V.vs (u8s a.c) a.k], Con Try.prog 51 [(2000000001, Blk.mk [u16 id] true 1 none)] [V.agg true [u32 a.t, u16 a.id, V.vs (u8s a.c) a.k], V.ptr 2000000001 0] [(2000000001, Blk.mk [u16 id] true 1 none)] (vb true)]) [(3, ⟨some (V.ptr 2000000000 (0 + Int.toNat i * 3)), none⟩), (4, ⟨some (V.agg true (It.row a)), none⟩), (5, ⟨some (V.tup [V.sl 2000000001 2000000001 0]), some ⟨vb true, [(2000000001, Blk.mk [u16 id] true 1 none)], []⟩⟩)] [0, 1, 4, 5, 7, 8, 16] [2000000000, 2000000001] (by kernel_rfl) ⟨(by omega), rfl, (by first | omega | (simp [len_u8s]; done) | (simp [len_u8s]; omega)), (congrArg (V.agg true) (wr )), (c ), trivial⟩ ?_
        refine AWP.condT (by kernel_rfl) ?_
        refine xe0 [0, 1, 4, 7, 8] [2000000000, 2000000001] (by kernel_rfl) ?_
        refine AWP.ret ?_
        refine ⟨Or.inr rfl, Eq.trans (b := some ([(2000000000, Blk.mk (rowsI R) true 0 (some (79, 3))), (2000000001, Blk.mk [u16 id] true 1 none)], i64 i)) (by kernel_rfl) ?_⟩
        first | rfl | (exfalso; omega)
      simp only [decide_eq_false_iff_not] at hq2
      (exfalso; omega)
  have hin : i = n := by omega
  subst hin
  rw [if_neg (by omega)] at hx
  subst hx
  refine AWP.seq ?_
  refine AWP.regionT tcok hmix [] [0, 1, 4, 7, 8, 9] [2000000000, 2000000001] (os := []) (s' := St.mk [(0, tp (V.sl 2000000000 0 n)), (1, tp (V.clo (Fn.func 51) [] [V.ptr 2000000001 0])), (4, tp (i64 0)), (7, tp (i64 (↑n : Int))), (8, tp (i64 (↑n : Int))), (9, tp (vb (decide ((↑n : Int) < (↑n : Int)))))] [(2000000000, Blk.mk (rowsI R) true 0 (some (79, 3))), (2000000001, Blk.mk [u16 id] true 1 none)]) (by kernel_rfl) trivial ?_
  refine AWP.seq ?_
  refine AWP.cond (b := decide ((↑n : Int) < (↑n : Int))) (by kernel_rfl) (fun hq4 => ?_) (fun hq4 => ?_)
  · simp only [decide_eq_true_eq] at hq4
    (exfalso; omega)
  simp only [decide_eq_false_iff_not] at hq4
  refine AWP.exit ?_
  refine AWP.seq ?_
  refine AWP.regionT tcok hmix [] [4] [2000000000, 2000000001] (os := []) (s' := St.mk [(4, tp (i64 (-1)))] [(2000000000, Blk.mk (rowsI R) true 0 (some (79, 3))), (2000000001, Blk.mk [u16 id] true 1 none)]) (by kernel_rfl) trivial ?_
  refine AWP.ret ?_
  refine ⟨Or.inr rfl, Eq.trans (b := some ([(2000000000, Blk.mk (rowsI R) true 0 (some (79, 3))), (2000000001, Blk.mk [u16 id] true 1 none)], i64 (-1))) (by kernel_rfl) ?_⟩
  first | rfl | (exfalso; omega)
theorem con_delI (id : Int) (R : List It) (n : Nat) (hn : R.length = n) (hm : n ≤ 1000) (K : List It) (hK : keepP (pId id) R = K) (k : Nat) (hk : K.length = k) : Con Try.prog 50 [(1000000000, ⟨rowsI R, true, 0, some (79, 3)⟩), (2000000001, ⟨[u16 id], true, 1, none⟩)] [.sl 1000000000 0 n, .clo (.func 51) [] [.ptr 2000000001 0]] [(1000000000, ⟨rowsI K, true, 0, some (79, 3)⟩), (2000000001, ⟨[u16 id], true, 1, none⟩)] (.sl 1000000000 0 k) := by
  have hrl := rowsI_len R
  have hfl := fstP_le (pId id) R
  by_cases hf : fstP (pId id) R < n
  · have c := con_idxI id R n hn hm _ (by rw [if_pos hf])
    obtain ⟨a, ha⟩ : ∃ a, R[fstP (pId id) R]? = some a := ⟨_, List.getElem?_eq_getElem (by omega)⟩
    have hno : pId id a = true := by
      cases h : pId id a with
      | true => rfl
      | false => have := (fstP_at (pId id) ha (Nat.le_refl _)).1 h; omega
    have d0 : DelI (pId id) R R (fstP (pId id) R) (fstP (pId id) R + 1) := by
      refine ⟨rfl, by omega, ?_, rfl⟩
      have := fstP_take (pId id) R _ (Nat.le_refl _)
      unfold keepP at this ⊢
      rw [List.take_add_one, ha, List.filter_append, this]
      simp only [Option.toList_some, List.filter_cons, hno, Bool.not_true, Bool.false_eq_true, if_false, List.filter_nil, List.append_nil]
    refine Con.of (C := ⟨Try.prog, tc, Try.f50.ntmps⟩) [1000000000, 2000000001] tcok Try.func50 rfl rfl (by kernel_rfl) (by kernel_rfl) ?_
    refine AWP.seq ?_
    refine AWP.regionT tcok hmix [] [0, 1, 4] [4, 1000000000, 2000000001] (os := []) (s' := St.mk [(0, tp (V.sl 1000000000 0 n)), (1, tp (V.clo (Fn.func 51) [] [V.ptr 2000000001 0])), (4, tp (V.sl 4 0 0))] [(4, Blk.mk [] true 0 (some (79, 3))), (1000000000, Blk.mk (rowsI R) true 0 (some (79, 3))), (2000000001, Blk.mk [u16 id] true 1 none)]) (by kernel_rfl) trivial ?_
    refine xe1 (os := [Con Try.prog 59 [(2000000000, Blk.mk (rowsI R) true 0 (some (79, 3))), (2000000001, Blk.mk [u16 id] true 1 none)] [V.sl 2000000000 0 n, V.clo (Fn.func 51) [] [V.ptr 2000000001 0]] [(2000000000, Blk.mk (rowsI R) true 0 (some (79, 3))), (2000000001, Blk.mk [u16 id] true 1 none)] (i64 (↑(fstP (pId id) R) : Int))]) [(2, ⟨some (V.tup [V.sl 2000000000 1000000000 0, V.sl 2000000001 2000000001 0]), some ⟨i64 (↑(fstP (pId id) R) : Int), [(2000000000, Blk.mk (rowsI R) true 0 (some (79, 3))), (2000000001, Blk.mk [u16 id] true 1 none)], []⟩⟩)] [0, 1, 4, 5] [1000000000, 2000000001, 4] (by kernel_rfl) ⟨(c ), trivial⟩ ?_
    refine AWP.seq ?_
    refine xe0 [0, 1, 4, 5, 12] [1000000000, 2000000001, 4] (by kernel_rfl) ?_
    refine AWP.condF (by kernel_rfl) ?_
    refine AWP.skip ?_
    refine AWP.seq ?_
    refine xe1 (os := [i64 (IntKind.wrap IntKind.i64 ((↑(fstP (pId id) R) : Int) + 1)) = i64 ((↑(fstP (pId id) R) : Int) + 1)]) [(1, ⟨some (i64 ((↑(fstP (pId id) R) : Int) + 1)), none⟩)] [0, 1, 4, 5, 6] [1000000000, 2000000001, 4] (by kernel_rfl) ⟨(wr_i64 (by omega) (by omega)), trivial⟩ ?_
    refine AWP.block ?_
    refine AWP.loopI [6, 0, 1, 5, 4] [4, 1000000000, 2000000001] (fun N s' => ∃ (i j : Int) (S : List It), s' = St.mk [(0, T.plain (V.sl 1000000000 0 n)), (1, T.plain (V.clo (.func 51) [] [.ptr 2000000001 0])), (4, T.plain (V.sl 4 0 0)), (5, T.plain (i64 i)), (6, T.plain (i64 j))] [(4, Blk.mk [] true 0 (some (79, 3))), (1000000000, Blk.mk (rowsI S) true 0 (some (79, 3))), (2000000001, Blk.mk [u16 id] true 1 none)] ∧ DelI (pId id) R S i.toNat j.toNat ∧ 0 ≤ i ∧ 0 ≤ j ∧ j ≤ n ∧ (N : Int) = n - j) (n - (fstP (pId id) R + 1)) (s0 := St.mk [(0, T.plain (V.sl 1000000000 0 n)), (1, T.plain (V.clo (.func 51) [] [.ptr 2000000001 0])), (4, T.plain (V.sl 4 0 0)), (5, T.plain (i64 ((fstP (pId id) R : Nat) : Int))), (6, T.plain (i64 (((fstP (pId id) R : Nat) : Int) + 1)))] [(4, Blk.mk [] true 0 (some (79, 3))), (1000000000, Blk.mk (rowsI R) true 0 (some (79, 3))), (2000000001, Blk.mk [u16 id] true 1 none)]) (by kernel_rfl) ?_ ?_
    · exact ⟨((fstP (pId id) R : Nat) : Int), ((fstP (pId id) R : Nat) : Int) + 1, R, rfl, by rw [Int.toNat_natCast, show (((fstP (pId id) R : Nat) : Int) + 1).toNat = fstP (pId id) R + 1 by omega]; exact d0, by omega, by omega, by omega, by omega⟩
    rintro N s' ⟨i, j, S, rfl, hD, hi, hj, hj2, hN⟩
    have hSl := hD.len
    have hle := hD.le
    have hsl := rowsI_len S
    by_cases hlt : j < n
    · obtain ⟨b, hb⟩ : ∃ b, S[j.toNat]? = some b := ⟨_, List.getElem?_eq_getElem (by omega)⟩
      have wr := rowsI_at hb
      have cb : Con _ _ _ _ _ (vb (pId id b)) := con_pid b id
      cases hok : pId id b with
      | false =>
        rw [hok] at cb
        have hD' := hD.yes hb hok (by omega)
        have hpt := rowsI_put (R := S) (i := i.toNat) (by omega) b false
        have e1 : (i + 1).toNat = i.toNat + 1 := by omega
        have e2 : (j + 1).toNat = j.toNat + 1 := by omega
        rw [← e1, ← e2] at hD'
        refine AWP.seq ?_
        refine AWP.seq ?_
        refine AWP.regionT tcok hmix [] [0, 1, 4, 5, 6, 19] [1000000000, 2000000001, 4] (os := []) (s' := St.mk [(0, tp (V.sl 1000000000 0 n)), (1, tp (V.clo (Fn.func 51) [] [V.ptr 2000000001 0])), (4, tp (V.sl 4 0 0)), (5, tp (i64 i)), (6, tp (i64 j)), (19, tp (vb (decide (j < (↑n : Int)))))] [(4, Blk.mk [] true 0 (some (79, 3))), (1000000000, Blk.mk (rowsI S) true 0 (some (79, 3))), (2000000001, Blk.mk [u16 id] true 1 none)]) (by kernel_rfl) trivial ?_
        refine AWP.cond (b := decide (j < (↑n : Int))) (by kernel_rfl) (fun hq6 => ?_) (fun hq6 => ?_)
        · simp only [decide_eq_true_eq] at hq6
          refine AWP.skip ?_
          refine AWP.seq ?_
          refine AWP.block ?_
          refine AWP.seq ?_
          refine AWP.regionT tcok hmix [(2, ⟨some (V.ptr 1000000000 (0 + Int.toNat j * 3)), none⟩), (3, ⟨some (V.agg true (It.row b)), none⟩)] [0, 1, 4, 5, 6, 7] [1000000000, 2000000001, 4, 7] (os := [(0 : Int) ≤ j ∧ j < (↑n : Int), V.ptr 1000000000 (0 + Int.toNat j * 3) = V.ptr 1000000000 (0 + Int.toNat j * 3), (0 : Nat) + Int.toNat j * (3 : Nat) + (3 : Nat) ≤ List.length (rowsI S), V.agg true (List.take 3 (List.drop (0 + Int.toNat j * 3) (rowsI S))) = V.agg true [u32 b.t, u16 b.id, V.vs (u8s b.c) b.k]]) (s' := St.mk [(0, tp (V.sl 1000000000 0 n)), (1, tp (V.clo (Fn.func 51) [] [V.ptr 2000000001 0])), (4, tp (V.sl 4 0 0)), (5, tp (i64 i)), (6, tp (i64 j)), (7, tp (V.ptr 7 0))] [(4, Blk.mk [] true 0 (some (79, 3))), (7, Blk.mk [u32 b.t, u16 b.id, V.vs (u8s b.c) b.k] true 3 none), (1000000000, Blk.mk (rowsI S) true 0 (some (79, 3))), (2000000001, Blk.mk [u16 id] true 1 none)]) (by kernel_rfl) ⟨(by omega), rfl, (by first | omega | (simp [len_u8s]; done) | (simp [len_u8s]; omega)), (congrArg (V.agg true) (wr )), trivial⟩ ?_
          refine xe1 (os := [Con Try.prog 51 [(2000000001, Blk.mk [u16 id] true 1 none)] [V.agg true [u32 b.t, u16 b.id, V.vs (u8s b.c) b.k], V.ptr 2000000001 0] [(2000000001, Blk.mk [u16 id] true 1 none)] (vb false)]) [(2, ⟨some (V.tup [V.sl 2000000001 2000000001 0]), some ⟨vb false, [(2000000001, Blk.mk [u16 id] true 1 none)], []⟩⟩)] [0, 1, 4, 5, 6, 7, 29] [1000000000, 2000000001, 4, 7] (by kernel_rfl) ⟨(cb ), trivial⟩ ?_
          refine AWP.condT (by kernel_rfl) ?_
          refine xe1 (os := [(0 : Int) ≤ i ∧ i < (↑n : Int), V.ptr 1000000000 (0 + Int.toNat i * 3) = V.ptr 1000000000 (0 + Int.toNat i * 3), (3 : Nat) = (3 : Nat), (0 : Nat) + Int.toNat i * (3 : Nat) + (3 : Nat) ≤ List.length (rowsI S)]) [(3, ⟨some (V.ptr 1000000000 (0 + Int.toNat i * 3)), none⟩), (4, ⟨some V.top, none⟩)] [0, 1, 4, 5, 6] [1000000000, 2000000001, 4] (by kernel_rfl) ⟨(by omega), rfl, (by omega), (by first | omega | (simp [len_u8s]; done) | (simp [len_u8s]; omega)), trivial⟩ ?_
          refine AWP.region tcok hmix [(1, ⟨some (i64 (i + 1)), none⟩)] (os := [i64 (IntKind.wrap IntKind.i64 (i + 1)) = i64 (i + 1)]) (sf := St.mk [(0, tp (V.sl 1000000000 0 n)), (1, tp (V.clo (Fn.func 51) [] [V.ptr 2000000001 0])), (4, tp (V.sl 4 0 0)), (5, tp (i64 (i + 1))), (6, tp (i64 j)), (34, tp (i64 i)), (35, tp (i64 (i + 1)))] [(4, Blk.mk [] true 0 (some (79, 3))), (1000000000, Blk.mk (putC (3 == 1) (rowsI S) (0 + Int.toNat i * 3) [u32 b.t, u16 b.id, V.vs (u8s b.c) b.k]) true 0 (some (79, 3))), (2000000001, Blk.mk [u16 id] true 1 none)]) (by kernel_rfl) ⟨(wr_i64 (by omega) (by omega)), trivial⟩ ?_
          refine AWP.keep' [0, 1, 4, 5, 6] [1000000000, 2000000001, 4] (sf := St.mk [(0, tp (V.sl 1000000000 0 n)), (1, tp (V.clo (Fn.func 51) [] [V.ptr 2000000001 0])), (4, tp (V.sl 4 0 0)), (5, tp (i64 (i + 1))), (6, tp (i64 j))] [(4, Blk.mk [] true 0 (some (79, 3))), (1000000000, Blk.mk (putC (3 == 1) (rowsI S) (0 + Int.toNat i * 3) [u32 b.t, u16 b.id, V.vs (u8s b.c) b.k]) true 0 (some (79, 3))), (2000000001, Blk.mk [u16 id] true 1 none)]) (by kernel_rfl) ?_
          refine AWP.region tcok hmix [(1, ⟨some (i64 (j + 1)), none⟩)] (os := [i64 (IntKind.wrap IntKind.i64 (j + 1)) = i64 (j + 1)]) (sf := St.mk [(0, tp (V.sl 1000000000 0 n)), (1, tp (V.clo (Fn.func 51) [] [V.ptr 2000000001 0])), (4, tp (V.sl 4 0 0)), (5, tp (i64 (i + 1))), (6, tp (i64 (j + 1))), (20, tp (i64 j)), (21, tp (i64 (j + 1)))] [(4, Blk.mk [] true 0 (some (79, 3))), (1000000000, Blk.mk (putC (3 == 1) (rowsI S) (0 + Int.toNat i * 3) [u32 b.t, u16 b.id, V.vs (u8s b.c) b.k]) true 0 (some (79, 3))), (2000000001, Blk.mk [u16 id] true 1 none)]) (by kernel_rfl) ⟨(wr_i64 (by omega) (by omega)), trivial⟩ ?_
          refine ⟨St.mk [(0, tp (V.sl 1000000000 0 n)), (1, tp (V.clo (Fn.func 51) [] [V.ptr 2000000001 0])), (4, tp (V.sl 4 0 0)), (5, tp (i64 (i + 1))), (6, tp (i64 (j + 1)))] [(4, Blk.mk [] true 0 (some (79, 3))), (1000000000, Blk.mk (putC (3 == 1) (rowsI S) (0 + Int.toNat i * 3) [u32 b.t, u16 b.id, V.vs (u8s b.c) b.k]) true 0 (some (79, 3))), (2000000001, Blk.mk [u16 id] true 1 none)], by kernel_rfl, ?_⟩
          first | (exact ⟨(n - (j + 1)).toNat, (by omega), i + 1, j + 1, S.set i.toNat b, (by rw [← hpt]; rfl), hD', (by omega), (by omega), (by omega), (by omega)⟩) | (exfalso; omega)
        simp only [decide_eq_false_iff_not] at hq6
        (exfalso; omega)
      | true =>
        rw [hok] at cb
        have hD' := hD.no hb hok
        have e2 : (j + 1).toNat = j.toNat + 1 := by omega
        rw [← e2] at hD'
        refine AWP.seq ?_
        refine AWP.seq ?_
        refine AWP.regionT tcok hmix [] [0, 1, 4, 5, 6, 19] [1000000000, 2000000001, 4] (os := []) (s' := St.mk [(0, tp (V.sl 1000000000 0 n)), (1, tp (V.clo (Fn.func 51) [] [V.ptr 2000000001 0])), (4, tp (V.sl 4 0 0)), (5, tp (i64 i)), (6, tp (i64 j)), (19, tp (vb (decide (j < (↑n : Int)))))] [(4, Blk.mk [] true 0 (some (79, 3))), (1000000000, Blk.mk (rowsI S) true 0 (some (79, 3))), (2000000001, Blk.mk [u16 id] true 1 none)]) (by kernel_rfl) trivial ?_
        refine AWP.cond (b := decide (j < (↑n : Int))) (by kernel_rfl) (fun hq8 => ?_) (fun hq8 => ?_)
        · simp only [decide_eq_true_eq] at hq8
          refine AWP.skip ?_
          refine AWP.seq ?_
          refine AWP.block ?_
          refine AWP.seq ?_
          refine AWP.regionT tcok hmix [(2, ⟨some (V.ptr 1000000000 (0 + Int.toNat j * 3)), none⟩), (3, ⟨some (V.agg true (It.row b)), none⟩)] [0, 1, 4, 5, 6, 7] [1000000000, 2000000001, 4, 7] (os := [(0 : Int) ≤ j ∧ j < (↑n : Int), V.ptr 1000000000 (0 + Int.toNat j * 3) = V.ptr 1000000000 (0 + Int.toNat j * 3), (0 : Nat) + Int.toNat j * (3 : Nat) + (3 : Nat) ≤ List.length (rowsI S), V.agg true (List.take 3 (List.drop (0 + Int.toNat j * 3) (rowsI S))) = V.agg true [u32 b.t, u16 b.id, V.vs (u8s b.c) b.k]]) (s' := St.mk [(0, tp (V.sl 1000000000 0 n)), (1, tp (V.clo (Fn.func 51) [] [V.ptr 2000000001 0])), (4, tp (V.sl 4 0 0)), (5, tp (i64 i)), (6, tp (i64 j)), (7, tp (V.ptr 7 0))] [(4, Blk.mk [] true 0 (some (79, 3))), (7, Blk.mk [u32 b.t, u16 b.id, V.vs (u8s b.c) b.k] true 3 none), (1000000000, Blk.mk (rowsI S) true 0 (some (79, 3))), (2000000001, Blk.mk [u16 id] true 1 none)]) (by kernel_rfl) ⟨(by omega), rfl, (by first | omega | (simp [len_u8s]; done) | (simp [len_u8s]; omega)), (congrArg (V.agg true) (wr )), trivial⟩ ?_
          refine xe1 (os := [Con Try.prog 51 [(2000000001, Blk.mk [u16 id] true 1 none)] [V.agg true [u32 b.t, u16 b.id, V.vs (u8s b.c) b.k], V.ptr 2000000001 0] [(2000000001, Blk.mk [u16 id] true 1 none)] (vb true)]) [(2, ⟨some (V.tup [V.sl 2000000001 2000000001 0]), some ⟨vb true, [(2000000001, Blk.mk [u16 id] true 1 none)], []⟩⟩)] [0, 1, 4, 5, 6, 7, 29] [1000000000, 2000000001, 4, 7] (by kernel_rfl) ⟨(cb ), trivial⟩ ?_
          refine AWP.condF (by kernel_rfl) ?_
          refine AWP.skip ?_
          refine AWP.region tcok hmix [(1, ⟨some (i64 (j + 1)), none⟩)] (os := [i64 (IntKind.wrap IntKind.i64 (j + 1)) = i64 (j + 1)]) (sf := St.mk [(0, tp (V.sl 1000000000 0 n)), (1, tp (V.clo (Fn.func 51) [] [V.ptr 2000000001 0])), (4, tp (V.sl 4 0 0)), (5, tp (i64 i)), (6, tp (i64 (j + 1))), (7, tp (V.ptr 7 0)), (20, tp (i64 j)), (21, tp (i64 (j + 1))), (29, tp (vb false))] [(4, Blk.mk [] true 0 (some (79, 3))), (7, Blk.mk [u32 b.t, u16 b.id, V.vs (u8s b.c) b.k] true 3 none), (1000000000, Blk.mk (rowsI S) true 0 (some (79, 3))), (2000000001, Blk.mk [u16 id] true 1 none)]) (by kernel_rfl) ⟨(wr_i64 (by omega) (by omega)), trivial⟩ ?_
          refine ⟨St.mk [(0, tp (V.sl 1000000000 0 n)), (1, tp (V.clo (Fn.func 51) [] [V.ptr 2000000001 0])), (4, tp (V.sl 4 0 0)), (5, tp (i64 i)), (6, tp (i64 (j + 1)))] [(4, Blk.mk [] true 0 (some (79, 3))), (1000000000, Blk.mk (rowsI S) true 0 (some (79, 3))), (2000000001, Blk.mk [u16 id] true 1 none)], by kernel_rfl, ?_⟩
          first | (exact ⟨(n - (j + 1)).toNat, (by omega), i, j + 1, S, rfl, hD', (by omega), (by omega), (by omega), (by omega)⟩) | (exfalso; omega)
        simp only [decide_eq_false_iff_not] at hq8
        (exfalso; omega)
    have hjn : j = n := by omega
    subst hjn
    have hkp := hD.kept
    rw [Int.toNat_natCast, ← hn, List.take_length, hK] at hkp
    have hik : i.toNat = k := by rw [← hk, ← hkp, List.length_take]; omega
    have hik2 : i = (k : Int) := by omega
    subst hik2
    rw [Int.toNat_natCast] at hkp
    refine AWP.seq ?_
    refine AWP.seq ?_
    refine AWP.regionT tcok hmix [] [0, 1, 4, 5, 6, 19] [1000000000, 2000000001, 4] (os := []) (s' := St.mk [(0, tp (V.sl 1000000000 0 n)), (1, tp (V.clo (Fn.func 51) [] [V.ptr 2000000001 0])), (4, tp (V.sl 4 0 0)), (5, tp (i64 (↑k : Int))), (6, tp (i64 (↑n : Int))), (19, tp (vb (decide ((↑n : Int) < (↑n : Int)))))] [(4, Blk.mk [] true 0 (some (79, 3))), (1000000000, Blk.mk (rowsI S) true 0 (some (79, 3))), (2000000001, Blk.mk [u16 id] true 1 none)]) (by kernel_rfl) trivial ?_
    refine AWP.cond (b := decide ((↑n : Int) < (↑n : Int))) (by kernel_rfl) (fun hq10 => ?_) (fun hq10 => ?_)
    · simp only [decide_eq_true_eq] at hq10
      (exfalso; omega)
    simp only [decide_eq_false_iff_not] at hq10
    refine AWP.exit ?_
    refine AWP.seq ?_
    refine AWP.regionT tcok hmix [(2, ⟨some (V.sl 1000000000 (0 + Int.toNat (↑k : Int) * 3) (Int.toNat (↑n : Int) - Int.toNat (↑k : Int))), none⟩), (3, ⟨some (V.agg true (putAt (Blk.mk (rowsI S) true 0 (some (79, 3))).cells (0 + Int.toNat (↑k : Int) * 3) (zeros ti_79.zero ((Int.toNat (↑n : Int) - Int.toNat (↑k : Int)) * ti_79.size)))), none⟩)] [0, 4, 5] [1000000000, 2000000001, 4] (os := [(0 : Int) ≤ (↑k : Int) ∧ (↑k : Int) < (↑n : Int) ∧ (↑n : Int) ≤ (↑n : Int), V.sl 1000000000 (0 + Int.toNat (↑k : Int) * 3) (Int.toNat (↑n : Int) - Int.toNat (↑k : Int)) = V.sl 1000000000 (0 + Int.toNat (↑k : Int) * 3) (Int.toNat (↑n : Int) - Int.toNat (↑k : Int)), (0 : Nat) + Int.toNat (↑k : Int) * (3 : Nat) + (Int.toNat (↑n : Int) - Int.toNat (↑k : Int)) * (3 : Nat) ≤ List.length (rowsI S), putAt (rowsI S) ((0 : Nat) + Int.toNat (↑k : Int) * (3 : Nat)) (zeros [Value.int IntKind.u32 (0 : Int), Value.int IntKind.u16 (0 : Int), Value.slice none (0 : Nat) (0 : Nat)] ((Int.toNat (↑n : Int) - Int.toNat (↑k : Int)) * (3 : Nat))) = putAt (rowsI S) ((0 : Nat) + Int.toNat (↑k : Int) * (3 : Nat)) (zeros [Value.int IntKind.u32 (0 : Int), Value.int IntKind.u16 (0 : Int), Value.slice none (0 : Nat) (0 : Nat)] ((Int.toNat (↑n : Int) - Int.toNat (↑k : Int)) * (3 : Nat)))]) (s' := St.mk [(0, tp (V.sl 1000000000 0 n)), (4, tp (V.sl 4 0 0)), (5, tp (i64 (↑k : Int)))] [(4, Blk.mk [] true 0 (some (79, 3))), (1000000000, Blk.mk (putAt (rowsI S) (0 + Int.toNat (↑k : Int) * 3) (zeros [Value.int IntKind.u32 0, Value.int IntKind.u16 0, Value.slice none 0 0] ((Int.toNat (↑n : Int) - Int.toNat (↑k : Int)) * 3))) true 0 (some (79, 3))), (2000000001, Blk.mk [u16 id] true 1 none)]) (by kernel_rfl) ⟨(by omega), rfl, (by first | omega | (simp [len_u8s]; done) | (simp [len_u8s]; omega)), rfl, trivial⟩ ?_
    refine AWP.seq ?_
    refine AWP.trunc 1000000000 k (cs' := rowsI K) (s' := St.mk [(0, T.plain (V.sl 1000000000 0 n)), (4, T.plain (V.sl 4 0 0)), (5, T.plain (i64 ((k : Nat) : Int)))] [(4, Blk.mk [] true 0 (some (79, 3))), (1000000000, Blk.mk (rowsI K) true 0 (some (79, 3))), (2000000001, Blk.mk [u16 id] true 1 none)]) rfl (by omega) ?_ ?_ rfl ?_
    · rw [Nat.zero_add, hik]
      exact putAt_ge (by omega)
    · rw [Nat.zero_add, hik, putAt_take (by omega), rowsI_take, hkp]
    refine AWP.keep' [0, 5] [1000000000, 2000000001] (sf := St.mk [(0, tp (V.sl 1000000000 0 n)), (5, tp (i64 (↑k : Int)))] [(1000000000, Blk.mk (rowsI K) true 0 (some (79, 3))), (2000000001, Blk.mk [u16 id] true 1 none)]) (by kernel_rfl) ?_
    refine AWP.regionT tcok hmix [(2, ⟨some (V.sl 1000000000 0 (Int.toNat (↑k : Int))), none⟩)] [4] [1000000000, 2000000001] (os := [(0 : Int) ≤ (↑k : Int) ∧ (↑k : Int) ≤ (↑n : Int), V.sl 1000000000 0 (Int.toNat (↑k : Int)) = V.sl 1000000000 0 (Int.toNat (↑k : Int))]) (s' := St.mk [(4, tp (V.sl 1000000000 0 (Int.toNat (↑k : Int))))] [(1000000000, Blk.mk (rowsI K) true 0 (some (79, 3))), (2000000001, Blk.mk [u16 id] true 1 none)]) (by kernel_rfl) ⟨(by omega), rfl, trivial⟩ ?_
    refine AWP.ret ?_
    refine ⟨Or.inr rfl, Eq.trans (b := some ([(1000000000, Blk.mk (rowsI K) true 0 (some (79, 3))), (2000000001, Blk.mk [u16 id] true 1 none)], V.sl 1000000000 0 (Int.toNat (↑k : Int)))) (by kernel_rfl) ?_⟩
    first | rfl | (exfalso; omega)
  · have c := con_idxI id R n hn hm _ (by rw [if_neg hf])
    have := fstP_all (pId id) (R := R) (by omega)
    rw [this] at hK
    subst hK
    obtain rfl : n = k := by omega
    refine Con.of (C := ⟨Try.prog, tc, Try.f50.ntmps⟩) [1000000000, 2000000001] tcok Try.func50 rfl rfl (by kernel_rfl) (by kernel_rfl) ?_
    refine AWP.seq ?_
    refine AWP.regionT tcok hmix [] [0, 1, 4] [4, 1000000000, 2000000001] (os := []) (s' := St.mk [(0, tp (V.sl 1000000000 0 n)), (1, tp (V.clo (Fn.func 51) [] [V.ptr 2000000001 0])), (4, tp (V.sl 4 0 0))] [(4, Blk.mk [] true 0 (some (79, 3))), (1000000000, Blk.mk (rowsI R) true 0 (some (79, 3))), (2000000001, Blk.mk [u16 id] true 1 none)]) (by kernel_rfl) trivial ?_
    refine xe1 (os := [Con Try.prog 59 [(2000000000, Blk.mk (rowsI R) true 0 (some (79, 3))), (2000000001, Blk.mk [u16 id] true 1 none)] [V.sl 2000000000 0 n, V.clo (Fn.func 51) [] [V.ptr 2000000001 0]] [(2000000000, Blk.mk (rowsI R) true 0 (some (79, 3))), (2000000001, Blk.mk [u16 id] true 1 none)] (i64 (-1))]) [(2, ⟨some (V.tup [V.sl 2000000000 1000000000 0, V.sl 2000000001 2000000001 0]), some ⟨i64 (-1), [(2000000000, Blk.mk (rowsI R) true 0 (some (79, 3))), (2000000001, Blk.mk [u16 id] true 1 none)], []⟩⟩)] [0, 1, 4, 5] [1000000000, 2000000001, 4] (by kernel_rfl) ⟨(c ), trivial⟩ ?_
    refine AWP.seq ?_
    refine xe0 [0, 1, 4, 5, 12] [1000000000, 2000000001, 4] (by kernel_rfl) ?_
    refine AWP.condT (by kernel_rfl) ?_
    refine AWP.seq ?_
    refine AWP.keep' [0, 1, 5] [1000000000, 2000000001] (sf := St.mk [(0, tp (V.sl 1000000000 0 n)), (1, tp (V.clo (Fn.func 51) [] [V.ptr 2000000001 0])), (5, tp (i64 (-1)))] [(1000000000, Blk.mk (rowsI R) true 0 (some (79, 3))), (2000000001, Blk.mk [u16 id] true 1 none)]) (by kernel_rfl) ?_
    refine xg0 [0, 1, 4, 5] [1000000000, 2000000001] (by kernel_rfl) ?_
    refine AWP.ret ?_
    refine ⟨Or.inr rfl, Eq.trans (b := some ([(1000000000, Blk.mk (rowsI R) true 0 (some (79, 3))), (2000000001, Blk.mk [u16 id] true 1 none)], V.sl 1000000000 0 n)) (by kernel_rfl) ?_⟩
    rfl
end Go.Proofs.Ytlfjnkobnkfioaa
