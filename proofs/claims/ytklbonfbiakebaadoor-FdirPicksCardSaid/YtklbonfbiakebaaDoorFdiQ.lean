/- What is deleted of a list of alarms; the alarms sorted. -/
import Derived.Test.YtklbonfbiakebaaDoorRg
import Derived.Test.YtklbonfbiakebaaDoorFdiP
namespace Go.Proofs.YtklbonfbiakebaaDoor
open Go.Ab
set_option maxRecDepth 100000
set_option maxHeartbeats 8000000
set_option linter.unusedSimpArgs false
set_option linter.unusedVariables false
theorem fst_all : ∀ {R : List Al}, fst R = R.length → R.filter (fun a => a.ok) = R
  | [], _ => rfl
  | a :: r, h => by
    simp only [fst, List.length_cons] at h
    split at h
    · rename_i ha
      rw [List.filter_cons, if_pos ha, fst_all (by omega)]
    · omega
theorem fst_take : ∀ (R : List Al) (i : Nat), i ≤ fst R → (R.take i).filter (fun a => a.ok) = R.take i
  | [], i, h => by simp
  | a :: r, 0, h => by simp
  | a :: r, i + 1, h => by
    simp only [fst] at h
    split at h
    · rename_i ha
      rw [List.take_succ_cons, List.filter_cons, if_pos ha, fst_take r i (by omega)]
    · omega
/-- What the cells hold while it is deleted: S; kept: i of them, of the first j. -/
structure DelI (R S : List Al) (i j : Nat) : Prop where
  len : S.length = R.length
  le : i < j
  kept : S.take i = (R.take j).filter (fun a => a.ok)
  rest : S.drop j = R.drop j
theorem DelI.no {R S : List Al} {i j : Nat} (h : DelI R S i j) {a : Al} (ha : S[j]? = some a) (hn : a.ok = false) : DelI R S i (j + 1) := by
  have e : R[j]? = some a := by
    have := congrArg (fun l => l[0]?) h.rest
    simp only [List.getElem?_drop, Nat.add_zero] at this
    rw [← this]; exact ha
  refine ⟨h.len, by have := h.le; omega, ?_, ?_⟩
  · rw [h.kept, List.take_add_one, e, List.filter_append]
    simp [hn]
  · rw [← List.drop_drop, ← List.drop_drop, h.rest]
theorem DelI.yes {R S : List Al} {i j : Nat} (h : DelI R S i j) {a : Al} (ha : S[j]? = some a) (hy : a.ok = true) (hj : j < R.length) : DelI R (S.set i a) (i + 1) (j + 1) := by
  have e : R[j]? = some a := by
    have := congrArg (fun l => l[0]?) h.rest
    simp only [List.getElem?_drop, Nat.add_zero] at this
    rw [← this]; exact ha
  have hl := h.len
  have hle := h.le
  refine ⟨by simpa using h.len, by omega, ?_, ?_⟩
  · rw [List.take_add_one, List.take_set_of_le (by omega), h.kept, List.take_add_one, e, List.filter_append]
    simp [hy, show i < S.length by omega]
  · rw [List.drop_set_of_lt (by omega), ← List.drop_drop, ← List.drop_drop, h.rest]
theorem con_dele (R : List Al) (n : Nat) (hn : R.length = n) (hm : n ≤ 1000000) (K : List Al) (hK : R.filter (fun a => a.ok) = K) (k : Nat) (hk : K.length = k) : Con Tryd.prog 49 [(1000000000, ⟨rowsA R, true, 0, some (29, 3)⟩)] [.sl 1000000000 0 n, .val (.func (.func 51) #[] #[])] [(1000000000, ⟨rowsA K, true, 0, some (29, 3)⟩)] (.sl 1000000000 0 k) := by
  have hrl := rowsA_len R
  have hfl := fst_le R
  by_cases hf : fst R < n
  · have c := con_idx R n hn hm _ (by rw [if_pos hf])
    obtain ⟨a, ha⟩ : ∃ a, R[fst R]? = some a := ⟨_, List.getElem?_eq_getElem (by omega)⟩
    have hno : a.ok = false := by
      cases h : a.ok with
      | false => rfl
      | true => have := (fst_at ha (Nat.le_refl _)).1 h; omega
    have d0 : DelI R R (fst R) (fst R + 1) := by
      refine ⟨rfl, by omega, ?_, rfl⟩
      rw [List.take_add_one, ha, List.filter_append, fst_take R _ (Nat.le_refl _)]
      simp [hno]
    refine Con.of (C := ⟨Tryd.prog, tc, Tryd.f49.ntmps⟩) [1000000000] tcok Tryd.func49 rfl rfl (by kernel_rfl) (by kernel_rfl) ?_
    refine AWP.seq ?_
    refine AWP.regionT tcok hmix [] [0, 1, 4] [4, 1000000000] (os := []) (s' := St.mk [(0, tp (V.sl 1000000000 0 n)), (1, tp (V.val (Value.func (Fn.func 51) (Array.mk []) (Array.mk [])))), (4, tp (V.sl 4 0 0))] [(4, Blk.mk [] true 0 (some (29, 3))), (1000000000, Blk.mk (rowsA R) true 0 (some (29, 3)))]) (by kernel_rfl) trivial ?_
    refine xe1 (os := [VO (i64 (↑(fst R) : Int)), VOH [], Con Tryd.prog 57 [] [V.vs (rowsA R) n, V.val (Value.func (Fn.func 51) (Array.mk []) (Array.mk []))] [] (i64 (↑(fst R) : Int)), (0 : Nat) = (0 : Nat), n * (3 : Nat) = List.length (rowsA R)]) [(2, ⟨none, some ⟨i64 (↑(fst R) : Int), [], [(1000000000, true)]⟩⟩)] [0, 1, 4, 5] [1000000000, 4] (by kernel_rfl) ⟨(VO.val _), trivial, (c ), (by omega), (by first | omega | (simp [len_u8s]; done) | (simp [len_u8s]; omega)), trivial⟩ ?_
    refine AWP.seq ?_
    refine xe0 [0, 1, 4, 5, 12] [1000000000, 4] (by kernel_rfl) ?_
    refine AWP.condF (by kernel_rfl) ?_
    refine AWP.skip ?_
    refine AWP.seq ?_
    refine xe1 (os := [i64 (IntKind.wrap IntKind.i64 ((↑(fst R) : Int) + 1)) = i64 ((↑(fst R) : Int) + 1)]) [(1, ⟨some (i64 ((↑(fst R) : Int) + 1)), none⟩)] [0, 1, 4, 5, 6] [1000000000, 4] (by kernel_rfl) ⟨(wr_i64 (by omega) (by omega)), trivial⟩ ?_
    refine AWP.block ?_
    refine AWP.loopI [6, 0, 1, 5, 4] [4, 1000000000] (fun N s' => ∃ (i j : Int) (S : List Al), s' = St.mk [(0, T.plain (V.sl 1000000000 0 n)), (1, T.plain (V.val (Value.func (Fn.func 51) #[] #[]))), (4, T.plain (V.sl 4 0 0)), (5, T.plain (i64 i)), (6, T.plain (i64 j))] [(4, Blk.mk [] true 0 (some (29, 3))), (1000000000, Blk.mk (rowsA S) true 0 (some (29, 3)))] ∧ DelI R S i.toNat j.toNat ∧ 0 ≤ i ∧ 0 ≤ j ∧ j ≤ n ∧ (N : Int) = n - j) (n - (fst R + 1)) (s0 := St.mk [(0, T.plain (V.sl 1000000000 0 n)), (1, T.plain (V.val (Value.func (Fn.func 51) #[] #[]))), (4, T.plain (V.sl 4 0 0)), (5, T.plain (i64 ((fst R : Nat) : Int))), (6, T.plain (i64 (((fst R : Nat) : Int) + 1)))] [(4, Blk.mk [] true 0 (some (29, 3))), (1000000000, Blk.mk (rowsA R) true 0 (some (29, 3)))]) (by kernel_rfl) ?_ ?_
    · exact ⟨((fst R : Nat) : Int), ((fst R : Nat) : Int) + 1, R, rfl, by rw [Int.toNat_natCast, show (((fst R : Nat) : Int) + 1).toNat = fst R + 1 by omega]; exact d0, by omega, by omega, by omega, by omega⟩
    rintro N s' ⟨i, j, S, rfl, hD, hi, hj, hj2, hN⟩
    have hSl := hD.len
    have hle := hD.le
    have hsl := rowsA_len S
    by_cases hlt : j < n
    · obtain ⟨b, hb⟩ : ∃ b, S[j.toNat]? = some b := ⟨_, List.getElem?_eq_getElem (by omega)⟩
      have wr := rowsA_at hb
      have cb := con_keep b
      cases hok : b.ok with
      | true =>
        rw [hok] at cb
        have hD' := hD.yes hb hok (by omega)
        have hpt := rowsA_put (R := S) (i := i.toNat) (by omega) b false
        have e1 : (i + 1).toNat = i.toNat + 1 := by omega
        have e2 : (j + 1).toNat = j.toNat + 1 := by omega
        rw [← e1, ← e2] at hD'
        refine AWP.seq ?_
        refine AWP.seq ?_
        refine AWP.regionT tcok hmix [] [0, 1, 4, 5, 6, 19] [1000000000, 4] (os := []) (s' := St.mk [(0, tp (V.sl 1000000000 0 n)), (1, tp (V.val (Value.func (Fn.func 51) (Array.mk []) (Array.mk [])))), (4, tp (V.sl 4 0 0)), (5, tp (i64 i)), (6, tp (i64 j)), (19, tp (vb (decide (j < (↑n : Int)))))] [(4, Blk.mk [] true 0 (some (29, 3))), (1000000000, Blk.mk (rowsA S) true 0 (some (29, 3)))]) (by kernel_rfl) trivial ?_
        refine AWP.cond (b := decide (j < (↑n : Int))) (by kernel_rfl) (fun hq1 => ?_) (fun hq1 => ?_)
        · simp only [decide_eq_true_eq] at hq1
          refine AWP.skip ?_
          refine AWP.seq ?_
          refine AWP.block ?_
          refine AWP.seq ?_
          refine AWP.regionT tcok hmix [(2, ⟨some (V.ptr 1000000000 (0 + Int.toNat j * 3)), none⟩), (3, ⟨some (V.agg true (Al.row b)), none⟩)] [0, 1, 4, 5, 6, 7] [1000000000, 4, 7] (os := [(0 : Int) ≤ j ∧ j < (↑n : Int), V.ptr 1000000000 (0 + Int.toNat j * 3) = V.ptr 1000000000 (0 + Int.toNat j * 3), (0 : Nat) + Int.toNat j * (3 : Nat) + (3 : Nat) ≤ List.length (rowsA S), V.agg true (List.take 3 (List.drop (0 + Int.toNat j * 3) (rowsA S))) = V.agg true [u8 b.lv, i64 b.un, u8 b.ev]]) (s' := St.mk [(0, tp (V.sl 1000000000 0 n)), (1, tp (V.val (Value.func (Fn.func 51) (Array.mk []) (Array.mk [])))), (4, tp (V.sl 4 0 0)), (5, tp (i64 i)), (6, tp (i64 j)), (7, tp (V.ptr 7 0))] [(4, Blk.mk [] true 0 (some (29, 3))), (7, Blk.mk [u8 b.lv, i64 b.un, u8 b.ev] true 3 none), (1000000000, Blk.mk (rowsA S) true 0 (some (29, 3)))]) (by kernel_rfl) ⟨(by omega), rfl, (by first | omega | (simp [len_u8s]; done) | (simp [len_u8s]; omega)), (congrArg (V.agg true) (wr )), trivial⟩ ?_
          refine xe1 (os := [Con Tryd.prog 51 [] [V.agg true [u8 b.lv, i64 b.un, u8 b.ev]] [] (vb false)]) [(2, ⟨some (V.tup []), some ⟨vb !true, [], []⟩⟩)] [0, 1, 4, 5, 6, 7, 29] [1000000000, 4, 7] (by kernel_rfl) ⟨(cb ), trivial⟩ ?_
          refine AWP.condT (by kernel_rfl) ?_
          refine xe1 (os := [(0 : Int) ≤ i ∧ i < (↑n : Int), V.ptr 1000000000 (0 + Int.toNat i * 3) = V.ptr 1000000000 (0 + Int.toNat i * 3), (3 : Nat) = (3 : Nat), (0 : Nat) + Int.toNat i * (3 : Nat) + (3 : Nat) ≤ List.length (rowsA S)]) [(3, ⟨some (V.ptr 1000000000 (0 + Int.toNat i * 3)), none⟩), (4, ⟨some V.top, none⟩)] [0, 1, 4, 5, 6] [1000000000, 4] (by kernel_rfl) ⟨(by omega), rfl, (by omega), (by first | omega | (simp [len_u8s]; done) | (simp [len_u8s]; omega)), trivial⟩ ?_
          refine AWP.region tcok hmix [(1, ⟨some (i64 (i + 1)), none⟩)] (os := [i64 (IntKind.wrap IntKind.i64 (i + 1)) = i64 (i + 1)]) (sf := St.mk [(0, tp (V.sl 1000000000 0 n)), (1, tp (V.val (Value.func (Fn.func 51) (Array.mk []) (Array.mk [])))), (4, tp (V.sl 4 0 0)), (5, tp (i64 (i + 1))), (6, tp (i64 j)), (34, tp (i64 i)), (35, tp (i64 (i + 1)))] [(4, Blk.mk [] true 0 (some (29, 3))), (1000000000, Blk.mk (putC (3 == 1) (rowsA S) (0 + Int.toNat i * 3) [u8 b.lv, i64 b.un, u8 b.ev]) true 0 (some (29, 3)))]) (by kernel_rfl) ⟨(wr_i64 (by omega) (by omega)), trivial⟩ ?_
          refine AWP.keep' [0, 1, 4, 5, 6] [1000000000, 4] (sf := St.mk [(0, tp (V.sl 1000000000 0 n)), (1, tp (V.val (Value.func (Fn.func 51) (Array.mk []) (Array.mk [])))), (4, tp (V.sl 4 0 0)), (5, tp (i64 (i + 1))), (6, tp (i64 j))] [(4, Blk.mk [] true 0 (some (29, 3))), (1000000000, Blk.mk (putC (3 == 1) (rowsA S) (0 + Int.toNat i * 3) [u8 b.lv, i64 b.un, u8 b.ev]) true 0 (some (29, 3)))]) (by kernel_rfl) ?_
          refine AWP.region tcok hmix [(1, ⟨some (i64 (j + 1)), none⟩)] (os := [i64 (IntKind.wrap IntKind.i64 (j + 1)) = i64 (j + 1)]) (sf := St.mk [(0, tp (V.sl 1000000000 0 n)), (1, tp (V.val (Value.func (Fn.func 51) (Array.mk []) (Array.mk [])))), (4, tp (V.sl 4 0 0)), (5, tp (i64 (i + 1))), (6, tp (i64 (j + 1))), (20, tp (i64 j)), (21, tp (i64 (j + 1)))] [(4, Blk.mk [] true 0 (some (29, 3))), (1000000000, Blk.mk (putC (3 == 1) (rowsA S) (0 + Int.toNat i * 3) [u8 b.lv, i64 b.un, u8 b.ev]) true 0 (some (29, 3)))]) (by kernel_rfl) ⟨(wr_i64 (by omega) (by omega)), trivial⟩ ?_
          refine ⟨St.mk [(0, tp (V.sl 1000000000 0 n)), (1, tp (V.val (Value.func (Fn.func 51) (Array.mk []) (Array.mk [])))), (4, tp (V.sl 4 0 0)), (5, tp (i64 (i + 1))), (6, tp (i64 (j + 1)))] [(4, Blk.mk [] true 0 (some (29, 3))), (1000000000, Blk.mk (putC (3 == 1) (rowsA S) (0 + Int.toNat i * 3) [u8 b.lv, i64 b.un, u8 b.ev]) true 0 (some (29, 3)))], by kernel_rfl, ?_⟩
          first | (exact ⟨(n - (j + 1)).toNat, (by omega), i + 1, j + 1, S.set i.toNat b, (by rw [← hpt]; rfl), hD', (by omega), (by omega), (by omega), (by omega)⟩) | (exfalso; omega)
        simp only [decide_eq_false_iff_not] at hq1
        (exfalso; omega)
      | false =>
        rw [hok] at cb
        have hD' := hD.no hb hok
        have e2 : (j + 1).toNat = j.toNat + 1 := by omega
        rw [← e2] at hD'
        refine AWP.seq ?_
        refine AWP.seq ?_
        refine AWP.regionT tcok hmix [] [0, 1, 4, 5, 6, 19] [1000000000, 4] (os := []) (s' := St.mk [(0, tp (V.sl 1000000000 0 n)), (1, tp (V.val (Value.func (Fn.func 51) (Array.mk []) (Array.mk [])))), (4, tp (V.sl 4 0 0)), (5, tp (i64 i)), (6, tp (i64 j)), (19, tp (vb (decide (j < (↑n : Int)))))] [(4, Blk.mk [] true 0 (some (29, 3))), (1000000000, Blk.mk (rowsA S) true 0 (some (29, 3)))]) (by kernel_rfl) trivial ?_
        refine AWP.cond (b := decide (j < (↑n : Int))) (by kernel_rfl) (fun hq3 => ?_) (fun hq3 => ?_)
        · simp only [decide_eq_true_eq] at hq3
          refine AWP.skip ?_
          refine AWP.seq ?_
          refine AWP.block ?_
          refine AWP.seq ?_
          refine AWP.regionT tcok hmix [(2, ⟨some (V.ptr 1000000000 (0 + Int.toNat j * 3)), none⟩), (3, ⟨some (V.agg true (Al.row b)), none⟩)] [0, 1, 4, 5, 6, 7] [1000000000, 4, 7] (os := [(0 : Int) ≤ j ∧ j < (↑n : Int), V.ptr 1000000000 (0 + Int.toNat j * 3) = V.ptr 1000000000 (0 + Int.toNat j * 3), (0 : Nat) + Int.toNat j * (3 : Nat) + (3 : Nat) ≤ List.length (rowsA S), V.agg true (List.take 3 (List.drop (0 + Int.toNat j * 3) (rowsA S))) = V.agg true [u8 b.lv, i64 b.un, u8 b.ev]]) (s' := St.mk [(0, tp (V.sl 1000000000 0 n)), (1, tp (V.val (Value.func (Fn.func 51) (Array.mk []) (Array.mk [])))), (4, tp (V.sl 4 0 0)), (5, tp (i64 i)), (6, tp (i64 j)), (7, tp (V.ptr 7 0))] [(4, Blk.mk [] true 0 (some (29, 3))), (7, Blk.mk [u8 b.lv, i64 b.un, u8 b.ev] true 3 none), (1000000000, Blk.mk (rowsA S) true 0 (some (29, 3)))]) (by kernel_rfl) ⟨(by omega), rfl, (by first | omega | (simp [len_u8s]; done) | (simp [len_u8s]; omega)), (congrArg (V.agg true) (wr )), trivial⟩ ?_
          refine xe1 (os := [Con Tryd.prog 51 [] [V.agg true [u8 b.lv, i64 b.un, u8 b.ev]] [] (vb true)]) [(2, ⟨some (V.tup []), some ⟨vb !false, [], []⟩⟩)] [0, 1, 4, 5, 6, 7, 29] [1000000000, 4, 7] (by kernel_rfl) ⟨(cb ), trivial⟩ ?_
          refine AWP.condF (by kernel_rfl) ?_
          refine AWP.skip ?_
          refine AWP.region tcok hmix [(1, ⟨some (i64 (j + 1)), none⟩)] (os := [i64 (IntKind.wrap IntKind.i64 (j + 1)) = i64 (j + 1)]) (sf := St.mk [(0, tp (V.sl 1000000000 0 n)), (1, tp (V.val (Value.func (Fn.func 51) (Array.mk []) (Array.mk [])))), (4, tp (V.sl 4 0 0)), (5, tp (i64 i)), (6, tp (i64 (j + 1))), (7, tp (V.ptr 7 0)), (20, tp (i64 j)), (21, tp (i64 (j + 1))), (29, tp (vb false))] [(4, Blk.mk [] true 0 (some (29, 3))), (7, Blk.mk [u8 b.lv, i64 b.un, u8 b.ev] true 3 none), (1000000000, Blk.mk (rowsA S) true 0 (some (29, 3)))]) (by kernel_rfl) ⟨(wr_i64 (by omega) (by omega)), trivial⟩ ?_
          refine ⟨St.mk [(0, tp (V.sl 1000000000 0 n)), (1, tp (V.val (Value.func (Fn.func 51) (Array.mk []) (Array.mk [])))), (4, tp (V.sl 4 0 0)), (5, tp (i64 i)), (6, tp (i64 (j + 1)))] [(4, Blk.mk [] true 0 (some (29, 3))), (1000000000, Blk.mk (rowsA S) true 0 (some (29, 3)))], by kernel_rfl, ?_⟩
          first | (exact ⟨(n - (j + 1)).toNat, (by omega), i, j + 1, S, rfl, hD', (by omega), (by omega), (by omega), (by omega)⟩) | (exfalso; omega)
        simp only [decide_eq_false_iff_not] at hq3
        (exfalso; omega)
    have hjn : j = n := by omega
    subst hjn
    have hkp := hD.kept
    rw [Int.toNat_natCast, ← hn, List.take_length, hK] at hkp
    have hik : i.toNat = k := by rw [← hk, ← hkp, List.length_take]; omega
    have hik2 : i = (k : Int) := by omega
    subst hik2
    rw [Int.toNat_natCast] at hkp
    refine AWP.seq ?_
    refine AWP.seq ?_
    refine AWP.regionT tcok hmix [] [0, 1, 4, 5, 6, 19] [1000000000, 4] (os := []) (s' := St.mk [(0, tp (V.sl 1000000000 0 n)), (1, tp (V.val (Value.func (Fn.func 51) (Array.mk []) (Array.mk [])))), (4, tp (V.sl 4 0 0)), (5, tp (i64 (↑k : Int))), (6, tp (i64 (↑n : Int))), (19, tp (vb (decide ((↑n : Int) < (↑n : Int)))))] [(4, Blk.mk [] true 0 (some (29, 3))), (1000000000, Blk.mk (rowsA S) true 0 (some (29, 3)))]) (by kernel_rfl) trivial ?_
    refine AWP.cond (b := decide ((↑n : Int) < (↑n : Int))) (by kernel_rfl) (fun hq5 => ?_) (fun hq5 => ?_)
    · simp only [decide_eq_true_eq] at hq5
      (exfalso; omega)
    simp only [decide_eq_false_iff_not] at hq5
    refine AWP.exit ?_
    refine AWP.seq ?_
    refine AWP.regionT tcok hmix [(2, ⟨some (V.sl 1000000000 (0 + Int.toNat (↑k : Int) * 3) (Int.toNat (↑n : Int) - Int.toNat (↑k : Int))), none⟩), (3, ⟨some (V.agg true (putAt (Blk.mk (rowsA S) true 0 (some (29, 3))).cells (0 + Int.toNat (↑k : Int) * 3) (zeros ti_29.zero ((Int.toNat (↑n : Int) - Int.toNat (↑k : Int)) * ti_29.size)))), none⟩)] [0, 4, 5] [1000000000, 4] (os := [(0 : Int) ≤ (↑k : Int) ∧ (↑k : Int) < (↑n : Int) ∧ (↑n : Int) ≤ (↑n : Int), V.sl 1000000000 (0 + Int.toNat (↑k : Int) * 3) (Int.toNat (↑n : Int) - Int.toNat (↑k : Int)) = V.sl 1000000000 (0 + Int.toNat (↑k : Int) * 3) (Int.toNat (↑n : Int) - Int.toNat (↑k : Int)), (0 : Nat) + Int.toNat (↑k : Int) * (3 : Nat) + (Int.toNat (↑n : Int) - Int.toNat (↑k : Int)) * (3 : Nat) ≤ List.length (rowsA S), putAt (rowsA S) ((0 : Nat) + Int.toNat (↑k : Int) * (3 : Nat)) (zeros [Value.int IntKind.u8 (0 : Int), Value.int IntKind.i64 (0 : Int), Value.int IntKind.u8 (0 : Int)] ((Int.toNat (↑n : Int) - Int.toNat (↑k : Int)) * (3 : Nat))) = putAt (rowsA S) ((0 : Nat) + Int.toNat (↑k : Int) * (3 : Nat)) (zeros [Value.int IntKind.u8 (0 : Int), Value.int IntKind.i64 (0 : Int), Value.int IntKind.u8 (0 : Int)] ((Int.toNat (↑n : Int) - Int.toNat (↑k : Int)) * (3 : Nat)))]) (s' := St.mk [(0, tp (V.sl 1000000000 0 n)), (4, tp (V.sl 4 0 0)), (5, tp (i64 (↑k : Int)))] [(4, Blk.mk [] true 0 (some (29, 3))), (1000000000, Blk.mk (putAt (rowsA S) (0 + Int.toNat (↑k : Int) * 3) (zeros [Value.int IntKind.u8 0, Value.int IntKind.i64 0, Value.int IntKind.u8 0] ((Int.toNat (↑n : Int) - Int.toNat (↑k : Int)) * 3))) true 0 (some (29, 3)))]) (by kernel_rfl) ⟨(by omega), rfl, (by first | omega | (simp [len_u8s]; done) | (simp [len_u8s]; omega)), rfl, trivial⟩ ?_
    refine AWP.seq ?_
    refine AWP.trunc 1000000000 k (cs' := rowsA K) (s' := St.mk [(0, T.plain (V.sl 1000000000 0 n)), (4, T.plain (V.sl 4 0 0)), (5, T.plain (i64 ((k : Nat) : Int)))] [(4, Blk.mk [] true 0 (some (29, 3))), (1000000000, Blk.mk (rowsA K) true 0 (some (29, 3)))]) rfl (by omega) ?_ ?_ rfl ?_
    · rw [Nat.zero_add, hik]
      exact putAt_ge (by omega)
    · rw [Nat.zero_add, hik, putAt_take (by omega), rowsA_take, hkp]
    refine AWP.keep' [0, 5] [1000000000] (sf := St.mk [(0, tp (V.sl 1000000000 0 n)), (5, tp (i64 (↑k : Int)))] [(1000000000, Blk.mk (rowsA K) true 0 (some (29, 3)))]) (by kernel_rfl) ?_
    refine AWP.regionT tcok hmix [(2, ⟨some (V.sl 1000000000 0 (Int.toNat (↑k : Int))), none⟩)] [4] [1000000000] (os := [(0 : Int) ≤ (↑k : Int) ∧ (↑k : Int) ≤ (↑n : Int), V.sl 1000000000 0 (Int.toNat (↑k : Int)) = V.sl 1000000000 0 (Int.toNat (↑k : Int))]) (s' := St.mk [(4, tp (V.sl 1000000000 0 (Int.toNat (↑k : Int))))] [(1000000000, Blk.mk (rowsA K) true 0 (some (29, 3)))]) (by kernel_rfl) ⟨(by omega), rfl, trivial⟩ ?_
    refine AWP.ret ?_
    refine ⟨Or.inr rfl, Eq.trans (b := some ([(1000000000, Blk.mk (rowsA K) true 0 (some (29, 3)))], V.sl 1000000000 0 (Int.toNat (↑k : Int)))) (by kernel_rfl) ?_⟩
    first | rfl | (exfalso; omega)
  · have c := con_idx R n hn hm _ (by rw [if_neg hf])
    have := fst_all (R := R) (by omega)
    rw [this] at hK
    subst hK
    obtain rfl : n = k := by omega
    refine Con.of (C := ⟨Tryd.prog, tc, Tryd.f49.ntmps⟩) [1000000000] tcok Tryd.func49 rfl rfl (by kernel_rfl) (by kernel_rfl) ?_
    refine AWP.seq ?_
    refine AWP.regionT tcok hmix [] [0, 1, 4] [4, 1000000000] (os := []) (s' := St.mk [(0, tp (V.sl 1000000000 0 n)), (1, tp (V.val (Value.func (Fn.func 51) (Array.mk []) (Array.mk [])))), (4, tp (V.sl 4 0 0))] [(4, Blk.mk [] true 0 (some (29, 3))), (1000000000, Blk.mk (rowsA R) true 0 (some (29, 3)))]) (by kernel_rfl) trivial ?_
    refine xe1 (os := [VO (i64 (-1 : Int)), VOH [], Con Tryd.prog 57 [] [V.vs (rowsA R) n, V.val (Value.func (Fn.func 51) (Array.mk []) (Array.mk []))] [] (i64 (-1)), (0 : Nat) = (0 : Nat), n * (3 : Nat) = List.length (rowsA R)]) [(2, ⟨none, some ⟨i64 (-1), [], [(1000000000, true)]⟩⟩)] [0, 1, 4, 5] [1000000000, 4] (by kernel_rfl) ⟨(VO.val _), trivial, (c ), (by omega), (by first | omega | (simp [len_u8s]; done) | (simp [len_u8s]; omega)), trivial⟩ ?_
    refine AWP.seq ?_
    refine xe0 [0, 1, 4, 5, 12] [1000000000, 4] (by kernel_rfl) ?_
    refine AWP.condT (by kernel_rfl) ?_
    refine AWP.seq ?_
    refine AWP.keep' [0, 1, 5] [1000000000] (sf := St.mk [(0, tp (V.sl 1000000000 0 n)), (1, tp (V.val (Value.func (Fn.func 51) (Array.mk []) (Array.mk [])))), (5, tp (i64 (-1)))] [(1000000000, Blk.mk (rowsA R) true 0 (some (29, 3)))]) (by kernel_rfl) ?_
    refine xg0 [0, 1, 4, 5] [1000000000] (by kernel_rfl) ?_
    refine AWP.ret ?_
    refine ⟨Or.inr rfl, Eq.trans (b := some ([(1000000000, Blk.mk (rowsA R) true 0 (some (29, 3)))], V.sl 1000000000 0 n)) (by kernel_rfl) ?_⟩
    rfl
end Go.Proofs.YtklbonfbiakebaaDoor
