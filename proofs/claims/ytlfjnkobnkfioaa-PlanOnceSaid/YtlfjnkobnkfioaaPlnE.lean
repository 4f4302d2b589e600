/- Items in rows; the binary search. -/
import Derived.Test.YtlfjnkobnkfioaaRg
import Derived.Test.YtlfjnkobnkfioaaPlnD
namespace Go.Proofs.Ytlfjnkobnkfioaa
open Go.Ab
set_option maxRecDepth 100000
set_option maxHeartbeats 8000000
set_option linter.unusedSimpArgs false
set_option linter.unusedVariables false
structure It where
  t : Int
  id : Int
  c : List Int
  k : Nat
def It.row (a : It) : List V := [u32 a.t, u16 a.id, .vs (u8s a.c) a.k]
abbrev It.v (a : It) : V := .agg true (It.row a)
def rowsI : List It → List V
  | [] => []
  | a :: r => It.row a ++ rowsI r
theorem rowsI_len (R : List It) : (rowsI R).length = R.length * 3 := by
  induction R with
  | nil => rfl
  | cons a r ih => simp only [rowsI, List.length_append, ih, It.row, List.length_cons, List.length_nil]; omega
theorem rowsI_app (R Q : List It) : rowsI (R ++ Q) = rowsI R ++ rowsI Q := by
  induction R with
  | nil => rfl
  | cons a r ih => simp only [List.cons_append, rowsI, ih, List.append_assoc]
theorem rowsI_drop (R : List It) (i : Nat) : (rowsI R).drop (i * 3) = rowsI (R.drop i) := by
  induction R generalizing i with
  | nil => simp [rowsI]
  | cons a r ih =>
    cases i with
    | zero => simp
    | succ i =>
      rw [show (i + 1) * 3 = i * 3 + 3 by omega]
      simp only [rowsI, It.row, List.cons_append, List.nil_append, List.drop_succ_cons, ih]
theorem rowsI_take (R : List It) (i : Nat) : (rowsI R).take (i * 3) = rowsI (R.take i) := by
  induction R generalizing i with
  | nil => simp [rowsI]
  | cons a r ih =>
    cases i with
    | zero => simp [rowsI]
    | succ i =>
      rw [show (i + 1) * 3 = i * 3 + 3 by omega]
      simp only [rowsI, It.row, List.cons_append, List.nil_append, List.take_succ_cons, ih]
theorem rowsI_at {R : List It} {i : Nat} {a : It} (h : R[i]? = some a) : List.take 3 (List.drop (0 + i * 3) (rowsI R)) = It.row a := by
  rw [Nat.zero_add, rowsI_drop]
  obtain ⟨hi, rfl⟩ := List.getElem?_eq_some_iff.1 h
  rw [List.drop_eq_getElem_cons hi]
  rfl
theorem rowsI_dr {R : List It} {i : Nat} {a : It} (h : R[i]? = some a) : List.drop (i * 3) (rowsI R) = u32 a.t :: u16 a.id :: .vs (u8s a.c) a.k :: rowsI (R.drop (i + 1)) := by
  rw [rowsI_drop]
  obtain ⟨hi, rfl⟩ := List.getElem?_eq_some_iff.1 h
  rw [List.drop_eq_getElem_cons hi]
  rfl
theorem con_cmpI (a : It) (t e : Int) (he : (if a.t ≤ t then -1 else 1) = e) : Con Try.prog 45 [] [a.v, u32 t] [] (i64 e) := by
  unfold It.v It.row
  refine Con.of (C := ⟨Try.prog, tc, Try.f45.ntmps⟩) [] tcok Try.func45 rfl rfl (by kernel_rfl) (by kernel_rfl) ?_
  refine AWP.seq ?_
  refine AWP.regionT tcok hmix [] [1, 2, 4] [2] (os := []) (s' := St.mk [(1, tp (u32 t)), (2, tp (V.ptr 2 0)), (4, tp (i64 0))] [(2, Blk.mk [u32 a.t, u16 a.id, V.vs (u8s a.c) a.k] true 3 none)]) (by kernel_rfl) trivial ?_
  refine AWP.seq ?_
  refine xe0 [4, 8] [] (by kernel_rfl) ?_
  refine AWP.cond (b := decide (a.t ≤ t)) (by kernel_rfl) (fun hq0 => ?_) (fun hq0 => ?_)
  · simp only [decide_eq_true_eq] at hq0
    refine AWP.seq ?_
    refine AWP.regionT tcok hmix [] [4] [] (os := []) (s' := St.mk [(4, tp (i64 (-1)))] []) (by kernel_rfl) trivial ?_
    refine AWP.ret ?_
    refine ⟨Or.inr rfl, Eq.trans (b := some ([], i64 (-1))) (by kernel_rfl) ?_⟩
    first | (rw [if_pos (by omega)] at he; subst he; rfl) | (rw [if_neg (by omega)] at he; subst he; rfl)
  simp only [decide_eq_false_iff_not] at hq0
  refine AWP.skip ?_
  refine AWP.seq ?_
  refine AWP.regionT tcok hmix [] [4] [] (os := []) (s' := St.mk [(4, tp (i64 1))] []) (by kernel_rfl) trivial ?_
  refine AWP.ret ?_
  refine ⟨Or.inr rfl, Eq.trans (b := some ([], i64 1)) (by kernel_rfl) ?_⟩
  first | (rw [if_pos (by omega)] at he; subst he; rfl) | (rw [if_neg (by omega)] at he; subst he; rfl)
/-- How many come up to a time, ahead of the first that does not. -/
def posI (t : Int) : List It → Nat
  | [] => 0
  | a :: r => if a.t ≤ t then posI t r + 1 else 0
theorem posI_le (t : Int) : ∀ R : List It, posI t R ≤ R.length
  | [] => Nat.le_refl _
  | a :: r => by
    have := posI_le t r
    simp only [posI, List.length_cons]
    split <;> omega
def SortI (R : List It) : Prop := R.Pairwise fun a b => a.t ≤ b.t
theorem posI_at {t : Int} : ∀ {R : List It} {i : Nat} {a : It}, SortI R → R[i]? = some a → (a.t ≤ t → i + 1 ≤ posI t R) ∧ (t < a.t → posI t R ≤ i)
  | [], _, _, _, h => by simp at h
  | b :: r, 0, a, hs, h => by
    simp at h
    subst h
    refine ⟨fun e => ?_, fun e => ?_⟩
    · simp only [posI, if_pos e]; omega
    · simp only [posI, if_neg (show ¬ b.t ≤ t by omega)]; omega
  | b :: r, i + 1, a, hs, h => by
    have h' : r[i]? = some a := by simpa using h
    obtain ⟨s1, s2⟩ := List.pairwise_cons.1 hs
    have ih := posI_at (t := t) s2 h'
    have hb := s1 a (List.mem_of_getElem? h')
    refine ⟨fun e => ?_, fun e => ?_⟩
    · have := ih.1 e
      simp only [posI, if_pos (show b.t ≤ t by omega)]
      omega
    · have := ih.2 e
      simp only [posI]
      split <;> omega
theorem con_bs (R : List It) (n : Nat) (hn : R.length = n) (hm : n ≤ 1000) (t : Int) (hs : SortI R) : ∃ b, Con Try.prog 44 [] [.vs (rowsI R) n, u32 t, .val (.func (.func 45) #[] #[])] [] (.tup [i64 ((posI t R : Nat) : Int), vb b]) := by
  have hpl := posI_le t R
  refine ⟨false, ?_⟩
  refine Con.of (C := ⟨Try.prog, tc, Try.f44.ntmps⟩) [] tcok Try.func44 rfl rfl (by kernel_rfl) (by kernel_rfl) ?_
  refine AWP.seq ?_
  refine AWP.regionT tcok hmix [] [0, 1, 2, 6, 7] [] (os := []) (s' := St.mk [(0, tp (V.vs (rowsI R) n)), (1, tp (u32 t)), (2, tp (V.val (Value.func (Fn.func 45) (Array.mk []) (Array.mk [])))), (6, tp (i64 0)), (7, tp (vb false))] []) (by kernel_rfl) trivial ?_
  refine xe0 [0, 1, 2, 6, 7, 8] [] (by kernel_rfl) ?_
  refine xe0 [0, 1, 2, 6, 7, 8, 9, 10] [] (by kernel_rfl) ?_
  refine AWP.seq ?_
  refine AWP.block ?_
  refine AWP.loopI [9, 10, 2, 0, 1, 8, 6, 7] [] (fun N s' => ∃ (i j : Int), s' = St.mk [(0, T.plain (V.vs (rowsI R) n)), (1, T.plain (u32 t)), (2, T.plain (V.val (Value.func (Fn.func 45) #[] #[]))), (6, T.plain (i64 0)), (7, T.plain (vb false)), (8, T.plain (i64 (n : Int))), (9, T.plain (i64 i)), (10, T.plain (i64 j))] [] ∧ 0 ≤ i ∧ i ≤ ((posI t R : Nat) : Int) ∧ ((posI t R : Nat) : Int) ≤ j ∧ j ≤ n ∧ (N : Int) = j - i) n (s0 := St.mk [(0, T.plain (V.vs (rowsI R) n)), (1, T.plain (u32 t)), (2, T.plain (V.val (Value.func (Fn.func 45) #[] #[]))), (6, T.plain (i64 0)), (7, T.plain (vb false)), (8, T.plain (i64 (n : Int))), (9, T.plain (i64 0)), (10, T.plain (i64 (n : Int)))] []) (by kernel_rfl) ?_ ?_
  · exact ⟨0, n, rfl, by omega, by omega, by omega, by omega, by omega⟩
  rintro N s' ⟨i, j, rfl, hi, hip, hpj, hjn, hN⟩
  by_cases hlt : i < j
  · obtain ⟨a, ha⟩ : ∃ a, R[((i + j) / 2).toNat]? = some a := ⟨_, List.getElem?_eq_getElem (by omega)⟩
    have hd := rowsI_dr ha
    have hp := posI_at (t := t) hs ha
    by_cases hat : a.t ≤ t
    · have c := con_cmpI a t (-1) (by rw [if_pos hat])
      have hp1 := hp.1 hat
      refine AWP.seq ?_
      refine AWP.seq ?_
      refine AWP.regionT tcok hmix [] [0, 1, 2, 6, 7, 8, 9, 10, 17] [] (os := []) (s' := St.mk [(0, tp (V.vs (rowsI R) n)), (1, tp (u32 t)), (2, tp (V.val (Value.func (Fn.func 45) (Array.mk []) (Array.mk [])))), (6, tp (i64 0)), (7, tp (vb false)), (8, tp (i64 (↑n : Int))), (9, tp (i64 i)), (10, tp (i64 j)), (17, tp (vb (decide (i < j))))] []) (by kernel_rfl) trivial ?_
      refine AWP.cond (b := decide (i < j)) (by kernel_rfl) (fun hq1 => ?_) (fun hq1 => ?_)
      · simp only [decide_eq_true_eq] at hq1
        refine AWP.skip ?_
        refine AWP.block ?_
        refine AWP.seq ?_
        refine AWP.regionT tcok hmix [(2, ⟨some (i64 (i + j)), none⟩), (3, ⟨some (u64 (i + j)), none⟩), (4, ⟨some (u64 ((i + j) / 2)), none⟩), (5, ⟨some (i64 ((i + j) / 2)), none⟩)] [0, 1, 2, 6, 7, 8, 9, 10, 11] [] (os := [i64 (IntKind.wrap IntKind.i64 (i + j)) = i64 (i + j), u64 (IntKind.wrap IntKind.u64 (i + j)) = u64 (i + j), (0 : Int) ≤ (1 : Int), u64 (ishr IntKind.u64 (i + j) 1) = u64 ((i + j) / 2), i64 (IntKind.wrap IntKind.i64 ((i + j) / 2)) = i64 ((i + j) / 2)]) (s' := St.mk [(0, tp (V.vs (rowsI R) n)), (1, tp (u32 t)), (2, tp (V.val (Value.func (Fn.func 45) (Array.mk []) (Array.mk [])))), (6, tp (i64 0)), (7, tp (vb false)), (8, tp (i64 (↑n : Int))), (9, tp (i64 i)), (10, tp (i64 j)), (11, tp (i64 ((i + j) / 2)))] []) (by kernel_rfl) ⟨(wr_i64 (by omega) (by omega)), (wr_u64 (by omega) (by omega)), (by omega), (shr_eq rfl (by decide)), (wr_i64 (by omega) (by omega)), trivial⟩ ?_
        refine xe1 (os := [(0 : Int) ≤ (i + j) / (2 : Int) ∧ (i + j) / (2 : Int) < (↑n : Int), V.vp (List.drop (Int.toNat ((i + j) / 2) * 3) (rowsI R)) = V.vp (u32 a.t :: u16 a.id :: V.vs (u8s a.c) a.k :: rowsI (List.drop (Int.toNat ((i + j) / 2) + 1) R)), Con Try.prog 45 [] [V.agg true [u32 a.t, u16 a.id, V.vs (u8s a.c) a.k], u32 t] [] (i64 (-1))]) [(3, ⟨some (V.vp (u32 a.t :: u16 a.id :: V.vs (u8s a.c) a.k :: rowsI (List.drop (Int.toNat ((i + j) / 2) + 1) R))), none⟩), (6, ⟨some (V.tup []), some ⟨i64 (-1), [], []⟩⟩)] [0, 1, 2, 6, 7, 8, 9, 10, 11, 31] [] (by kernel_rfl) ⟨(by omega), (congrArg V.vp hd), (c ), trivial⟩ ?_
        refine AWP.condT (by kernel_rfl) ?_
        refine AWP.region tcok hmix [(1, ⟨some (i64 ((i + j) / 2 + 1)), none⟩)] (os := [i64 (IntKind.wrap IntKind.i64 ((i + j) / 2 + 1)) = i64 ((i + j) / 2 + 1)]) (sf := St.mk [(0, tp (V.vs (rowsI R) n)), (1, tp (u32 t)), (2, tp (V.val (Value.func (Fn.func 45) (Array.mk []) (Array.mk [])))), (6, tp (i64 0)), (7, tp (vb false)), (8, tp (i64 (↑n : Int))), (9, tp (i64 ((i + j) / 2 + 1))), (10, tp (i64 j)), (11, tp (i64 ((i + j) / 2))), (31, tp (vb true)), (32, tp (i64 ((i + j) / 2))), (33, tp (i64 ((i + j) / 2 + 1)))] []) (by kernel_rfl) ⟨(wr_i64 (by omega) (by omega)), trivial⟩ ?_
        refine ⟨St.mk [(0, tp (V.vs (rowsI R) n)), (1, tp (u32 t)), (2, tp (V.val (Value.func (Fn.func 45) (Array.mk []) (Array.mk [])))), (6, tp (i64 0)), (7, tp (vb false)), (8, tp (i64 (↑n : Int))), (9, tp (i64 ((i + j) / 2 + 1))), (10, tp (i64 j))] [], by kernel_rfl, ?_⟩
        first | (exact ⟨(j - ((i + j) / 2 + 1)).toNat, (by omega), (i + j) / 2 + 1, j, rfl, (by omega), (by omega), (by omega), (by omega), (by omega)⟩) | (exfalso; omega)
      simp only [decide_eq_false_iff_not] at hq1
      (exfalso; omega)
    · have c := con_cmpI a t 1 (by rw [if_neg hat])
      have hp1 := hp.2 (by omega)
      refine AWP.seq ?_
      refine AWP.seq ?_
      refine AWP.regionT tcok hmix [] [0, 1, 2, 6, 7, 8, 9, 10, 17] [] (os := []) (s' := St.mk [(0, tp (V.vs (rowsI R) n)), (1, tp (u32 t)), (2, tp (V.val (Value.func (Fn.func 45) (Array.mk []) (Array.mk [])))), (6, tp (i64 0)), (7, tp (vb false)), (8, tp (i64 (↑n : Int))), (9, tp (i64 i)), (10, tp (i64 j)), (17, tp (vb (decide (i < j))))] []) (by kernel_rfl) trivial ?_
      refine AWP.cond (b := decide (i < j)) (by kernel_rfl) (fun hq3 => ?_) (fun hq3 => ?_)
      · simp only [decide_eq_true_eq] at hq3
        refine AWP.skip ?_
        refine AWP.block ?_
        refine AWP.seq ?_
        refine AWP.regionT tcok hmix [(2, ⟨some (i64 (i + j)), none⟩), (3, ⟨some (u64 (i + j)), none⟩), (4, ⟨some (u64 ((i + j) / 2)), none⟩), (5, ⟨some (i64 ((i + j) / 2)), none⟩)] [0, 1, 2, 6, 7, 8, 9, 10, 11] [] (os := [i64 (IntKind.wrap IntKind.i64 (i + j)) = i64 (i + j), u64 (IntKind.wrap IntKind.u64 (i + j)) = u64 (i + j), (0 : Int) ≤ (1 : Int), u64 (ishr IntKind.u64 (i + j) 1) = u64 ((i + j) / 2), i64 (IntKind.wrap IntKind.i64 ((i + j) / 2)) = i64 ((i + j) / 2)]) (s' := St.mk [(0, tp (V.vs (rowsI R) n)), (1, tp (u32 t)), (2, tp (V.val (Value.func (Fn.func 45) (Array.mk []) (Array.mk [])))), (6, tp (i64 0)), (7, tp (vb false)), (8, tp (i64 (↑n : Int))), (9, tp (i64 i)), (10, tp (i64 j)), (11, tp (i64 ((i + j) / 2)))] []) (by kernel_rfl) ⟨(wr_i64 (by omega) (by omega)), (wr_u64 (by omega) (by omega)), (by omega), (shr_eq rfl (by decide)), (wr_i64 (by omega) (by omega)), trivial⟩ ?_
        refine xe1 (os := [(0 : Int) ≤ (i + j) / (2 : Int) ∧ (i + j) / (2 : Int) < (↑n : Int), V.vp (List.drop (Int.toNat ((i + j) / 2) * 3) (rowsI R)) = V.vp (u32 a.t :: u16 a.id :: V.vs (u8s a.c) a.k :: rowsI (List.drop (Int.toNat ((i + j) / 2) + 1) R)), Con Try.prog 45 [] [V.agg true [u32 a.t, u16 a.id, V.vs (u8s a.c) a.k], u32 t] [] (i64 1)]) [(3, ⟨some (V.vp (u32 a.t :: u16 a.id :: V.vs (u8s a.c) a.k :: rowsI (List.drop (Int.toNat ((i + j) / 2) + 1) R))), none⟩), (6, ⟨some (V.tup []), some ⟨i64 1, [], []⟩⟩)] [0, 1, 2, 6, 7, 8, 9, 10, 11, 31] [] (by kernel_rfl) ⟨(by omega), (congrArg V.vp hd), (c ), trivial⟩ ?_
        refine AWP.condF (by kernel_rfl) ?_
        refine AWP.region tcok hmix [] (os := []) (sf := St.mk [(0, tp (V.vs (rowsI R) n)), (1, tp (u32 t)), (2, tp (V.val (Value.func (Fn.func 45) (Array.mk []) (Array.mk [])))), (6, tp (i64 0)), (7, tp (vb false)), (8, tp (i64 (↑n : Int))), (9, tp (i64 i)), (10, tp (i64 ((i + j) / 2))), (11, tp (i64 ((i + j) / 2))), (31, tp (vb false)), (34, tp (i64 ((i + j) / 2)))] []) (by kernel_rfl) trivial ?_
        refine ⟨St.mk [(0, tp (V.vs (rowsI R) n)), (1, tp (u32 t)), (2, tp (V.val (Value.func (Fn.func 45) (Array.mk []) (Array.mk [])))), (6, tp (i64 0)), (7, tp (vb false)), (8, tp (i64 (↑n : Int))), (9, tp (i64 i)), (10, tp (i64 ((i + j) / 2)))] [], by kernel_rfl, ?_⟩
        first | (exact ⟨((i + j) / 2 - i).toNat, (by omega), i, (i + j) / 2, rfl, (by omega), (by omega), (by omega), (by omega), (by omega)⟩) | (exfalso; omega)
      simp only [decide_eq_false_iff_not] at hq3
      (exfalso; omega)
  have hij : i = ((posI t R : Nat) : Int) := by omega
  subst hij
  by_cases hlt2 : posI t R < n
  · obtain ⟨a, ha⟩ : ∃ a, R[(((posI t R : Nat) : Int)).toNat]? = some a := ⟨_, List.getElem?_eq_getElem (by omega)⟩
    have hd := rowsI_dr ha
    have hp := posI_at (t := t) hs ha
    have hat : ¬ a.t ≤ t := fun h => by have := hp.1 h; omega
    have c := con_cmpI a t 1 (by rw [if_neg hat])
    have wb : decide (((posI t R : Nat) : Int) < (n : Int)) = true := decide_eq_true (by omega)
    refine AWP.seq ?_
    refine AWP.seq ?_
    refine AWP.regionT tcok hmix [] [0, 1, 2, 6, 7, 8, 9, 10, 17] [] (os := []) (s' := St.mk [(0, tp (V.vs (rowsI R) n)), (1, tp (u32 t)), (2, tp (V.val (Value.func (Fn.func 45) (Array.mk []) (Array.mk [])))), (6, tp (i64 0)), (7, tp (vb false)), (8, tp (i64 (↑n : Int))), (9, tp (i64 (↑(posI t R) : Int))), (10, tp (i64 j)), (17, tp (vb (decide ((↑(posI t R) : Int) < j))))] []) (by kernel_rfl) trivial ?_
    refine AWP.cond (b := decide ((↑(posI t R) : Int) < j)) (by kernel_rfl) (fun hq5 => ?_) (fun hq5 => ?_)
    · simp only [decide_eq_true_eq] at hq5
      (exfalso; omega)
    simp only [decide_eq_false_iff_not] at hq5
    refine AWP.exit ?_
    refine AWP.seq ?_
    refine AWP.regionT tcok hmix [(3, ⟨some (vb true), none⟩), (8, ⟨some (V.vp (u32 a.t :: u16 a.id :: V.vs (u8s a.c) a.k :: rowsI (List.drop (Int.toNat (↑(posI t R) : Int) + 1) R))), none⟩), (11, ⟨some (V.tup []), some ⟨i64 1, [], []⟩⟩)] [6, 7] [] (os := [vb (decide ((↑(posI t R) : Int) < (↑n : Int))) = vb true, true = true → ((0 : Int) ≤ (↑(posI t R) : Int) ∧ (↑(posI t R) : Int) < (↑n : Int)) ∧ V.vp (List.drop (Int.toNat (↑(posI t R) : Int) * (3 : Nat)) (rowsI R)) = V.vp (u32 a.t :: u16 a.id :: V.vs (u8s a.c) a.k :: rowsI (List.drop (Int.toNat (↑(posI t R) : Int) + (1 : Nat)) R)) ∧ True, Con Try.prog 45 [] [V.agg true [u32 a.t, u16 a.id, V.vs (u8s a.c) a.k], u32 t] [] (i64 1)]) (s' := St.mk [(6, tp (i64 (↑(posI t R) : Int))), (7, tp (vb false))] []) (by kernel_rfl) ⟨(congrArg (fun b => V.val (Value.bool b)) wb), (by intro hc0; first | (cases hc0; done) | ((try simp only [Bool.or_false, Bool.false_or, Bool.true_and, Bool.and_true, decide_eq_true_eq, decide_eq_false_iff_not, Bool.and_eq_true, Bool.or_eq_true, Bool.or_eq_false_iff, Bool.not_eq_true', Bool.and_eq_false_iff, beq_iff_eq, bne_iff_ne, bne_eq_false_iff_eq, beq_eq_false_iff_ne, Bool.not_eq_false'] at hc0); exact ⟨(by omega), (congrArg V.vp hd), trivial⟩)), (c ), trivial⟩ ?_
    refine AWP.ret ?_
    refine ⟨Or.inr rfl, Eq.trans (b := some ([], V.tup [i64 (↑(posI t R) : Int), vb false])) (by kernel_rfl) ?_⟩
    first | rfl | (exfalso; omega)
  · have wb : decide (((posI t R : Nat) : Int) < (n : Int)) = false := decide_eq_false (by omega)
    refine AWP.seq ?_
    refine AWP.seq ?_
    refine AWP.regionT tcok hmix [] [0, 1, 2, 6, 7, 8, 9, 10, 17] [] (os := []) (s' := St.mk [(0, tp (V.vs (rowsI R) n)), (1, tp (u32 t)), (2, tp (V.val (Value.func (Fn.func 45) (Array.mk []) (Array.mk [])))), (6, tp (i64 0)), (7, tp (vb false)), (8, tp (i64 (↑n : Int))), (9, tp (i64 (↑(posI t R) : Int))), (10, tp (i64 j)), (17, tp (vb (decide ((↑(posI t R) : Int) < j))))] []) (by kernel_rfl) trivial ?_
    refine AWP.cond (b := decide ((↑(posI t R) : Int) < j)) (by kernel_rfl) (fun hq6 => ?_) (fun hq6 => ?_)
    · simp only [decide_eq_true_eq] at hq6
      (exfalso; omega)
    simp only [decide_eq_false_iff_not] at hq6
    refine AWP.exit ?_
    refine AWP.seq ?_
    refine AWP.regionT tcok hmix [(3, ⟨some (vb false), none⟩), (8, ⟨some (V.vp (List.drop (Int.toNat (↑(posI t R) : Int) * 3) (rowsI R))), none⟩), (9, ⟨some (V.agg true (List.take 3 (List.drop 0 (List.drop (Int.toNat (↑(posI t R) : Int) * 3) (rowsI R))))), none⟩), (12, ⟨some (V.tup [vb false]), none⟩)] [6, 7] [] (os := [vb (decide ((↑(posI t R) : Int) < (↑n : Int))) = vb false, false = true → ((0 : Int) ≤ (↑(posI t R) : Int) ∧ (↑(posI t R) : Int) < (↑n : Int)) ∧ V.vp (List.drop (Int.toNat (↑(posI t R) : Int) * (3 : Nat)) (rowsI R)) = V.vp (List.drop (Int.toNat (↑(posI t R) : Int) * (3 : Nat)) (rowsI R)) ∧ True, false = true → (3 : Nat) ≤ List.length (List.drop (Int.toNat (↑(posI t R) : Int) * (3 : Nat)) (rowsI R)) ∧ V.agg true (List.take (3 : Nat) (List.drop (0 : Nat) (List.drop (Int.toNat (↑(posI t R) : Int) * (3 : Nat)) (rowsI R)))) = V.agg true (List.take (3 : Nat) (List.drop (0 : Nat) (List.drop (Int.toNat (↑(posI t R) : Int) * (3 : Nat)) (rowsI R)))) ∧ True, false = true → False]) (s' := St.mk [(6, tp (i64 (↑(posI t R) : Int))), (7, tp (vb false))] []) (by kernel_rfl) ⟨(congrArg (fun b => V.val (Value.bool b)) wb), (by intro hc0; first | (cases hc0; done) | ((try simp only [Bool.or_false, Bool.false_or, Bool.true_and, Bool.and_true, decide_eq_true_eq, decide_eq_false_iff_not, Bool.and_eq_true, Bool.or_eq_true, Bool.or_eq_false_iff, Bool.not_eq_true', Bool.and_eq_false_iff, beq_iff_eq, bne_iff_ne, bne_eq_false_iff_eq, beq_eq_false_iff_ne, Bool.not_eq_false'] at hc0); exact ⟨(by first | omega | (simp [len_u8s]; omega) | (simp [len_u8s]; done)), rfl, trivial⟩)), (by intro hc0; first | (cases hc0; done) | ((try simp only [Bool.or_false, Bool.false_or, Bool.true_and, Bool.and_true, decide_eq_true_eq, decide_eq_false_iff_not, Bool.and_eq_true, Bool.or_eq_true, Bool.or_eq_false_iff, Bool.not_eq_true', Bool.and_eq_false_iff, beq_iff_eq, bne_iff_ne, bne_eq_false_iff_eq, beq_eq_false_iff_ne, Bool.not_eq_false'] at hc0); exact ⟨(by first | omega | (simp [len_u8s]; omega) | (simp [len_u8s]; done)), rfl, trivial⟩)), (by (intro hc0; first | (cases hc0; done) | (exfalso; simp_all; done) | ((try simp only [Bool.or_false, Bool.false_or, Bool.true_and, Bool.and_true, decide_eq_true_eq, decide_eq_false_iff_not, Bool.and_eq_true, Bool.or_eq_true, Bool.or_eq_false_iff, Bool.not_eq_true', Bool.and_eq_false_iff, beq_iff_eq, bne_iff_ne, bne_eq_false_iff_eq, beq_eq_false_iff_ne, Bool.not_eq_false'] at hc0); omega))), trivial⟩ ?_
    refine AWP.ret ?_
    refine ⟨Or.inr rfl, Eq.trans (b := some ([], V.tup [i64 (↑(posI t R) : Int), vb false])) (by kernel_rfl) ?_⟩
    first | rfl | (exfalso; omega)
end Go.Proofs.Ytlfjnkobnkfioaa
