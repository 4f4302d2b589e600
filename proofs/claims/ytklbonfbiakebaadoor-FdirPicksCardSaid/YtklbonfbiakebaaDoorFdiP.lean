/- Alarms in rows; what is deleted of a list of alarms. -/
import Derived.Test.YtklbonfbiakebaaDoorRg
import Derived.Test.YtklbonfbiakebaaDoorFdiA
import Derived.Test.YtklbonfbiakebaaDoorAb31
namespace Go.Proofs.YtklbonfbiakebaaDoor
open Go.Ab
set_option maxRecDepth 100000
set_option maxHeartbeats 8000000
set_option linter.unusedSimpArgs false
set_option linter.unusedVariables false
structure Al where
  lv : Int
  un : Int
  ev : Int
def Al.row (a : Al) : List V := [u8 a.lv, i64 a.un, u8 a.ev]
abbrev Al.v (a : Al) : V := .agg true (Al.row a)
def Al.ok (a : Al) : Bool := aright a.lv a.un
def rowsA : List Al → List V
  | [] => []
  | a :: r => Al.row a ++ rowsA r
theorem rowsA_len (R : List Al) : (rowsA R).length = R.length * 3 := by
  induction R with
  | nil => rfl
  | cons a r ih => simp only [rowsA, List.length_append, ih, Al.row, List.length_cons, List.length_nil]; omega
theorem rowsA_app (R Q : List Al) : rowsA (R ++ Q) = rowsA R ++ rowsA Q := by
  induction R with
  | nil => rfl
  | cons a r ih => simp only [List.cons_append, rowsA, ih, List.append_assoc]
theorem rowsA_drop (R : List Al) (i : Nat) : (rowsA R).drop (i * 3) = rowsA (R.drop i) := by
  induction R generalizing i with
  | nil => simp [rowsA]
  | cons a r ih =>
    cases i with
    | zero => simp
    | succ i =>
      rw [show (i + 1) * 3 = i * 3 + 3 by omega]
      simp only [rowsA, Al.row, List.cons_append, List.nil_append, List.drop_succ_cons, ih]
theorem rowsA_take (R : List Al) (i : Nat) : (rowsA R).take (i * 3) = rowsA (R.take i) := by
  induction R generalizing i with
  | nil => simp [rowsA]
  | cons a r ih =>
    cases i with
    | zero => simp [rowsA]
    | succ i =>
      rw [show (i + 1) * 3 = i * 3 + 3 by omega]
      simp only [rowsA, Al.row, List.cons_append, List.nil_append, List.take_succ_cons, ih]
theorem rowsA_at {R : List Al} {i : Nat} {a : Al} (h : R[i]? = some a) : List.take 3 (List.drop (0 + i * 3) (rowsA R)) = Al.row a := by
  rw [Nat.zero_add, rowsA_drop]
  obtain ⟨hi, rfl⟩ := List.getElem?_eq_some_iff.1 h
  rw [List.drop_eq_getElem_cons hi]
  rfl
theorem rowsA_dr {R : List Al} {i : Nat} {a : Al} (h : R[i]? = some a) : List.drop (i * 3) (rowsA R) = u8 a.lv :: i64 a.un :: u8 a.ev :: rowsA (R.drop (i + 1)) := by
  rw [rowsA_drop]
  obtain ⟨hi, rfl⟩ := List.getElem?_eq_some_iff.1 h
  rw [List.drop_eq_getElem_cons hi]
  rfl
theorem rowsA_put {R : List Al} {i : Nat} (h : i < R.length) (b : Al) (one : Bool) : putC one (rowsA R) (0 + i * 3) (Al.row b) = rowsA (R.set i b) := by
  rw [putC_eq (by rw [rowsA_len]; show 0 + i * 3 + 3 ≤ _; omega), Nat.zero_add]
  unfold putAt
  rw [rowsA_take, show i * 3 + (Al.row b).length = (i + 1) * 3 by show i * 3 + 3 = _; omega, rowsA_drop, List.set_eq_take_append_cons_drop, if_pos h, rowsA_app]
  rfl
/-- What is kept. -/
theorem con_keep (a : Al) : Con Tryd.prog 51 [] [a.v] [] (vb (!a.ok)) := by
  have c := con_aright a.lv a.un a.ev
  unfold Al.v Al.row Al.ok
  refine Con.of (C := ⟨Tryd.prog, tc, Tryd.f51.ntmps⟩) [] tcok Tryd.func51 rfl rfl (by kernel_rfl) (by kernel_rfl) ?_
  refine AWP.seq ?_
  refine AWP.regionT tcok hmix [] [1, 2] [1] (os := []) (s' := St.mk [(1, tp (V.ptr 1 0)), (2, tp (vb false))] [(1, Blk.mk [u8 a.lv, i64 a.un, u8 a.ev] true 3 none)]) (by kernel_rfl) trivial ?_
  refine xe1 (os := [Con Tryd.prog 38 [] [V.agg true [u8 a.lv, i64 a.un, u8 a.ev]] [] (vb (aright a.lv a.un))]) [(1, ⟨none, some ⟨vb (aright a.lv a.un), [], []⟩⟩)] [2] [] (by kernel_rfl) ⟨(c ), trivial⟩ ?_
  refine AWP.ret ?_
  refine ⟨Or.inr rfl, Eq.trans (b := some ([], vb !aright a.lv a.un)) (by kernel_rfl) ?_⟩
  rfl
theorem con_cmp (a b : Al) (ha : 0 ≤ a.lv ∧ a.lv < 256) (hb : 0 ≤ b.lv ∧ b.lv < 256) : Con Tryd.prog 53 [] [a.v, b.v] [] (i64 (b.lv - a.lv)) := by
  unfold Al.v Al.row
  refine Con.of (C := ⟨Tryd.prog, tc, Tryd.f53.ntmps⟩) [] tcok Tryd.func53 rfl rfl (by kernel_rfl) (by kernel_rfl) ?_
  refine AWP.seq ?_
  refine AWP.regionT tcok hmix [] [2, 3, 4] [2, 3] (os := []) (s' := St.mk [(2, tp (V.ptr 2 0)), (3, tp (V.ptr 3 0)), (4, tp (i64 0))] [(2, Blk.mk [u8 a.lv, i64 a.un, u8 a.ev] true 3 none), (3, Blk.mk [u8 b.lv, i64 b.un, u8 b.ev] true 3 none)]) (by kernel_rfl) trivial ?_
  refine xe1 (os := [i64 (IntKind.wrap IntKind.i64 b.lv) = i64 b.lv, i64 (IntKind.wrap IntKind.i64 a.lv) = i64 a.lv, i64 (IntKind.wrap IntKind.i64 (b.lv - a.lv)) = i64 (b.lv - a.lv)]) [(2, ⟨some (i64 b.lv), none⟩), (5, ⟨some (i64 a.lv), none⟩), (6, ⟨some (i64 (b.lv - a.lv)), none⟩)] [4] [] (by kernel_rfl) ⟨(wr_i64 (by omega) (by omega)), (wr_i64 (by omega) (by omega)), (wr_i64 (by omega) (by omega)), trivial⟩ ?_
  refine AWP.ret ?_
  refine ⟨Or.inr rfl, Eq.trans (b := some ([], i64 (b.lv - a.lv))) (by kernel_rfl) ?_⟩
  rfl
/-- The first one that isn't kept. -/
def fst (R : List Al) : Nat := match R with
  | [] => 0
  | a :: r => if a.ok then fst r + 1 else 0
theorem fst_le : ∀ R : List Al, fst R ≤ R.length
  | [] => Nat.le_refl _
  | a :: r => by
    have := fst_le r
    simp only [fst, List.length_cons]
    split <;> omega
theorem fst_at : ∀ {R : List Al} {i : Nat} {a : Al}, R[i]? = some a → i ≤ fst R → (a.ok = true → i + 1 ≤ fst R) ∧ (a.ok = false → fst R = i)
  | [], _, _, h, _ => by simp at h
  | b :: r, 0, a, h, _ => by
    simp at h
    subst h
    refine ⟨fun e => ?_, fun e => ?_⟩
    · simp only [fst, e, if_true]; omega
    · simp [fst, e]
  | b :: r, i + 1, a, h, hi => by
    simp only [fst] at hi ⊢
    split at hi
    · rename_i hb
      rw [if_pos hb]
      have := fst_at (R := r) (i := i) (by simpa using h) (by omega)
      exact ⟨fun e => by have := this.1 e; omega, fun e => by have := this.2 e; omega⟩
    · omega
theorem con_idx (R : List Al) (n : Nat) (hn : R.length = n) (hm : n ≤ 1000000) (x : Int) (hx : (if fst R < n then ((fst R : Nat) : Int) else -1) = x) : Con Tryd.prog 57 [] [.vs (rowsA R) n, .val (.func (.func 51) #[] #[])] [] (i64 x) := by
  refine Con.of (C := ⟨Tryd.prog, tc, Tryd.f57.ntmps⟩) [] tcok Tryd.func57 rfl rfl (by kernel_rfl) (by kernel_rfl) ?_
  refine AWP.seq ?_
  refine AWP.regionT tcok hmix [] [0, 1, 4] [] (os := []) (s' := St.mk [(0, tp (V.vs (rowsA R) n)), (1, tp (V.val (Value.func (Fn.func 51) (Array.mk []) (Array.mk [])))), (4, tp (i64 0))] []) (by kernel_rfl) trivial ?_
  refine AWP.seq ?_
  refine xe0 [0, 1, 4, 7, 8] [] (by kernel_rfl) ?_
  refine AWP.block ?_
  refine AWP.loopI [8, 7, 1, 0, 4] [] (fun N s' => ∃ i : Int, s' = St.mk [(0, T.plain (V.vs (rowsA R) n)), (1, T.plain (V.val (Value.func (Fn.func 51) #[] #[]))), (4, T.plain (i64 0)), (7, T.plain (i64 (n : Int))), (8, T.plain (i64 i))] [] ∧ 0 ≤ i ∧ i ≤ n ∧ i.toNat ≤ fst R ∧ (N : Int) = n - i) n (s0 := St.mk [(0, T.plain (V.vs (rowsA R) n)), (1, T.plain (V.val (Value.func (Fn.func 51) #[] #[]))), (4, T.plain (i64 0)), (7, T.plain (i64 (n : Int))), (8, T.plain (i64 0))] []) (by kernel_rfl) ?_ ?_
  · exact ⟨0, rfl, by omega, by omega, by simp, by omega⟩
  rintro N s' ⟨i, rfl, hi, hi2, hf, hN⟩
  have hfl := fst_le R
  by_cases hlt : i < n
  · obtain ⟨a, ha⟩ : ∃ a, R[i.toNat]? = some a := ⟨_, List.getElem?_eq_getElem (by omega)⟩
    have hd := rowsA_dr ha
    obtain ⟨f1, f2⟩ := fst_at ha hf
    have c := con_keep a
    cases hok : a.ok with
    | true =>
      rw [hok] at c
      have f1 := f1 hok
      refine AWP.seq ?_
      refine AWP.regionT tcok hmix [] [0, 1, 4, 7, 8, 9] [] (os := []) (s' := St.mk [(0, tp (V.vs (rowsA R) n)), (1, tp (V.val (Value.func (Fn.func 51) (Array.mk []) (Array.mk [])))), (4, tp (i64 0)), (7, tp (i64 (↑n : Int))), (8, tp (i64 i)), (9, tp (vb (decide (i < (↑n : Int)))))] []) (by kernel_rfl) trivial ?_
      refine AWP.seq ?_
      refine AWP.cond (b := decide (i < (↑n : Int))) (by kernel_rfl) (fun hq0 => ?_) (fun hq0 => ?_)
      · simp only [decide_eq_true_eq] at hq0
        refine AWP.skip ?_
        refine AWP.seq ?_
        refine AWP.block ?_
        refine AWP.seq ?_
        refine AWP.regionT tcok hmix [] [0, 1, 4, 5, 7, 8] [] (os := []) (s' := St.mk [(0, tp (V.vs (rowsA R) n)), (1, tp (V.val (Value.func (Fn.func 51) (Array.mk []) (Array.mk [])))), (4, tp (i64 0)), (5, tp (i64 i)), (7, tp (i64 (↑n : Int))), (8, tp (i64 i))] []) (by kernel_rfl) trivial ?_
        refine xe1 (os := [(0 : Int) ≤ i ∧ i < (↑n : Int), V.vp (List.drop (Int.toNat i * 3) (rowsA R)) = V.vp (u8 a.lv :: i64 a.un :: u8 a.ev :: rowsA (List.drop (Int.toNat i + 1) R)), Con Tryd.prog 51 [] [V.agg true [u8 a.lv, i64 a.un, u8 a.ev]] [] (vb false)]) [(3, ⟨some (V.vp (u8 a.lv :: i64 a.un :: u8 a.ev :: rowsA (List.drop (Int.toNat i + 1) R))), none⟩), (5, ⟨some (V.tup []), some ⟨vb !true, [], []⟩⟩)] [0, 1, 4, 5, 7, 8, 16] [] (by kernel_rfl) ⟨(by omega), (congrArg V.vp hd), (c ), trivial⟩ ?_
        refine AWP.condF (by kernel_rfl) ?_
        refine AWP.skip ?_
        refine AWP.region tcok hmix [(0, ⟨some (i64 (i + 1)), none⟩)] (os := [i64 (IntKind.wrap IntKind.i64 (i + 1)) = i64 (i + 1)]) (sf := St.mk [(0, tp (V.vs (rowsA R) n)), (1, tp (V.val (Value.func (Fn.func 51) (Array.mk []) (Array.mk [])))), (4, tp (i64 0)), (5, tp (i64 i)), (7, tp (i64 (↑n : Int))), (8, tp (i64 (i + 1))), (16, tp (vb false)), (18, tp (i64 (i + 1)))] []) (by kernel_rfl) ⟨(wr_i64 (by omega) (by omega)), trivial⟩ ?_
        refine ⟨St.mk [(0, tp (V.vs (rowsA R) n)), (1, tp (V.val (Value.func (Fn.func 51) (Array.mk []) (Array.mk [])))), (4, tp (i64 0)), (7, tp (i64 (↑n : Int))), (8, tp (i64 (i + 1)))] [], by kernel_rfl, ?_⟩
        first | (exact ⟨(n - (i + 1)).toNat, (by omega), i + 1, rfl, (by omega), (by omega), (by omega), (by omega)⟩) | (exfalso; omega)
      simp only [decide_eq_false_iff_not] at hq0
      (exfalso; omega)
    | false =>
      rw [hok] at c
      have f2 := f2 hok
      rw [if_pos (by omega), f2, Int.toNat_of_nonneg hi] at hx
      subst hx
      refine AWP.seq ?_
      refine AWP.regionT tcok hmix [] [0, 1, 4, 7, 8, 9] [] (os := []) (s' := St.mk [(0, tp (V.vs (rowsA R) n)), (1, tp (V.val (Value.func (Fn.func 51) (Array.mk []) (Array.mk [])))), (4, tp (i64 0)), (7, tp (i64 (↑n : Int))), (8, tp (i64 i)), (9, tp (vb (decide (i < (↑n : Int)))))] []) (by kernel_rfl) trivial ?_
      refine AWP.seq ?_
      refine AWP.cond (b := decide (i < (↑n : Int))) (by kernel_rfl) (fun hq2 => ?_) (fun hq2 => ?_)
      · simp only [decide_eq_true_eq] at hq2
        refine AWP.skip ?_
        refine AWP.seq ?_
        refine AWP.block ?_
        refine AWP.seq ?_
        refine AWP.regionT tcok hmix [] [0, 1, 4, 5, 7, 8] [] (os := []) (s' := St.mk [(0, tp (V.vs (rowsA R) n)), (1, tp (V.val (Value.func (Fn.func 51) (Array.mk []) (Array.mk [])))), (4, tp (i64 0)), (5, tp (i64 i)), (7, tp (i64 (↑n : Int))), (8, tp (i64 i))] []) (by kernel_rfl) trivial ?_
        refine xe1 (os := [(0 : Int) ≤ i ∧ i < (↑n : Int), V.vp (List.drop (Int.toNat i * 3) (rowsA R)) = V.vp (u8 a.lv :: i64 a.un :: u8 a.ev :: rowsA (List.drop (Int.toNat i + 1) R)), Con Tryd.prog 51 [] [V.agg true [u8 a.lv, i64 a.un, u8 a.ev]] [] (vb true)]) [(3, ⟨some (V.vp (u8 a.lv :: i64 a.un :: u8 a.ev :: rowsA (List.drop (Int.toNat i + 1) R))), none⟩), (5, ⟨some (V.tup []), some ⟨vb !false, [], []⟩⟩)] [0, 1, 4, 5, 7, 8, 16] [] (by kernel_rfl) ⟨(by omega), (congrArg V.vp hd), (c ), trivial⟩ ?_
        refine AWP.condT (by kernel_rfl) ?_
        refine xe0 [0, 1, 4, 7, 8] [] (by kernel_rfl) ?_
        refine AWP.ret ?_
        refine ⟨Or.inr rfl, Eq.trans (b := some ([], i64 i)) (by kernel_rfl) ?_⟩
        first | rfl | (exfalso; omega)
      simp only [decide_eq_false_iff_not] at hq2
      (exfalso; omega)
  have hin : i = n := by omega
  subst hin
  rw [if_neg (by omega)] at hx
  subst hx
  refine AWP.seq ?_
  refine AWP.regionT tcok hmix [] [0, 1, 4, 7, 8, 9] [] (os := []) (s' := St.mk [(0, tp (V.vs (rowsA R) n)), (1, tp (V.val (Value.func (Fn.func 51) (Array.mk []) (Array.mk [])))), (4, tp (i64 0)), (7, tp (i64 (↑n : Int))), (8, tp (i64 (↑n : Int))), (9, tp (vb (decide ((↑n : Int) < (↑n : Int)))))] []) (by kernel_rfl) trivial ?_
  refine AWP.seq ?_
  refine AWP.cond (b := decide ((↑n : Int) < (↑n : Int))) (by kernel_rfl) (fun hq4 => ?_) (fun hq4 => ?_)
  · simp only [decide_eq_true_eq] at hq4
    (exfalso; omega)
  simp only [decide_eq_false_iff_not] at hq4
  refine AWP.exit ?_
  refine AWP.seq ?_
  refine AWP.regionT tcok hmix [] [4] [] (os := []) (s' := St.mk [(4, tp (i64 (-1)))] []) (by kernel_rfl) trivial ?_
  refine AWP.ret ?_
  refine ⟨Or.inr rfl, Eq.trans (b := some ([], i64 (-1))) (by kernel_rfl) ?_⟩
  first | rfl | (exfalso; omega)
end Go.Proofs.YtklbonfbiakebaaDoor
