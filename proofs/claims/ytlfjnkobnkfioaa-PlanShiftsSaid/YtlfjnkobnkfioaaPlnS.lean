/- Plans that are sorted: plain laws. -/
import Derived.Test.YtlfjnkobnkfioaaPlnR
namespace Go.Proofs.Ytlfjnkobnkfioaa
open Go.Ab
set_option linter.unusedSimpArgs false
set_option linter.unusedVariables false
theorem insI_len (a : It) (L : List It) : (insI a L).length = L.length + 1 := by
  have := posI_le a.t L
  simp only [insI, List.length_append, List.length_take, List.length_drop, List.length_cons, List.length_nil]
  omega
theorem insI_cons (a b : It) (L : List It) : insI a (b :: L) = if b.t ≤ a.t then b :: insI a L else a :: b :: L := by
  unfold insI
  simp only [posI]
  split
  · simp
  · simp
theorem insI_mem (a : It) : ∀ (L : List It) (x : It), x ∈ insI a L → x = a ∨ x ∈ L
  | [], x, h => by
    simp [insI] at h
    exact .inl h
  | b :: L, x, h => by
    rw [insI_cons] at h
    split at h
    · rcases List.mem_cons.1 h with rfl | h
      · exact .inr (List.mem_cons_self ..)
      · rcases insI_mem a L x h with h | h
        · exact .inl h
        · exact .inr (List.mem_cons_of_mem _ h)
    · rcases List.mem_cons.1 h with h | h
      · exact .inl h
      · exact .inr h
theorem insI_sort (a : It) : ∀ (L : List It), SortI L → SortI (insI a L)
  | [], _ => List.pairwise_singleton _ _
  | b :: L, h => by
    obtain ⟨h1, h2⟩ := List.pairwise_cons.1 h
    rw [insI_cons]
    split
    · rename_i hb
      refine List.pairwise_cons.2 ⟨fun x hx => ?_, insI_sort a L h2⟩
      rcases insI_mem a L x hx with rfl | hx
      · exact hb
      · exact h1 x hx
    · rename_i hb
      refine List.pairwise_cons.2 ⟨fun x hx => ?_, h⟩
      rcases List.mem_cons.1 hx with rfl | hx
      · omega
      · have := h1 x hx
        omega
theorem posI_drop (t : Int) : ∀ (L : List It) (k : Nat), k ≤ posI t L → posI t (L.drop k) + k = posI t L
  | [], k, h => by
    simp [posI] at h
    subst h
    rfl
  | a :: L, 0, _ => rfl
  | a :: L, k + 1, h => by
    simp only [posI] at h ⊢
    split at h
    · rename_i ha
      rw [if_pos ha, List.drop_succ_cons]
      have := posI_drop t L k (by omega)
      omega
    · omega
theorem posI_mono {s t : Int} (h : s ≤ t) : ∀ L : List It, posI s L ≤ posI t L
  | [] => Nat.le_refl _
  | a :: L => by
    simp only [posI]
    have := posI_mono h L
    split
    · rename_i ha
      rw [if_pos (by omega)]
      omega
    · omega
theorem posI_none {t : Int} : ∀ {L : List It}, (∀ a ∈ L, t < a.t) → posI t L = 0
  | [], _ => rfl
  | a :: L, h => by
    have := h a (List.mem_cons_self ..)
    simp only [posI, if_neg (show ¬ a.t ≤ t by omega)]
theorem btw_len (fr to_ : Int) (h : fr ≤ to_) : ∀ L : List It, SortI L → (keepP (pBt fr to_) L).length + posI (fr - 1) L = posI to_ L
  | [], _ => rfl
  | a :: L, hs => by
    obtain ⟨h1, h2⟩ := List.pairwise_cons.1 hs
    have ih := btw_len fr to_ h L h2
    unfold keepP at ih ⊢
    simp only [pBt] at ih
    simp only [List.filter_cons, posI, pBt]
    by_cases c1 : a.t < fr
    · rw [if_pos (show a.t ≤ fr - 1 by omega), if_pos (show a.t ≤ to_ by omega)]
      simp only [c1, decide_true, Bool.true_or, Bool.not_true, Bool.false_eq_true, if_false]
      omega
    · rw [if_neg (show ¬ a.t ≤ fr - 1 by omega)]
      by_cases c2 : a.t ≤ to_
      · rw [if_pos c2]
        have h0 : posI (fr - 1) L = 0 := posI_none fun b hb => by have := h1 b hb; omega
        rw [h0] at ih
        have e1 : decide (a.t < fr) = false := decide_eq_false c1
        have e2 : decide (a.t > to_) = false := decide_eq_false (by omega)
        simp only [e1, e2, Bool.false_or, Bool.not_false, if_true, List.length_cons]
        omega
      · rw [if_neg c2]
        have h0 : posI to_ L = 0 := posI_none fun b hb => by have := h1 b hb; omega
        have e2 : decide (a.t > to_) = true := decide_eq_true (by omega)
        simp only [e2, Bool.or_true, Bool.not_true, Bool.false_eq_true, if_false]
        omega
theorem btw_none (fr to_ : Int) (h : to_ < fr) (L : List It) : keepP (pBt fr to_) L = [] := by
  unfold keepP
  refine List.filter_eq_nil_iff.2 fun a _ => ?_
  simp only [pBt, Bool.not_eq_true', Bool.not_eq_false, Bool.or_eq_true, decide_eq_true_eq]
  omega
theorem sh_back (b : Int) (L : List It) (h : ∀ a ∈ L, 0 ≤ a.t ∧ a.t ≤ 4294967295 ∧ 0 ≤ a.t + b ∧ a.t + b ≤ 4294967295) : (L.map (shI b)).map (shI (-b)) = L := by
  rw [List.map_map]
  have e : L.map (shI (-b) ∘ shI b) = L.map id := List.map_congr_left fun a ha => by
    obtain ⟨h1, h2, h3, h4⟩ := h a ha
    have e1 : shT b a.t = a.t + b := by
      unfold shT
      simp only [Int.min_def, Int.max_def]
      (repeat' split) <;> omega
    have e2 : shT (-b) (a.t + b) = a.t := by
      unfold shT
      simp only [Int.min_def, Int.max_def]
      (repeat' split) <;> omega
    show It.mk (shT (-b) (shT b a.t)) a.id a.c a.k = a
    rw [e1, e2]
  rw [e, List.map_id]
def idsR (k : Nat) : List Int := (List.range k).map fun j : Nat => (j : Int)
theorem idsR_next (k : Nat) : idsR k ++ [(k : Int)] = idsR (k + 1) := by
  unfold idsR
  rw [List.range_succ, List.map_append]
  rfl
theorem idsR_new (k : Nat) : (k : Int) ∉ idsR k := fun h => by
  obtain ⟨j, hj, e⟩ := List.mem_map.1 h
  have := List.mem_range.1 hj
  omega
end Go.Proofs.Ytlfjnkobnkfioaa
