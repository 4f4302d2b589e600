/- An insertion sort by levels, in plain words. -/
import Derived.Sort.Defs
namespace Go.Proofs.YtklbonfbiakebaaDoor
set_option linter.unusedSimpArgs false
set_option linter.unusedVariables false
set_option linter.unusedSectionVars false
set_option linter.unnecessarySimpa false
open Go.Sort
section
variable {α : Type} [Inhabited α] (lt : α → α → Bool)
/-- x comes in from the right: r is what stands left of it, the nearest first. -/
def insRev : List α → α → List α → List α
  | [], x, t => x :: t
  | y :: r, x, t => if lt x y then insRev r x (y :: t) else r.reverse ++ y :: x :: t
theorem get_app (A : List α) (x : α) (B : List α) : (A ++ x :: B).toArray[A.length]! = x := by
  simp [getElem!_def]
theorem insInner_list : ∀ (r : List α) (x : α) (t : List α), insInner lt 0 r.length (r.reverse ++ x :: t).toArray = (insRev lt r x t).toArray
  | [], x, t => by simp [insInner, insRev]
  | y :: r, x, t => by
    have e1 : ((y :: r).reverse ++ x :: t).toArray[r.length + 1]! = x := by
      have := get_app ((y :: r).reverse) x t
      simpa using this
    have e2 : ((y :: r).reverse ++ x :: t).toArray[r.length]! = y := by
      have := get_app r.reverse y (x :: t)
      simpa using this
    rw [List.length_cons, insInner, e1, e2]
    by_cases h : lt x y = true
    · have e3 : swp ((y :: r).reverse ++ x :: t).toArray (r.length + 1) r.length = (r.reverse ++ x :: y :: t).toArray := by
        unfold swp
        rw [e1, e2]
        have q1 : ((y :: r).reverse ++ x :: t).set (r.length + 1) y = (y :: r).reverse ++ y :: t := by
          rw [List.set_append_right _ _ (by simp)]
          simp
        have q2 : ((y :: r).reverse ++ y :: t).set r.length x = r.reverse ++ x :: y :: t := by
          rw [List.reverse_cons, List.append_assoc, List.set_append_right _ _ (by simp)]
          simp
        have q3 : ((y :: r).reverse ++ x :: t).toArray.setIfInBounds (r.length + 1) y = ((y :: r).reverse ++ y :: t).toArray := by rw [List.setIfInBounds_toArray, q1]
        rw [q3, List.setIfInBounds_toArray, q2]
      simp only [h, Nat.zero_lt_succ, decide_true, Bool.and_true, gt_iff_lt, if_true]
      rw [e3, insInner_list r x (y :: t)]
      simp [insRev, h]
    · simp [h, insRev]
/-- The whole sort, on lists. -/
def sortL : List α → List α → List α
  | s, [] => s
  | s, x :: t => sortL (insRev lt s.reverse x []) t
theorem insRev_app : ∀ (r : List α) (x : α) (t u : List α), insRev lt r x (t ++ u) = insRev lt r x t ++ u
  | [], x, t, u => rfl
  | y :: r, x, t, u => by
    unfold insRev
    split
    · rw [← List.cons_append, insRev_app r x (y :: t) u]
    · simp
theorem insRev_len : ∀ (r : List α) (x : α) (t : List α), (insRev lt r x t).length = r.length + 1 + t.length
  | [], x, t => by simp [insRev]; omega
  | y :: r, x, t => by
    unfold insRev
    split
    · rw [insRev_len r x (y :: t)]; simp; omega
    · simp; omega
theorem insOuter_list : ∀ (t s : List α), insOuter lt 0 (s.length + t.length) s.length (s ++ t).toArray = (sortL lt s t).toArray
  | [], s => by
    unfold insOuter
    simp [sortL]
  | x :: t, s => by
    unfold insOuter
    rw [if_pos (by simp)]
    have e := insInner_list lt s.reverse x t
    rw [List.length_reverse, List.reverse_reverse] at e
    rw [e]
    have e2 := insRev_app lt s.reverse x [] t
    rw [List.nil_append] at e2
    rw [e2]
    have hl : (insRev lt s.reverse x []).length = s.length + 1 := by rw [insRev_len]; simp
    have ih := insOuter_list t (insRev lt s.reverse x [])
    rw [hl] at ih
    rw [List.length_cons, show s.length + (t.length + 1) = s.length + 1 + t.length by omega]
    exact ih
theorem sort_list (x : α) (t : List α) : insertionSort lt (x :: t).toArray 0 (x :: t).length = (sortL lt [x] t).toArray := by
  have := insOuter_list lt t [x]
  unfold insertionSort
  rw [List.length_cons, show t.length + 1 = [x].length + t.length by simp; omega]
  exact this
end
/-! Levels: the greatest first, as they stand. -/
section
variable {α : Type} [Inhabited α] (lev : α → Nat)
def byLev (l : List α) : Nat → List α
  | 0 => []
  | n + 1 => (l.filter fun a => lev a == n) ++ byLev l n
def ltLev (x y : α) : Bool := decide (lev y < lev x)
theorem byLev_lt (l : List α) (n : Nat) : ∀ a ∈ byLev lev l n, lev a < n := by
  induction n with
  | zero => intro a ha; cases ha
  | succ n ih =>
    intro a ha
    simp only [byLev, List.mem_append, List.mem_filter, beq_iff_eq] at ha
    rcases ha with ha | ha
    · omega
    · have := ih a ha; omega
/-- x passes all that are of lower levels, and stops behind the others. -/
theorem insRev_pass (x : α) : ∀ (r : List α) (t : List α) (s : List α), (∀ a ∈ r, lev a < lev x) → insRev (ltLev lev) (r ++ s) x t = insRev (ltLev lev) s x (r.reverse ++ t)
  | [], t, s, _ => rfl
  | y :: r, t, s, h => by
    have hy : ltLev lev x y = true := by simp [ltLev, h y]
    rw [List.cons_append, insRev, if_pos hy, insRev_pass x r (y :: t) s (fun a ha => h a (List.mem_cons_of_mem _ ha))]
    simp
theorem insRev_stop (x : α) (s t : List α) (h : ∀ a ∈ s, lev x ≤ lev a) : insRev (ltLev lev) s x t = s.reverse ++ x :: t := by
  cases s with
  | nil => rfl
  | cons y r =>
    have hy : ltLev lev x y = false := by
      have := h y (List.mem_cons_self ..)
      simp [ltLev]
      omega
    rw [insRev, hy]
    simp
theorem byLev_snoc (l : List α) (x : α) : ∀ n, lev x < n → ∃ hi lo, byLev lev l n = hi ++ lo ∧ byLev lev (l ++ [x]) n = hi ++ x :: lo ∧ (∀ a ∈ hi, lev x ≤ lev a) ∧ (∀ a ∈ lo, lev a < lev x)
  | 0, h => by omega
  | n + 1, h => by
    by_cases e : lev x = n
    · refine ⟨l.filter fun a => lev a == n, byLev lev l n, rfl, ?_, fun a ha => ?_, fun a ha => ?_⟩
      · have e2 : byLev lev (l ++ [x]) n = byLev lev l n := by
          have : ∀ m, m ≤ n → byLev lev (l ++ [x]) m = byLev lev l m := by
            intro m
            induction m with
            | zero => intro _; rfl
            | succ m ih =>
              intro hm
              simp only [byLev, List.filter_append]
              rw [ih (by omega)]
              have : (lev x == m) = false := by simp; omega
              simp [this]
          exact this n (Nat.le_refl _)
        simp only [byLev, List.filter_append, e2]
        simp [e]
      · have := (List.mem_filter.1 ha).2
        simp at this
        omega
      · have := byLev_lt lev l n a ha
        omega
    · obtain ⟨hi, lo, h1, h2, h3, h4⟩ := byLev_snoc l x n (by omega)
      refine ⟨(l.filter fun a => lev a == n) ++ hi, lo, ?_, ?_, fun a ha => ?_, h4⟩
      · simp only [byLev, h1, List.append_assoc]
      · have : (lev x == n) = false := by simpa using e
        simp only [byLev, List.filter_append, h2]
        simp [this]
      · rcases List.mem_append.1 ha with ha | ha
        · have := (List.mem_filter.1 ha).2
          simp at this
          omega
        · exact h3 a ha
theorem ins_byLev (l : List α) (x : α) (n : Nat) (h : lev x < n) : insRev (ltLev lev) (byLev lev l n).reverse x [] = byLev lev (l ++ [x]) n := by
  obtain ⟨hi, lo, h1, h2, h3, h4⟩ := byLev_snoc lev l x n h
  rw [h1, h2, List.reverse_append, insRev_pass lev x lo.reverse [] hi.reverse (fun a ha => h4 a (List.mem_reverse.1 ha)), insRev_stop lev x _ _ (fun a ha => h3 a (List.mem_reverse.1 ha))]
  simp
theorem sortL_byLev (n : Nat) : ∀ (t l : List α), (∀ a ∈ t, lev a < n) → sortL (ltLev lev) (byLev lev l n) t = byLev lev (l ++ t) n
  | [], l, _ => by simp [sortL]
  | x :: t, l, h => by
    rw [sortL, ins_byLev lev l x n (h x (List.mem_cons_self ..)), sortL_byLev n t (l ++ [x]) (fun a ha => h a (List.mem_cons_of_mem _ ha))]
    simp
theorem byLev_nil (n : Nat) : byLev lev ([] : List α) n = [] := by
  induction n with
  | zero => rfl
  | succ n ih => simp [byLev, ih]
/-- An insertion sort by levels, the greatest first: of each level, as they stand. -/
theorem sort_levels (l : List α) (n : Nat) (h : ∀ a ∈ l, lev a < n) : insertionSort (ltLev lev) l.toArray 0 l.length = (byLev lev l n).toArray := by
  cases l with
  | nil =>
    rw [byLev_nil]
    unfold insertionSort insOuter
    simp
  | cons x t =>
    rw [sort_list]
    have e : byLev lev [x] n = [x] := by
      have := ins_byLev lev ([] : List α) x n (h x (List.mem_cons_self ..))
      rw [byLev_nil] at this
      exact this.symm
    have := sortL_byLev lev n t [x] (fun a ha => h a (List.mem_cons_of_mem _ ha))
    rw [e] at this
    rw [this]
    rfl
end
end Go.Proofs.YtklbonfbiakebaaDoor
