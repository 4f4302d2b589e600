/- Chapter 04: what arguments are; BitsChanges. -/
import Derived.Test.YtmeiemdnhjnpcaaDoorBitD
namespace Go.Proofs.YtmeiemdnhjnpcaaDoor
open Go.Ab
set_option linter.unusedSimpArgs false
set_option linter.unusedVariables false
theorem u16_of {x : V} (h : TyV tc 9 22 x) : ∃ n : Int, x = u16 n ∧ 0 ≤ n ∧ n < 65536 := by
  obtain ⟨n, e, a1, a2⟩ := h
  cases e
  exact ⟨n, rfl, a1, Int.lt_add_one_of_le a2⟩
theorem set_of {x : V} (h : TyV tc 9 23 x) : ∃ n : Int, x = u16 n ∧ 0 ≤ n ∧ n < 65536 := by
  obtain ⟨n, e, a1, a2⟩ := h
  cases e
  exact ⟨n, rfl, a1, Int.lt_add_one_of_le a2⟩
theorem i64_of {x : V} (h : TyV tc 9 3 x) : ∃ n : Int, x = i64 n ∧ -9223372036854775808 ≤ n ∧ n ≤ 9223372036854775807 := by
  obtain ⟨n, e, a1, a2⟩ := h
  cases e
  exact ⟨n, rfl, a1, a2⟩
theorem u8_of {x : V} (h : TyV tc 9 5 x) : ∃ n : Int, x = u8 n ∧ 0 ≤ n ∧ n < 256 := by
  obtain ⟨n, e, a1, a2⟩ := h
  cases e
  exact ⟨n, rfl, a1, Int.lt_add_one_of_le a2⟩
theorem flat_one : ∀ (rows : List (List V)), (∀ r ∈ rows, Ty tc 8 3 r) → I64L rows.flatten ∧ rows.flatten.length = rows.length
  | [], _ => ⟨fun x hx => (by cases hx), rfl⟩
  | r :: rs, h => by
    obtain ⟨z, rfl, a1, a2⟩ := h r (List.mem_cons_self ..)
    obtain ⟨h1, h2⟩ := flat_one rs (fun q hq => h q (List.mem_cons_of_mem _ hq))
    refine ⟨fun x hx => ?_, by simp [h2]⟩
    simp only [List.flatten_cons, List.cons_append, List.nil_append, List.mem_cons] at hx
    rcases hx with rfl | hx
    · exact ⟨z, rfl, a1, a2⟩
    · exact h1 x hx
theorem ints_of {x : V} (h : TyV tc 9 24 x) : ∃ (cs : List V) (n : Nat), x = .vs cs n ∧ I64L cs ∧ cs.length = n ∧ n ≤ 9223372036854775807 := by
  obtain ⟨cs, n, e, hk, rows, h1, h2, h3⟩ := h
  cases e
  obtain ⟨q1, q2⟩ := flat_one rows h3
  subst h2
  exact ⟨_, n, rfl, q1, by rw [q2, h1], hk⟩
theorem law_BitsChanges (x y z : V) (hx : TyV tc 9 23 x) (hy : TyV tc 9 24 y) (hz : TyV tc 9 3 z) : Con Tryd.prog 3 [] [x, y, z] [] (vb true) := by
  obtain ⟨s, rfl, h1⟩ := set_of hx
  obtain ⟨cs, n, rfl, h2, h3, h4⟩ := ints_of hy
  obtain ⟨i, rfl, h5⟩ := i64_of hz
  exact law_changes s i cs _ _ n _ _ h1 h2 h3 h4 rfl rfl rfl rfl
end Go.Proofs.YtmeiemdnhjnpcaaDoor
