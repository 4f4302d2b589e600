/- Plans that are sorted: plain laws. -/
import Derived.Test.YtlfjnkobnkfioaaPlnR
namespace Go.Proofs.Ytlfjnkobnkfioaa
open Go.Ab
set_option linter.unusedSimpArgs false
set_option linter.unusedVariables false
theorem insI_len (a : It) (L : List It) : (insI a L).length = L.length + 1 := by
  have := posI_le a.t L
  simp only [insI, List.length_append, List.length_take, List.length_drop, List.length_cons, List.length_nil]
  omega
theorem insI_cons (a b : It) (L : List It) : insI a (b :: L) = if b.t ≤ a.t then b :: insI a L else a :: b :: L := by
  unfold insI
  simp only [posI]
  split
  · simp
  · simp
theorem insI_mem (a : It) : ∀ (L : List It) (x : It), x ∈ insI a L → x = a ∨ x ∈ L
  | [], x, h => by
    simp [insI] at h
    exact .inl h
  | b :: L, x, h => by
    rw [insI_cons] at h
    split at h
    · rcases List.mem_cons.1 h with rfl | h
      · exact .inr (List.mem_cons_self ..)
      · rcases insI_mem a L x h with h | h
        · exact .inl h
        · exact .inr (List.mem_cons_of_mem _ h)
    · rcases List.mem_cons.1 h with h | h
      · exact .inl h
      · exact .inr h
theorem insI_sort (a : It) : ∀ (L : List It), SortI L → SortI (insI a L)
  | [], _ => List.pairwise_singleton _ _
  | b :: L, h => by
    obtain ⟨h1, h2⟩ := List.pairwise_cons.1 h
    rw [insI_cons]
    split
    · rename_i hb
      refine List.pairwise_cons.2 ⟨fun x hx => ?_, insI_sort a L h2⟩
      rcases insI_mem a L x hx with rfl | hx
      · exact hb
      · exact h1 x hx
    · rename_i hb
      refine List.pairwise_cons.2 ⟨fun x hx => ?_, h⟩
      rcases List.mem_cons.1 hx with rfl | hx
      · omega
      · have := h1 x hx
        omega
def idsR (k : Nat) : List Int := (List.range k).map fun j : Nat => (j : Int)
theorem idsR_next (k : Nat) : idsR k ++ [(k : Int)] = idsR (k + 1) := by
  unfold idsR
  rw [List.range_succ, List.map_append]
  rfl
theorem idsR_new (k : Nat) : (k : Int) ∉ idsR k := fun h => by
  obtain ⟨j, hj, e⟩ := List.mem_map.1 h
  have := List.mem_range.1 hj
  omega
end Go.Proofs.Ytlfjnkobnkfioaa
