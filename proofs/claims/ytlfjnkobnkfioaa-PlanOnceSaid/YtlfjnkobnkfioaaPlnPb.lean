/- PlanOnce, of any arguments. -/
import Derived.Test.YtlfjnkobnkfioaaPlnP
namespace Go.Proofs.Ytlfjnkobnkfioaa
open Go.Ab
set_option maxRecDepth 100000
set_option linter.unusedSimpArgs false
set_option linter.unusedVariables false
theorem bytQ_rows {rows : List (List V)} (h : ∀ r ∈ rows, ∃ z : Int, r = [u8 z] ∧ 0 ≤ z ∧ z < 256) : ∃ l : List Int, rows.flatten = u8s l ∧ l.length = rows.length ∧ BL l := by
  induction rows with
  | nil => exact ⟨[], rfl, rfl, fun x h => by cases h⟩
  | cons r t ih =>
    obtain ⟨l, g1, g2, g3⟩ := ih fun r hr => h r (List.mem_cons_of_mem _ hr)
    obtain ⟨z, rfl, hz⟩ := h r (List.mem_cons_self ..)
    refine ⟨z :: l, by rw [List.flatten_cons, g1]; rfl, by simp [g2], fun x hx => ?_⟩
    rcases List.mem_cons.1 hx with rfl | hx
    · exact hz
    · exact g3 x hx
theorem law_PlanOnce (x y : V) (hx : TyV tc 9 61 x) (hy : TyV tc 9 5 y) : Con Try.prog 6 [] [x, y] [] (vb true) := by
  obtain ⟨cs, n, e1, hn, rows, r1, r2, r3⟩ := hx
  obtain ⟨l, g1, g2, g3⟩ := bytQ_rows (fun r hr => by obtain ⟨z, rfl, z1, z2⟩ := r3 r hr; exact ⟨z, rfl, z1, Int.lt_add_one_of_le z2⟩)
  cases e1
  rw [r2, g1]
  obtain ⟨s, e2, q1, q2⟩ := hy
  cases e2
  exact law_once l n (by omega) hn g3 s ⟨q1, Int.lt_add_one_of_le q2⟩
end Go.Proofs.Ytlfjnkobnkfioaa
