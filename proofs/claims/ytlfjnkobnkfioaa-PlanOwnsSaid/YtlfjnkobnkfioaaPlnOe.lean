/- PlanOwns, of any arguments. -/
import Derived.Test.YtlfjnkobnkfioaaPlnOd
namespace Go.Proofs.Ytlfjnkobnkfioaa
open Go.Ab
set_option maxRecDepth 100000
set_option linter.unusedSimpArgs false
set_option linter.unusedVariables false
theorem bytO_rows {rows : List (List V)} (h : ∀ r ∈ rows, ∃ z : Int, r = [u8 z] ∧ 0 ≤ z ∧ z ≤ 255) : ∃ l : List Int, rows.flatten = u8s l ∧ l.length = rows.length := by
  induction rows with
  | nil => exact ⟨[], rfl, rfl⟩
  | cons r t ih =>
    obtain ⟨l, g1, g2⟩ := ih fun r hr => h r (List.mem_cons_of_mem _ hr)
    obtain ⟨z, rfl, _⟩ := h r (List.mem_cons_self ..)
    exact ⟨z :: l, by rw [List.flatten_cons, g1]; rfl, by simp [g2]⟩
theorem law_PlanOwns (x y : V) (hx : TyV tc 9 61 x) (hy : TyV tc 9 88 y) : Con Try.prog 10 [] [x, y] [] (vb true) := by
  obtain ⟨cs, n, e1, hn, rows, r1, r2, r3⟩ := hx
  obtain ⟨l, g1, g2⟩ := bytO_rows (fun r hr => by obtain ⟨z, rfl, z1, z2⟩ := r3 r hr; exact ⟨z, rfl, z1, z2⟩)
  cases e1
  rw [r2, g1]
  obtain ⟨xs, rfl, hr⟩ := hy
  obtain ⟨_, _, rfl, ⟨d, rfl, d1, d2⟩, _, _, rfl, ⟨t, rfl, t1, t2⟩, _, _, rfl, ⟨id, rfl, i1, i2⟩, _, _, rfl, ⟨cs, k, rfl, hk, rows, q1, rfl, q3⟩, _, _, rfl, ⟨b, rfl, b1, b2⟩, _, _, rfl, ⟨on, rfl⟩, rfl⟩ := hr
  obtain ⟨c, e1, e2⟩ := bytO_rows q3
  rw [e1]
  exact law_owns l n (by omega) hn d t id b ⟨d1, Int.lt_add_one_of_le d2⟩ c k (by omega) hk on
end Go.Proofs.Ytlfjnkobnkfioaa
