/- PlanPlays, of any arguments. -/
import Derived.Test.YtlfjnkobnkfioaaPlnYf
namespace Go.Proofs.Ytlfjnkobnkfioaa
open Go.Ab
set_option maxRecDepth 100000
set_option linter.unusedSimpArgs false
set_option linter.unusedVariables false
theorem byt_rows {rows : List (List V)} (h : ∀ r ∈ rows, ∃ z : Int, r = [u8 z] ∧ 0 ≤ z ∧ z ≤ 255) : ∃ l : List Int, rows.flatten = u8s l ∧ l.length = rows.length := by
  induction rows with
  | nil => exact ⟨[], rfl, rfl⟩
  | cons r t ih =>
    obtain ⟨l, g1, g2⟩ := ih fun r hr => h r (List.mem_cons_of_mem _ hr)
    obtain ⟨z, rfl, _⟩ := h r (List.mem_cons_self ..)
    exact ⟨z :: l, by rw [List.flatten_cons, g1]; rfl, by simp [g2]⟩
theorem act27_of {r : List V} (h : Ty tc 8 88 r) : ∃ a : Ac, r = Ac.row a ∧ (0 ≤ a.d ∧ a.d < 256) ∧ (0 ≤ a.t ∧ a.t ≤ 4294967295) ∧ (-2147483648 ≤ a.b ∧ a.b ≤ 2147483647) ∧ a.c.length = a.k ∧ a.k ≤ 9223372036854775807 := by
  obtain ⟨_, _, rfl, ⟨d, rfl, d1, d2⟩, _, _, rfl, ⟨t, rfl, t1, t2⟩, _, _, rfl, ⟨id, rfl, i1, i2⟩, _, _, rfl, ⟨cs, k, rfl, hk, rows, r1, rfl, r3⟩, _, _, rfl, ⟨b, rfl, b1, b2⟩, _, _, rfl, ⟨on, rfl⟩, rfl⟩ := h
  obtain ⟨c, e1, e2⟩ := byt_rows r3
  refine ⟨⟨d, t, id, c, k, b, on⟩, ?_, ⟨d1, Int.lt_add_one_of_le d2⟩, ⟨t1, t2⟩, ⟨b1, b2⟩, by show c.length = k; omega, hk⟩
  rw [e1]
  rfl
theorem law_PlanPlays (x y z : V) (hx : TyV tc 9 82 x) (hy : TyV tc 9 23 y) (hz : TyV tc 9 23 z) : Con Try.prog 9 [] [x, y, z] [] (vb true) := by
  obtain ⟨cs, n, e, hn, rows, h1, h2, h3⟩ := hx
  cases e
  obtain ⟨f, e2, q1, q2⟩ := hy
  cases e2
  obtain ⟨t, e3, r1, r2⟩ := hz
  cases e3
  have key : ∀ rows : List (List V), (∀ r ∈ rows, Ty tc 8 88 r) → ∃ X : List Ac, X.length = rows.length ∧ actC X = rows.flatten ∧ ∀ a ∈ X, (0 ≤ a.d ∧ a.d < 256) ∧ (0 ≤ a.t ∧ a.t ≤ 4294967295) ∧ (-2147483648 ≤ a.b ∧ a.b ≤ 2147483647) ∧ a.c.length = a.k ∧ a.k ≤ 9223372036854775807 := by
    intro rows
    induction rows with
    | nil => intro _; exact ⟨[], rfl, rfl, fun a h => by cases h⟩
    | cons r t ih =>
      intro h
      obtain ⟨X, g1, g2, g3⟩ := ih fun r hr => h r (List.mem_cons_of_mem _ hr)
      obtain ⟨a, rfl, ha⟩ := act27_of (h r (List.mem_cons_self ..))
      refine ⟨a :: X, by simp [g1], by rw [List.flatten_cons, ← g2]; rfl, fun b hb => ?_⟩
      rcases List.mem_cons.1 hb with rfl | hb
      · exact ha
      · exact g3 b hb
  obtain ⟨X, g1, g2, g3⟩ := key rows h3
  rw [h2, ← g2]
  exact law_plays X n (by omega) hn g3 f t
end Go.Proofs.Ytlfjnkobnkfioaa
