/- Chapter 15: arguments by their types. -/
import Derived.Test.YtlfjnkobnkfioaaDoorChkB
namespace Go.Proofs.YtlfjnkobnkfioaaDoor
open Go.Ab
set_option linter.unusedSimpArgs false
set_option linter.unusedVariables false
theorem def_of {x : V} (h : TyV tc 9 25 x) : ∃ k pa lo hi ma wa : Int, x = dV k pa lo hi ma wa ∧ (0 ≤ k ∧ k < 256) ∧ (-9223372036854775808 ≤ pa ∧ pa ≤ 9223372036854775807) ∧ (-2147483648 ≤ lo ∧ lo ≤ 2147483647) ∧ (-2147483648 ≤ hi ∧ hi ≤ 2147483647) ∧ (0 ≤ ma ∧ ma < 4294967296) ∧ (0 ≤ wa ∧ wa < 4294967296) := by
  obtain ⟨xs, rfl, _, _, rfl, ⟨m, rfl, a1, a2⟩, _, _, rfl, ⟨s, rfl, b1, b2⟩, _, _, rfl, ⟨lo, rfl, c1, c2⟩, _, _, rfl, ⟨hi, rfl, d1, d2⟩, _, _, rfl, ⟨ma, rfl, e1, e2⟩, _, _, rfl, ⟨wa, rfl, f1, f2⟩, rfl⟩ := h
  exact ⟨m, s, lo, hi, ma, wa, rfl, ⟨a1, Int.lt_add_one_of_le a2⟩, ⟨b1, b2⟩, ⟨c1, c2⟩, ⟨d1, d2⟩, ⟨e1, Int.lt_add_one_of_le e2⟩, ⟨f1, Int.lt_add_one_of_le f2⟩⟩
theorem i32_of {x : V} (h : TyV tc 9 21 x) : ∃ n : Int, x = i32 n ∧ -2147483648 ≤ n ∧ n ≤ 2147483647 := by
  obtain ⟨n, e, a1, a2⟩ := h
  cases e
  exact ⟨n, rfl, a1, a2⟩
theorem u32_of {x : V} (h : TyV tc 9 23 x) : ∃ n : Int, x = u32 n ∧ 0 ≤ n ∧ n < 4294967296 := by
  obtain ⟨n, e, a1, a2⟩ := h
  cases e
  exact ⟨n, rfl, a1, Int.lt_add_one_of_le a2⟩
theorem u8_of {x : V} (h : TyV tc 9 5 x) : ∃ n : Int, x = u8 n ∧ 0 ≤ n ∧ n < 256 := by
  obtain ⟨n, e, a1, a2⟩ := h
  cases e
  exact ⟨n, rfl, a1, Int.lt_add_one_of_le a2⟩
theorem bool_of {x : V} (h : TyV tc 9 4 x) : ∃ b : Bool, x = vb b := by
  obtain ⟨b, e⟩ := h
  cases e
  exact ⟨b, rfl⟩
end Go.Proofs.YtlfjnkobnkfioaaDoor
