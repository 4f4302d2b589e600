/- What is deleted of a list of items. -/
import Derived.Test.YtlfjnkobnkfioaaRg
import Derived.Test.YtlfjnkobnkfioaaPlnE
namespace Go.Proofs.Ytlfjnkobnkfioaa
open Go.Ab
set_option maxRecDepth 100000
set_option maxHeartbeats 8000000
set_option linter.unusedSimpArgs false
set_option linter.unusedVariables false
section
variable {α : Type} (p : α → Bool)
/-- What stays. -/
def keepP (R : List α) : List α := R.filter fun a => !p a
/-- What the cells hold while it is deleted: S; kept: i of them, of the first j. -/
structure DelI (R S : List α) (i j : Nat) : Prop where
  len : S.length = R.length
  le : i < j
  kept : S.take i = keepP p (R.take j)
  rest : S.drop j = R.drop j
theorem DelI.no {p : α → Bool} {R S : List α} {i j : Nat} (h : DelI p R S i j) {a : α} (ha : S[j]? = some a) (hn : p a = true) : DelI p R S i (j + 1) := by
  have e : R[j]? = some a := by
    have := congrArg (fun l => l[0]?) h.rest
    simp only [List.getElem?_drop, Nat.add_zero] at this
    rw [← this]; exact ha
  refine ⟨h.len, by have := h.le; omega, ?_, ?_⟩
  · rw [h.kept]
    unfold keepP
    rw [List.take_add_one, e, List.filter_append]
    simp [hn]
  · rw [← List.drop_drop, ← List.drop_drop, h.rest]
end
end Go.Proofs.Ytlfjnkobnkfioaa
