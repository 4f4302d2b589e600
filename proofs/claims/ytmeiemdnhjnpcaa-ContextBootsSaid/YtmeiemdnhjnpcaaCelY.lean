/- Chapter 6: the document's example. -/
import Derived.Test.YtmeiemdnhjnpcaaRg
import Derived.Test.YtmeiemdnhjnpcaaCelV
namespace Go.Proofs.Ytmeiemdnhjnpcaa
open Go.Ab
set_option linter.unusedSimpArgs false
set_option linter.unusedVariables false
theorem mk_cNo {seq : Int} {p : List Int} (hs : 0 ≤ seq ∧ seq < 4294967296) (h : p.length ≤ 200) : cNo (mk seq p) = seq := by
  unfold cNo
  rw [if_pos (mk_cOk h), mk_cN hs]
theorem mk_cPo {seq : Int} {p : List Int} (h : p.length ≤ 200) : cPo (mk seq p) = p := by
  unfold cPo
  rw [if_pos (mk_cOk h), mk_cP]
theorem bytes_of {raw : V} (hr : TyV tc 9 29 raw) : ∃ l : List Int, raw = .vs (u8s l) l.length ∧ BL l ∧ l.length ≤ 9223372036854775807 := by
  obtain ⟨cs, n, e1, hn, hr1⟩ := hr
  obtain ⟨l, rfl, rfl, hl⟩ := bytes_rows (fun r hr => by obtain ⟨z, rfl, z1, z2⟩ := hr; exact ⟨z, rfl, z1, Int.lt_add_one_of_le z2⟩) hr1
  cases e1
  exact ⟨l, rfl, hl, hn⟩
end Go.Proofs.Ytmeiemdnhjnpcaa
