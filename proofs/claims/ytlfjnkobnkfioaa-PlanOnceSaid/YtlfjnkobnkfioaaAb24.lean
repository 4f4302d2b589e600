/- Arithmetic as omega reads it. -/
import Derived.Test.YtlfjnkobnkfioaaAb23
set_option linter.unusedSimpArgs false
set_option linter.unusedVariables false
namespace Go.Ab
open Go.RowKit
theorem shr_eq {k : IntKind} {e c m : Int} (hm : (2 : Int) ^ (min c.toNat k.bits) = m) (h0 : 0 ≤ m) : V.val (.int k (ishr k e c)) = V.val (.int k (e / m)) := by
  unfold ishr
  rw [hm, Int.fdiv_eq_ediv_of_nonneg _ h0]
theorem tm_ {k : IntKind} {a b : Int} (h : 0 ≤ a) : V.val (.int k (Int.tmod a b)) = V.val (.int k (a % b)) := by rw [Int.tmod_eq_emod_of_nonneg h]
/-- Bytes that nobody writes; a plain slot (short names for printed steps). -/
abbrev B8 (l : List Int) : V := .vs (u8s l) l.length
abbrev tp (x : V) : T := .plain x
end Go.Ab
