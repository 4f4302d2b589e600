/- A run on plain data in which each test is known: what is owed is checked on the way. -/
import Derived.Test.YtieoaeidlcdggaaGreatDoorAb24
set_option linter.unusedSimpArgs false
set_option linter.unusedVariables false
namespace Go.Ab
open Go.RowKit

/-! ### A call -/
abbrev CallF := FuncId → List (Nat × Blk) → List V → Option (List (Nat × Blk) × V)
end Go.Ab
