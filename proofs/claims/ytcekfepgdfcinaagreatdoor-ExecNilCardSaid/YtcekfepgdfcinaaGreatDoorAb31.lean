/- What is left of an own slice's cells may be let go. -/
import Derived.Test.YtcekfepgdfcinaaGreatDoorAb30
set_option linter.unusedSimpArgs false
set_option linter.unusedVariables false
namespace Go.Ab
open Go.RowKit
end Go.Ab
namespace Go.Ab
end Go.Ab
