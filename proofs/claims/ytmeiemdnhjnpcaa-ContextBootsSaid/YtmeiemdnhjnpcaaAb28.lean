/- A nil slice in a block's cell becomes an own one that may be appended to. -/
import Derived.Test.YtmeiemdnhjnpcaaAb27
import Derived.Test.YtmeiemdnhjnpcaaAb26
set_option linter.unusedSimpArgs false
set_option linter.unusedVariables false
namespace Go.Ab
open Go.RowKit
end Go.Ab
