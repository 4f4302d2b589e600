/- slices.IndexFunc and slices.DeleteFunc at items: by its number. -/
import Derived.Test.YtlfjnkobnkfioaaRg
import Derived.Test.YtlfjnkobnkfioaaPlnF
namespace Go.Proofs.Ytlfjnkobnkfioaa
open Go.Ab
set_option maxRecDepth 100000
set_option maxHeartbeats 8000000
set_option linter.unusedSimpArgs false
set_option linter.unusedVariables false
end Go.Proofs.Ytlfjnkobnkfioaa
