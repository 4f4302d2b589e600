/- Plans that are sorted: plain laws. -/
import Derived.Test.YtlfjnkobnkfioaaPlnR
namespace Go.Proofs.Ytlfjnkobnkfioaa
open Go.Ab
set_option linter.unusedSimpArgs false
set_option linter.unusedVariables false
end Go.Proofs.Ytlfjnkobnkfioaa
