/- The document's example, run. -/
import Derived.Test.YtcekfepgdfcinaaGreatDoorExC
import Derived.Test.YtcekfepgdfcinaaGreatDoorExN
namespace Go.Proofs.YtcekfepgdfcinaaGreatDoor
open Go Go.Ab
set_option linter.unusedSimpArgs false
set_option linter.unusedVariables false
set_option maxRecDepth 100000
def kA : CallF := orC (oneC 13 [] newA newH newR) (orC (oneC 17 y17I y17A y17H y17R) kX)
theorem kA_ok : kA.Ok Tryz.prog := orC_ok (oneC_ok con_new) (orC_ok (oneC_ok con_y17) kX_ok)
theorem con_awake : Con Tryz.prog 11 [] [] [] (vb true) := run_conR tcok hmix kA_ok itX_ok (lvs := fun _ _ => none) (fz := fzX) 4000 16 (by kernel_rfl)
end Go.Proofs.YtcekfepgdfcinaaGreatDoor
