/- A run: exec.Exec.keep. -/
import Derived.Test.YtcekfepgdfcinaaGreatDoorExS
namespace Go.Proofs.YtcekfepgdfcinaaGreatDoor
open Go Go.Ab
set_option linter.unusedSimpArgs false
set_option linter.unusedVariables false
set_option maxRecDepth 100000
def y68I : List (Nat × Blk) := [(1000000000, s18), (1000000001, s1), (1000000002, s2), (1000000003, s3), (1000000004, s13), (1000000005, s14), (2000000000, s6), (2000000001, s7), (2000000002, s8), (2000000003, s15), (2000000004, s10)]
def y68A : List V := [V.ptr 1000000000 0, vb false]
def y68H : List (Nat × Blk) := [(1000000000, s18), (1000000001, s1), (1000000002, s2), (1000000003, s3), (1000000004, s13), (1000000005, s14), (2000000000, s6), (2000000001, s7), (2000000002, s8), (2000000003, s15), (2000000004, s10)]
def y68R : V := V.tup []
theorem con_y68 : Con Tryz.prog 68 y68I y68A y68H y68R := con_run 4000 13 (by kernel_rfl)
end Go.Proofs.YtcekfepgdfcinaaGreatDoor
