/- A run: exec.Exec.modes. -/
import Derived.Test.YtcekfepgdfcinaaGreatDoorExS
namespace Go.Proofs.YtcekfepgdfcinaaGreatDoor
open Go Go.Ab
set_option linter.unusedSimpArgs false
set_option linter.unusedVariables false
set_option maxRecDepth 100000
def y67I : List (Nat × Blk) := [(1000000000, s0), (1000000001, s1), (1000000002, s2), (1000000003, s3), (1000000004, s13), (1000000005, s14), (1000000006, s17), (2000000000, s6), (2000000001, s7), (2000000002, s8), (2000000003, s15), (2000000004, s10)]
def y67A : List V := [V.ptr 1000000000 0, V.ptr 1000000006 0]
def y67H : List (Nat × Blk) := [(1000000000, s18), (1000000001, s1), (1000000002, s2), (1000000003, s3), (1000000004, s13), (1000000005, s14), (1000000006, s17), (2000000000, s6), (2000000001, s7), (2000000002, s8), (2000000003, s15), (2000000004, s10)]
def y67R : V := V.tup []
theorem con_y67 : Con Tryz.prog 67 y67I y67A y67H y67R := con_run 4000 13 (by kernel_rfl)
end Go.Proofs.YtcekfepgdfcinaaGreatDoor
