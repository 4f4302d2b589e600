/- A run: exec.Exec.command. -/
import Derived.Test.YtcekfepgdfcinaaGreatDoorExS
namespace Go.Proofs.YtcekfepgdfcinaaGreatDoor
open Go Go.Ab
set_option linter.unusedSimpArgs false
set_option linter.unusedVariables false
set_option maxRecDepth 100000
def y63I : List (Nat × Blk) := [(1000000000, s0), (1000000001, s1), (1000000002, s2), (1000000003, s3), (1000000004, s4), (1000000005, s5), (2000000000, s6), (2000000001, s7), (2000000002, s8), (2000000003, s9), (2000000004, s10), (2000000005, s12)]
def y63A : List V := [V.ptr 1000000000 0, V.sl 2000000005 0 13]
def y63H : List (Nat × Blk) := [(1000000000, s0), (1000000001, s1), (1000000002, s2), (1000000003, s3), (1000000004, s13), (1000000005, s14), (2000000000, s6), (2000000001, s7), (2000000002, s8), (2000000003, s15), (2000000004, s10), (2000000005, s12)]
def y63R : V := V.tup []
theorem con_y63 : Con Tryz.prog 63 y63I y63A y63H y63R := con_run 4000 13 (by kernel_rfl)
end Go.Proofs.YtcekfepgdfcinaaGreatDoor
