/- A run: exec.Exec.send. -/
import Derived.Test.YtcekfepgdfcinaaGreatDoorExS
namespace Go.Proofs.YtcekfepgdfcinaaGreatDoor
open Go Go.Ab
set_option linter.unusedSimpArgs false
set_option linter.unusedVariables false
set_option maxRecDepth 100000
def y69I : List (Nat × Blk) := [(1000000000, s18), (1000000001, s1), (1000000002, s2), (1000000003, s3), (1000000004, s13), (1000000005, s14), (2000000000, s6), (2000000001, s7), (2000000002, s8), (2000000003, s15), (2000000004, s10)]
def y69A : List V := [V.ptr 1000000000 0]
def y69H : List (Nat × Blk) := [(3, s19), (2, s20), (1, s21), (0, s22), (1000000000, s23), (1000000001, s1), (1000000002, s2), (1000000003, s3), (1000000004, s13), (1000000005, s24), (2000000000, s6), (2000000001, s7), (2000000002, s8), (2000000003, s9), (2000000004, s10)]
def y69R : V := V.sl 0 0 3
theorem con_y69 : Con Tryz.prog 69 y69I y69A y69H y69R := con_run 4000 13 (by kernel_rfl)
end Go.Proofs.YtcekfepgdfcinaaGreatDoor
