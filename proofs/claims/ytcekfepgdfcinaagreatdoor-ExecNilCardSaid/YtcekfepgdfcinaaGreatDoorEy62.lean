/- A run: exec.Exec.units. -/
import Derived.Test.YtcekfepgdfcinaaGreatDoorExS
namespace Go.Proofs.YtcekfepgdfcinaaGreatDoor
open Go Go.Ab
set_option linter.unusedSimpArgs false
set_option linter.unusedVariables false
set_option maxRecDepth 100000
def y62I : List (Nat × Blk) := [(1000000000, s0), (1000000001, s1), (1000000002, s2), (1000000003, s3), (1000000004, s4), (1000000005, s5), (2000000000, s6), (2000000001, s7), (2000000002, s8), (2000000003, s9), (2000000004, s10), (2000000005, s11), (2000000006, s12)]
def y62A : List V := [V.ptr 1000000000 0, V.agg false [i32 0, i32 0, i32 0, i32 0, i32 0, i32 0, i32 0, i32 0, i32 0, i32 0, i32 0, i32 0, i32 0, i32 0, i32 0, i32 0, u16 0, u16 0, nilS_, u8 0, V.sl 2000000005 0 1, vb false, vb false]]
def y62H : List (Nat × Blk) := [(1000000000, s0), (1000000001, s1), (1000000002, s2), (1000000003, s3), (1000000004, s4), (1000000005, s5), (2000000000, s6), (2000000001, s7), (2000000002, s8), (2000000003, s9), (2000000004, s10), (2000000005, s11), (2000000006, s12)]
def y62R : V := V.tup []
theorem con_y62 : Con Tryz.prog 62 y62I y62A y62H y62R := con_run 4000 13 (by kernel_rfl)
end Go.Proofs.YtcekfepgdfcinaaGreatDoor
