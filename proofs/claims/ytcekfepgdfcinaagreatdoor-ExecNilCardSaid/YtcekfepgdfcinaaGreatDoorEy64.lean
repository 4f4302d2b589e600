/- A run: exec.Exec.react. -/
import Derived.Test.YtcekfepgdfcinaaGreatDoorExS
namespace Go.Proofs.YtcekfepgdfcinaaGreatDoor
open Go Go.Ab
set_option linter.unusedSimpArgs false
set_option linter.unusedVariables false
set_option maxRecDepth 100000
def y64I : List (Nat × Blk) := [(1000000000, s0), (1000000001, s1), (1000000002, s2), (1000000003, s3), (1000000004, s13), (1000000005, s14), (2000000000, s6), (2000000001, s7), (2000000002, s8), (2000000003, s15), (2000000004, s10), (2000000005, s11), (2000000006, s12), (2000000007, s16)]
def y64A : List V := [V.ptr 1000000000 0, V.agg false [i32 0, i32 0, i32 0, i32 0, i32 0, i32 0, i32 0, i32 0, i32 0, i32 0, i32 0, i32 0, i32 0, i32 0, i32 0, i32 0, u16 0, u16 0, nilS_, u8 0, V.sl 2000000005 0 1, vb false, vb false], V.sl 2000000007 0 0]
def y64H : List (Nat × Blk) := [(1000000000, s0), (1000000001, s1), (1000000002, s2), (1000000003, s3), (1000000004, s13), (1000000005, s14), (2000000000, s6), (2000000001, s7), (2000000002, s8), (2000000003, s15), (2000000004, s10), (2000000005, s11), (2000000006, s12), (2000000007, s16)]
def y64R : V := V.tup []
theorem con_y64 : Con Tryz.prog 64 y64I y64A y64H y64R := con_run 4000 13 (by kernel_rfl)
end Go.Proofs.YtcekfepgdfcinaaGreatDoor
