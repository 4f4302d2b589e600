/- A cycle, put together. -/
import Derived.Test.YtcekfepgdfcinaaGreatDoorEy62
import Derived.Test.YtcekfepgdfcinaaGreatDoorEy63
import Derived.Test.YtcekfepgdfcinaaGreatDoorEy65
import Derived.Test.YtcekfepgdfcinaaGreatDoorEy64
import Derived.Test.YtcekfepgdfcinaaGreatDoorEy66
import Derived.Test.YtcekfepgdfcinaaGreatDoorEy67
import Derived.Test.YtcekfepgdfcinaaGreatDoorEy68
import Derived.Test.YtcekfepgdfcinaaGreatDoorEy69
namespace Go.Proofs.YtcekfepgdfcinaaGreatDoor
open Go Go.Ab
set_option linter.unusedSimpArgs false
set_option linter.unusedVariables false
set_option maxRecDepth 100000
def y17I : List (Nat × Blk) := [(1000000000, s25), (1000000001, s1), (1000000002, s2), (1000000003, s3), (1000000004, s4), (1000000005, s5), (2000000000, s6), (2000000001, s7), (2000000002, s8), (2000000003, s9), (2000000004, s10), (2000000005, s11), (2000000006, s12)]
def y17A : List V := [V.ptr 1000000000 0, V.agg false [i32 0, i32 0, i32 0, i32 0, i32 0, i32 0, i32 0, i32 0, i32 0, i32 0, i32 0, i32 0, i32 0, i32 0, i32 0, i32 0, u16 0, u16 0, nilS_, u8 0, V.sl 2000000005 0 1, vb false, vb false]]
def y17H : List (Nat × Blk) := [(1, s26), (2, s21), (3, s20), (4, s19), (1000000000, s23), (1000000001, s1), (1000000002, s2), (1000000003, s3), (1000000004, s13), (1000000005, s24), (2000000000, s6), (2000000001, s7), (2000000002, s8), (2000000003, s9), (2000000004, s10), (2000000005, s11), (2000000006, s12)]
def y17R : V := V.agg false [V.sl 1 0 3, nilS_, u8 0, i32 0, i32 0, i32 0, i32 0, i32 0, i32 0]
def kC : CallF := orC (oneC 62 y62I y62A y62H y62R) (orC (oneC 63 y63I y63A y63H y63R) (orC (oneC 65 y65I y65A y65H y65R) (orC (oneC 64 y64I y64A y64H y64R) (orC (oneC 66 y66I y66A y66H y66R) (orC (oneC 67 y67I y67A y67H y67R) (orC (oneC 68 y68I y68A y68H y68R) (orC (oneC 69 y69I y69A y69H y69R) (kX))))))))
theorem kC_ok : kC.Ok Tryz.prog := orC_ok (oneC_ok con_y62) (orC_ok (oneC_ok con_y63) (orC_ok (oneC_ok con_y65) (orC_ok (oneC_ok con_y64) (orC_ok (oneC_ok con_y66) (orC_ok (oneC_ok con_y67) (orC_ok (oneC_ok con_y68) (orC_ok (oneC_ok con_y69) (kX_ok))))))))
theorem con_y17 : Con Tryz.prog 17 y17I y17A y17H y17R := run_conR tcok hmix kC_ok itX_ok (lvs := fun _ _ => none) (fz := fzX) 4000 14 (by kernel_rfl)
end Go.Proofs.YtcekfepgdfcinaaGreatDoor
