/- The types of this seat's program, as a table, and that they are the program's. Written by a program of mine. -/
import Derived.Test.YtlfjnkobnkfioaaDoorProg
import Derived.Test.YtlfjnkobnkfioaaDoorAb24
import Derived.KernelRfl
namespace Go.Proofs.YtlfjnkobnkfioaaDoor
open Go.Ab
def ti_1 : TI := ⟨.func #[] #[] false, 1, 8, [.nilFunc], false⟩
theorem ok_1 : TIok Tryd.prog 1 ti_1 := ⟨by kernel_rfl, ⟨Tryd.t1, by kernel_rfl, by kernel_rfl, by kernel_rfl, _, rfl, by kernel_rfl⟩, fun h => by cases h⟩
def ti_2 : TI := ⟨.int .i64, 1, 8, [.int .i64 0], false⟩
theorem ok_2 : TIok Tryd.prog 2 ti_2 := ⟨by kernel_rfl, ⟨Tryd.t2, by kernel_rfl, by kernel_rfl, by kernel_rfl, _, rfl, by kernel_rfl⟩, fun h => by cases h⟩
def ti_3 : TI := ⟨.int .i64, 1, 8, [.int .i64 0], false⟩
theorem ok_3 : TIok Tryd.prog 3 ti_3 := ⟨by kernel_rfl, ⟨Tryd.t3, by kernel_rfl, by kernel_rfl, by kernel_rfl, _, rfl, by kernel_rfl⟩, fun h => by cases h⟩
def ti_4 : TI := ⟨.bool, 1, 1, [.bool false], false⟩
theorem ok_4 : TIok Tryd.prog 4 ti_4 := ⟨by kernel_rfl, ⟨Tryd.t4, by kernel_rfl, by kernel_rfl, by kernel_rfl, _, rfl, by kernel_rfl⟩, fun h => by cases h⟩
def ti_5 : TI := ⟨.int .u8, 1, 1, [.int .u8 0], false⟩
theorem ok_5 : TIok Tryd.prog 5 ti_5 := ⟨by kernel_rfl, ⟨Tryd.t5, by kernel_rfl, by kernel_rfl, by kernel_rfl, _, rfl, by kernel_rfl⟩, fun h => by cases h⟩
def ti_6 : TI := ⟨.int .u8, 1, 1, [.int .u8 0], false⟩
theorem ok_6 : TIok Tryd.prog 6 ti_6 := ⟨by kernel_rfl, ⟨Tryd.t6, by kernel_rfl, by kernel_rfl, by kernel_rfl, _, rfl, by kernel_rfl⟩, fun h => by cases h⟩
def ti_7 : TI := ⟨.struct #[{ name := "x", type := 2, offset := 0, embedded := false, tag := "", pkgPath := "runtime", byteOffset := 0 }, { name := "y", type := 3, offset := 1, embedded := false, tag := "", pkgPath := "runtime", byteOffset := 8 }, { name := "signed", type := 4, offset := 2, embedded := false, tag := "", pkgPath := "runtime", byteOffset := 16 }, { name := "code", type := 6, offset := 3, embedded := false, tag := "", pkgPath := "runtime", byteOffset := 17 }], 4, 24, [.int .i64 0, .int .i64 0, .bool false, .int .u8 0], true⟩
theorem ok_7 : TIok Tryd.prog 7 ti_7 := ⟨by kernel_rfl, ⟨Tryd.t7, by kernel_rfl, by kernel_rfl, by kernel_rfl, _, rfl, by kernel_rfl⟩, fun _ => ⟨by kernel_rfl, by kernel_rfl⟩⟩
def ti_8 : TI := ⟨.struct #[{ name := "x", type := 2, offset := 0, embedded := false, tag := "", pkgPath := "runtime", byteOffset := 0 }, { name := "y", type := 3, offset := 1, embedded := false, tag := "", pkgPath := "runtime", byteOffset := 8 }, { name := "signed", type := 4, offset := 2, embedded := false, tag := "", pkgPath := "runtime", byteOffset := 16 }, { name := "code", type := 6, offset := 3, embedded := false, tag := "", pkgPath := "runtime", byteOffset := 17 }], 4, 24, [.int .i64 0, .int .i64 0, .bool false, .int .u8 0], true⟩
theorem ok_8 : TIok Tryd.prog 8 ti_8 := ⟨by kernel_rfl, ⟨Tryd.t8, by kernel_rfl, by kernel_rfl, by kernel_rfl, _, rfl, by kernel_rfl⟩, fun _ => ⟨by kernel_rfl, by kernel_rfl⟩⟩
def ti_9 : TI := ⟨.string, 1, 16, [.string { data := { toList := [] } }], false⟩
theorem ok_9 : TIok Tryd.prog 9 ti_9 := ⟨by kernel_rfl, ⟨Tryd.t9, by kernel_rfl, by kernel_rfl, by kernel_rfl, _, rfl, by kernel_rfl⟩, fun h => by cases h⟩
def ti_10 : TI := ⟨.string, 1, 16, [.string { data := { toList := [] } }], false⟩
theorem ok_10 : TIok Tryd.prog 10 ti_10 := ⟨by kernel_rfl, ⟨Tryd.t10, by kernel_rfl, by kernel_rfl, by kernel_rfl, _, rfl, by kernel_rfl⟩, fun h => by cases h⟩
def ti_11 : TI := ⟨.string, 1, 16, [.string { data := { toList := [] } }], false⟩
theorem ok_11 : TIok Tryd.prog 11 ti_11 := ⟨by kernel_rfl, ⟨Tryd.t11, by kernel_rfl, by kernel_rfl, by kernel_rfl, _, rfl, by kernel_rfl⟩, fun h => by cases h⟩
def ti_12 : TI := ⟨.int .u64, 1, 8, [.int .u64 0], false⟩
theorem ok_12 : TIok Tryd.prog 12 ti_12 := ⟨by kernel_rfl, ⟨Tryd.t12, by kernel_rfl, by kernel_rfl, by kernel_rfl, _, rfl, by kernel_rfl⟩, fun h => by cases h⟩
def ti_13 : TI := ⟨.struct #[{ name := "msg", type := 9, offset := 0, embedded := false, tag := "", pkgPath := "runtime", byteOffset := 0 }, { name := "addr", type := 12, offset := 1, embedded := false, tag := "", pkgPath := "runtime", byteOffset := 16 }], 2, 24, [.string { data := { toList := [] } }, .int .u64 0], false⟩
theorem ok_13 : TIok Tryd.prog 13 ti_13 := ⟨by kernel_rfl, ⟨Tryd.t13, by kernel_rfl, by kernel_rfl, by kernel_rfl, _, rfl, by kernel_rfl⟩, fun h => by cases h⟩
def ti_14 : TI := ⟨.struct #[{ name := "msg", type := 9, offset := 0, embedded := false, tag := "", pkgPath := "runtime", byteOffset := 0 }, { name := "addr", type := 12, offset := 1, embedded := false, tag := "", pkgPath := "runtime", byteOffset := 16 }], 2, 24, [.string { data := { toList := [] } }, .int .u64 0], false⟩
theorem ok_14 : TIok Tryd.prog 14 ti_14 := ⟨by kernel_rfl, ⟨Tryd.t14, by kernel_rfl, by kernel_rfl, by kernel_rfl, _, rfl, by kernel_rfl⟩, fun h => by cases h⟩
def ti_15 : TI := ⟨.pointer 87, 1, 8, [.pointer none], false⟩
theorem ok_15 : TIok Tryd.prog 15 ti_15 := ⟨by kernel_rfl, ⟨Tryd.t15, by kernel_rfl, by kernel_rfl, by kernel_rfl, _, rfl, by kernel_rfl⟩, fun h => by cases h⟩
def ti_16 : TI := ⟨.pointer 90, 1, 8, [.pointer none], false⟩
theorem ok_16 : TIok Tryd.prog 16 ti_16 := ⟨by kernel_rfl, ⟨Tryd.t16, by kernel_rfl, by kernel_rfl, by kernel_rfl, _, rfl, by kernel_rfl⟩, fun h => by cases h⟩
def ti_17 : TI := ⟨.pointer 99, 1, 8, [.pointer none], false⟩
theorem ok_17 : TIok Tryd.prog 17 ti_17 := ⟨by kernel_rfl, ⟨Tryd.t17, by kernel_rfl, by kernel_rfl, by kernel_rfl, _, rfl, by kernel_rfl⟩, fun h => by cases h⟩
def ti_18 : TI := ⟨.struct #[{ name := "typ", type := 17, offset := 0, embedded := false, tag := "", pkgPath := "internal/runtime/maps", byteOffset := 0 }], 1, 8, [.pointer none], false⟩
theorem ok_18 : TIok Tryd.prog 18 ti_18 := ⟨by kernel_rfl, ⟨Tryd.t18, by kernel_rfl, by kernel_rfl, by kernel_rfl, _, rfl, by kernel_rfl⟩, fun h => by cases h⟩
def ti_19 : TI := ⟨.struct #[{ name := "typ", type := 17, offset := 0, embedded := false, tag := "", pkgPath := "internal/runtime/maps", byteOffset := 0 }], 1, 8, [.pointer none], false⟩
theorem ok_19 : TIok Tryd.prog 19 ti_19 := ⟨by kernel_rfl, ⟨Tryd.t19, by kernel_rfl, by kernel_rfl, by kernel_rfl, _, rfl, by kernel_rfl⟩, fun h => by cases h⟩
def ti_21 : TI := ⟨.int .i32, 1, 4, [.int .i32 0], false⟩
theorem ok_21 : TIok Tryd.prog 21 ti_21 := ⟨by kernel_rfl, ⟨Tryd.t21, by kernel_rfl, by kernel_rfl, by kernel_rfl, _, rfl, by kernel_rfl⟩, fun h => by cases h⟩
def ti_22 : TI := ⟨.func #[] #[4] false, 1, 8, [.nilFunc], false⟩
theorem ok_22 : TIok Tryd.prog 22 ti_22 := ⟨by kernel_rfl, ⟨Tryd.t22, by kernel_rfl, by kernel_rfl, by kernel_rfl, _, rfl, by kernel_rfl⟩, fun h => by cases h⟩
def ti_23 : TI := ⟨.int .u32, 1, 4, [.int .u32 0], false⟩
theorem ok_23 : TIok Tryd.prog 23 ti_23 := ⟨by kernel_rfl, ⟨Tryd.t23, by kernel_rfl, by kernel_rfl, by kernel_rfl, _, rfl, by kernel_rfl⟩, fun h => by cases h⟩
def ti_24 : TI := ⟨.struct #[{ name := "Kind", type := 5, offset := 0, embedded := false, tag := "", pkgPath := "", byteOffset := 0 }, { name := "Param", type := 3, offset := 1, embedded := false, tag := "", pkgPath := "", byteOffset := 8 }, { name := "Low", type := 21, offset := 2, embedded := false, tag := "", pkgPath := "", byteOffset := 16 }, { name := "High", type := 21, offset := 3, embedded := false, tag := "", pkgPath := "", byteOffset := 20 }, { name := "Mask", type := 23, offset := 4, embedded := false, tag := "", pkgPath := "", byteOffset := 24 }, { name := "Want", type := 23, offset := 5, embedded := false, tag := "", pkgPath := "", byteOffset := 28 }], 6, 32, [.int .u8 0, .int .i64 0, .int .i32 0, .int .i32 0, .int .u32 0, .int .u32 0], true⟩
theorem ok_24 : TIok Tryd.prog 24 ti_24 := ⟨by kernel_rfl, ⟨Tryd.t24, by kernel_rfl, by kernel_rfl, by kernel_rfl, _, rfl, by kernel_rfl⟩, fun _ => ⟨by kernel_rfl, by kernel_rfl⟩⟩
def ti_25 : TI := ⟨.struct #[{ name := "Kind", type := 5, offset := 0, embedded := false, tag := "", pkgPath := "", byteOffset := 0 }, { name := "Param", type := 3, offset := 1, embedded := false, tag := "", pkgPath := "", byteOffset := 8 }, { name := "Low", type := 21, offset := 2, embedded := false, tag := "", pkgPath := "", byteOffset := 16 }, { name := "High", type := 21, offset := 3, embedded := false, tag := "", pkgPath := "", byteOffset := 20 }, { name := "Mask", type := 23, offset := 4, embedded := false, tag := "", pkgPath := "", byteOffset := 24 }, { name := "Want", type := 23, offset := 5, embedded := false, tag := "", pkgPath := "", byteOffset := 28 }], 6, 32, [.int .u8 0, .int .i64 0, .int .i32 0, .int .i32 0, .int .u32 0, .int .u32 0], true⟩
theorem ok_25 : TIok Tryd.prog 25 ti_25 := ⟨by kernel_rfl, ⟨Tryd.t25, by kernel_rfl, by kernel_rfl, by kernel_rfl, _, rfl, by kernel_rfl⟩, fun _ => ⟨by kernel_rfl, by kernel_rfl⟩⟩
def ti_26 : TI := ⟨.func #[21, 21, 4] #[5] false, 1, 8, [.nilFunc], false⟩
theorem ok_26 : TIok Tryd.prog 26 ti_26 := ⟨by kernel_rfl, ⟨Tryd.t26, by kernel_rfl, by kernel_rfl, by kernel_rfl, _, rfl, by kernel_rfl⟩, fun h => by cases h⟩
def ti_27 : TI := ⟨.func #[21, 21, 5, 21, 21] #[4] false, 1, 8, [.nilFunc], false⟩
theorem ok_27 : TIok Tryd.prog 27 ti_27 := ⟨by kernel_rfl, ⟨Tryd.t27, by kernel_rfl, by kernel_rfl, by kernel_rfl, _, rfl, by kernel_rfl⟩, fun h => by cases h⟩
def ti_28 : TI := ⟨.func #[5, 23, 23, 21, 21] #[4] false, 1, 8, [.nilFunc], false⟩
theorem ok_28 : TIok Tryd.prog 28 ti_28 := ⟨by kernel_rfl, ⟨Tryd.t28, by kernel_rfl, by kernel_rfl, by kernel_rfl, _, rfl, by kernel_rfl⟩, fun h => by cases h⟩
def ti_29 : TI := ⟨.struct #[{ name := "Kind", type := 5, offset := 0, embedded := false, tag := "", pkgPath := "", byteOffset := 0 }, { name := "Param", type := 3, offset := 1, embedded := false, tag := "", pkgPath := "", byteOffset := 8 }, { name := "Low", type := 21, offset := 2, embedded := false, tag := "", pkgPath := "", byteOffset := 16 }, { name := "High", type := 21, offset := 3, embedded := false, tag := "", pkgPath := "", byteOffset := 20 }, { name := "Mask", type := 23, offset := 4, embedded := false, tag := "", pkgPath := "", byteOffset := 24 }, { name := "Want", type := 23, offset := 5, embedded := false, tag := "", pkgPath := "", byteOffset := 28 }], 6, 32, [.int .u8 0, .int .i64 0, .int .i32 0, .int .i32 0, .int .u32 0, .int .u32 0], true⟩
theorem ok_29 : TIok Tryd.prog 29 ti_29 := ⟨by kernel_rfl, ⟨Tryd.t29, by kernel_rfl, by kernel_rfl, by kernel_rfl, _, rfl, by kernel_rfl⟩, fun _ => ⟨by kernel_rfl, by kernel_rfl⟩⟩
def ti_30 : TI := ⟨.slice 9, 1, 24, [.slice none 0 0], false⟩
theorem ok_30 : TIok Tryd.prog 30 ti_30 := ⟨by kernel_rfl, ⟨Tryd.t30, by kernel_rfl, by kernel_rfl, by kernel_rfl, _, rfl, by kernel_rfl⟩, fun h => by cases h⟩
def ti_31 : TI := ⟨.func #[29] #[4] false, 1, 8, [.nilFunc], false⟩
theorem ok_31 : TIok Tryd.prog 31 ti_31 := ⟨by kernel_rfl, ⟨Tryd.t31, by kernel_rfl, by kernel_rfl, by kernel_rfl, _, rfl, by kernel_rfl⟩, fun h => by cases h⟩
def ti_32 : TI := ⟨.func #[29, 21, 21, 4] #[3] false, 1, 8, [.nilFunc], false⟩
theorem ok_32 : TIok Tryd.prog 32 ti_32 := ⟨by kernel_rfl, ⟨Tryd.t32, by kernel_rfl, by kernel_rfl, by kernel_rfl, _, rfl, by kernel_rfl⟩, fun h => by cases h⟩
def ti_33 : TI := ⟨.func #[5] #[4] false, 1, 8, [.nilFunc], false⟩
theorem ok_33 : TIok Tryd.prog 33 ti_33 := ⟨by kernel_rfl, ⟨Tryd.t33, by kernel_rfl, by kernel_rfl, by kernel_rfl, _, rfl, by kernel_rfl⟩, fun h => by cases h⟩
def ti_34 : TI := ⟨.func #[5] #[9] false, 1, 8, [.nilFunc], false⟩
theorem ok_34 : TIok Tryd.prog 34 ti_34 := ⟨by kernel_rfl, ⟨Tryd.t34, by kernel_rfl, by kernel_rfl, by kernel_rfl, _, rfl, by kernel_rfl⟩, fun h => by cases h⟩
def ti_35 : TI := ⟨.func #[25, 21, 21, 4, 5] #[4] false, 1, 8, [.nilFunc], false⟩
theorem ok_35 : TIok Tryd.prog 35 ti_35 := ⟨by kernel_rfl, ⟨Tryd.t35, by kernel_rfl, by kernel_rfl, by kernel_rfl, _, rfl, by kernel_rfl⟩, fun h => by cases h⟩
def ti_36 : TI := ⟨.func #[25, 21, 21, 23, 21, 21] #[4] false, 1, 8, [.nilFunc], false⟩
theorem ok_36 : TIok Tryd.prog 36 ti_36 := ⟨by kernel_rfl, ⟨Tryd.t36, by kernel_rfl, by kernel_rfl, by kernel_rfl, _, rfl, by kernel_rfl⟩, fun h => by cases h⟩
def ti_37 : TI := ⟨.slice 5, 1, 24, [.slice none 0 0], false⟩
theorem ok_37 : TIok Tryd.prog 37 ti_37 := ⟨by kernel_rfl, ⟨Tryd.t37, by kernel_rfl, by kernel_rfl, by kernel_rfl, _, rfl, by kernel_rfl⟩, fun h => by cases h⟩
def ti_38 : TI := ⟨.func #[37, 3] #[37] false, 1, 8, [.nilFunc], false⟩
theorem ok_38 : TIok Tryd.prog 38 ti_38 := ⟨by kernel_rfl, ⟨Tryd.t38, by kernel_rfl, by kernel_rfl, by kernel_rfl, _, rfl, by kernel_rfl⟩, fun h => by cases h⟩
def ti_39 : TI := ⟨.func #[] #[37] false, 1, 8, [.nilFunc], false⟩
theorem ok_39 : TIok Tryd.prog 39 ti_39 := ⟨by kernel_rfl, ⟨Tryd.t39, by kernel_rfl, by kernel_rfl, by kernel_rfl, _, rfl, by kernel_rfl⟩, fun h => by cases h⟩
def ti_40 : TI := ⟨.func #[37, 37] #[4] false, 1, 8, [.nilFunc], false⟩
theorem ok_40 : TIok Tryd.prog 40 ti_40 := ⟨by kernel_rfl, ⟨Tryd.t40, by kernel_rfl, by kernel_rfl, by kernel_rfl, _, rfl, by kernel_rfl⟩, fun h => by cases h⟩
def ti_41 : TI := ⟨.func #[29] #[37] false, 1, 8, [.nilFunc], false⟩
theorem ok_41 : TIok Tryd.prog 41 ti_41 := ⟨by kernel_rfl, ⟨Tryd.t41, by kernel_rfl, by kernel_rfl, by kernel_rfl, _, rfl, by kernel_rfl⟩, fun h => by cases h⟩
def ti_42 : TI := ⟨.func #[43] #[37] true, 1, 8, [.nilFunc], false⟩
theorem ok_42 : TIok Tryd.prog 42 ti_42 := ⟨by kernel_rfl, ⟨Tryd.t42, by kernel_rfl, by kernel_rfl, by kernel_rfl, _, rfl, by kernel_rfl⟩, fun h => by cases h⟩
def ti_43 : TI := ⟨.slice 37, 1, 24, [.slice none 0 0], false⟩
theorem ok_43 : TIok Tryd.prog 43 ti_43 := ⟨by kernel_rfl, ⟨Tryd.t43, by kernel_rfl, by kernel_rfl, by kernel_rfl, _, rfl, by kernel_rfl⟩, fun h => by cases h⟩
def ti_44 : TI := ⟨.int .i64, 1, 8, [.int .i64 0], false⟩
theorem ok_44 : TIok Tryd.prog 44 ti_44 := ⟨by kernel_rfl, ⟨Tryd.t44, by kernel_rfl, by kernel_rfl, by kernel_rfl, _, rfl, by kernel_rfl⟩, fun h => by cases h⟩
def ti_46 : TI := ⟨.func #[37] #[25, 44] false, 1, 8, [.nilFunc], false⟩
theorem ok_46 : TIok Tryd.prog 46 ti_46 := ⟨by kernel_rfl, ⟨Tryd.t46, by kernel_rfl, by kernel_rfl, by kernel_rfl, _, rfl, by kernel_rfl⟩, fun h => by cases h⟩
def ti_48 : TI := ⟨.func #[37] #[29, 3] false, 1, 8, [.nilFunc], false⟩
theorem ok_48 : TIok Tryd.prog 48 ti_48 := ⟨by kernel_rfl, ⟨Tryd.t48, by kernel_rfl, by kernel_rfl, by kernel_rfl, _, rfl, by kernel_rfl⟩, fun h => by cases h⟩
def ti_49 : TI := ⟨.func #[25, 37, 5, 5] #[4] false, 1, 8, [.nilFunc], false⟩
theorem ok_49 : TIok Tryd.prog 49 ti_49 := ⟨by kernel_rfl, ⟨Tryd.t49, by kernel_rfl, by kernel_rfl, by kernel_rfl, _, rfl, by kernel_rfl⟩, fun h => by cases h⟩
def ti_50 : TI := ⟨.func #[2] #[5] false, 1, 8, [.nilFunc], false⟩
theorem ok_50 : TIok Tryd.prog 50 ti_50 := ⟨by kernel_rfl, ⟨Tryd.t50, by kernel_rfl, by kernel_rfl, by kernel_rfl, _, rfl, by kernel_rfl⟩, fun h => by cases h⟩
def ti_51 : TI := ⟨.int .u64, 1, 8, [.int .u64 0], false⟩
theorem ok_51 : TIok Tryd.prog 51 ti_51 := ⟨by kernel_rfl, ⟨Tryd.t51, by kernel_rfl, by kernel_rfl, by kernel_rfl, _, rfl, by kernel_rfl⟩, fun h => by cases h⟩
def ti_52 : TI := ⟨.func #[9] #[30] false, 1, 8, [.nilFunc], false⟩
theorem ok_52 : TIok Tryd.prog 52 ti_52 := ⟨by kernel_rfl, ⟨Tryd.t52, by kernel_rfl, by kernel_rfl, by kernel_rfl, _, rfl, by kernel_rfl⟩, fun h => by cases h⟩
def ti_53 : TI := ⟨.func #[54, 58] #[37] true, 1, 8, [.nilFunc], false⟩
theorem ok_53 : TIok Tryd.prog 53 ti_53 := ⟨by kernel_rfl, ⟨Tryd.t53, by kernel_rfl, by kernel_rfl, by kernel_rfl, _, rfl, by kernel_rfl⟩, fun h => by cases h⟩
def ti_54 : TI := ⟨.slice 3, 1, 24, [.slice none 0 0], false⟩
theorem ok_54 : TIok Tryd.prog 54 ti_54 := ⟨by kernel_rfl, ⟨Tryd.t54, by kernel_rfl, by kernel_rfl, by kernel_rfl, _, rfl, by kernel_rfl⟩, fun h => by cases h⟩
def ti_55 : TI := ⟨.func #[] #[54] false, 1, 8, [.nilFunc], false⟩
theorem ok_55 : TIok Tryd.prog 55 ti_55 := ⟨by kernel_rfl, ⟨Tryd.t55, by kernel_rfl, by kernel_rfl, by kernel_rfl, _, rfl, by kernel_rfl⟩, fun h => by cases h⟩
def ti_56 : TI := ⟨.func #[21] #[37] false, 1, 8, [.nilFunc], false⟩
theorem ok_56 : TIok Tryd.prog 56 ti_56 := ⟨by kernel_rfl, ⟨Tryd.t56, by kernel_rfl, by kernel_rfl, by kernel_rfl, _, rfl, by kernel_rfl⟩, fun h => by cases h⟩
def ti_57 : TI := ⟨.func #[51, 3] #[37] false, 1, 8, [.nilFunc], false⟩
theorem ok_57 : TIok Tryd.prog 57 ti_57 := ⟨by kernel_rfl, ⟨Tryd.t57, by kernel_rfl, by kernel_rfl, by kernel_rfl, _, rfl, by kernel_rfl⟩, fun h => by cases h⟩
def ti_58 : TI := ⟨.slice 23, 1, 24, [.slice none 0 0], false⟩
theorem ok_58 : TIok Tryd.prog 58 ti_58 := ⟨by kernel_rfl, ⟨Tryd.t58, by kernel_rfl, by kernel_rfl, by kernel_rfl, _, rfl, by kernel_rfl⟩, fun h => by cases h⟩
def ti_60 : TI := ⟨.func #[37, 54] #[58, 44] true, 1, 8, [.nilFunc], false⟩
theorem ok_60 : TIok Tryd.prog 60 ti_60 := ⟨by kernel_rfl, ⟨Tryd.t60, by kernel_rfl, by kernel_rfl, by kernel_rfl, _, rfl, by kernel_rfl⟩, fun h => by cases h⟩
def ti_61 : TI := ⟨.func #[37] #[51] false, 1, 8, [.nilFunc], false⟩
theorem ok_61 : TIok Tryd.prog 61 ti_61 := ⟨by kernel_rfl, ⟨Tryd.t61, by kernel_rfl, by kernel_rfl, by kernel_rfl, _, rfl, by kernel_rfl⟩, fun h => by cases h⟩
def ti_62 : TI := ⟨.array 256 5, 256, 256, [.int .u8 0, .int .u8 0, .int .u8 0, .int .u8 0, .int .u8 0, .int .u8 0, .int .u8 0, .int .u8 0, .int .u8 0, .int .u8 0, .int .u8 0, .int .u8 0, .int .u8 0, .int .u8 0, .int .u8 0, .int .u8 0, .int .u8 0, .int .u8 0, .int .u8 0, .int .u8 0, .int .u8 0, .int .u8 0, .int .u8 0, .int .u8 0, .int .u8 0, .int .u8 0, .int .u8 0, .int .u8 0, .int .u8 0, .int .u8 0, .int .u8 0, .int .u8 0, .int .u8 0, .int .u8 0, .int .u8 0, .int .u8 0, .int .u8 0, .int .u8 0, .int .u8 0, .int .u8 0, .int .u8 0, .int .u8 0, .int .u8 0, .int .u8 0, .int .u8 0, .int .u8 0, .int .u8 0, .int .u8 0, .int .u8 0, .int .u8 0, .int .u8 0, .int .u8 0, .int .u8 0, .int .u8 0, .int .u8 0, .int .u8 0, .int .u8 0, .int .u8 0, .int .u8 0, .int .u8 0, .int .u8 0, .int .u8 0, .int .u8 0, .int .u8 0, .int .u8 0, .int .u8 0, .int .u8 0, .int .u8 0, .int .u8 0, .int .u8 0, .int .u8 0, .int .u8 0, .int .u8 0, .int .u8 0, .int .u8 0, .int .u8 0, .int .u8 0, .int .u8 0, .int .u8 0, .int .u8 0, .int .u8 0, .int .u8 0, .int .u8 0, .int .u8 0, .int .u8 0, .int .u8 0, .int .u8 0, .int .u8 0, .int .u8 0, .int .u8 0, .int .u8 0, .int .u8 0, .int .u8 0, .int .u8 0, .int .u8 0, .int .u8 0, .int .u8 0, .int .u8 0, .int .u8 0, .int .u8 0, .int .u8 0, .int .u8 0, .int .u8 0, .int .u8 0, .int .u8 0, .int .u8 0, .int .u8 0, .int .u8 0, .int .u8 0, .int .u8 0, .int .u8 0, .int .u8 0, .int .u8 0, .int .u8 0, .int .u8 0, .int .u8 0, .int .u8 0, .int .u8 0, .int .u8 0, .int .u8 0, .int .u8 0, .int .u8 0, .int .u8 0, .int .u8 0, .int .u8 0, .int .u8 0, .int .u8 0, .int .u8 0, .int .u8 0, .int .u8 0, .int .u8 0, .int .u8 0, .int .u8 0, .int .u8 0, .int .u8 0, .int .u8 0, .int .u8 0, .int .u8 0, .int .u8 0, .int .u8 0, .int .u8 0, .int .u8 0, .int .u8 0, .int .u8 0, .int .u8 0, .int .u8 0, .int .u8 0, .int .u8 0, .int .u8 0, .int .u8 0, .int .u8 0, .int .u8 0, .int .u8 0, .int .u8 0, .int .u8 0, .int .u8 0, .int .u8 0, .int .u8 0, .int .u8 0, .int .u8 0, .int .u8 0, .int .u8 0, .int .u8 0, .int .u8 0, .int .u8 0, .int .u8 0, .int .u8 0, .int .u8 0, .int .u8 0, .int .u8 0, .int .u8 0, .int .u8 0, .int .u8 0, .int .u8 0, .int .u8 0, .int .u8 0, .int .u8 0, .int .u8 0, .int .u8 0, .int .u8 0, .int .u8 0, .int .u8 0, .int .u8 0, .int .u8 0, .int .u8 0, .int .u8 0, .int .u8 0, .int .u8 0, .int .u8 0, .int .u8 0, .int .u8 0, .int .u8 0, .int .u8 0, .int .u8 0, .int .u8 0, .int .u8 0, .int .u8 0, .int .u8 0, .int .u8 0, .int .u8 0, .int .u8 0, .int .u8 0, .int .u8 0, .int .u8 0, .int .u8 0, .int .u8 0, .int .u8 0, .int .u8 0, .int .u8 0, .int .u8 0, .int .u8 0, .int .u8 0, .int .u8 0, .int .u8 0, .int .u8 0, .int .u8 0, .int .u8 0, .int .u8 0, .int .u8 0, .int .u8 0, .int .u8 0, .int .u8 0, .int .u8 0, .int .u8 0, .int .u8 0, .int .u8 0, .int .u8 0, .int .u8 0, .int .u8 0, .int .u8 0, .int .u8 0, .int .u8 0, .int .u8 0, .int .u8 0, .int .u8 0, .int .u8 0, .int .u8 0, .int .u8 0, .int .u8 0, .int .u8 0, .int .u8 0, .int .u8 0, .int .u8 0, .int .u8 0, .int .u8 0, .int .u8 0, .int .u8 0, .int .u8 0, .int .u8 0, .int .u8 0, .int .u8 0, .int .u8 0, .int .u8 0, .int .u8 0, .int .u8 0, .int .u8 0], true⟩
theorem ok_62 : TIok Tryd.prog 62 ti_62 := ⟨by kernel_rfl, ⟨Tryd.t62, by kernel_rfl, by kernel_rfl, by kernel_rfl, _, rfl, by kernel_rfl⟩, fun _ => ⟨by kernel_rfl, by kernel_rfl⟩⟩
def ti_63 : TI := ⟨.func #[9, 64] #[30] false, 1, 8, [.nilFunc], false⟩
theorem ok_63 : TIok Tryd.prog 63 ti_63 := ⟨by kernel_rfl, ⟨Tryd.t63, by kernel_rfl, by kernel_rfl, by kernel_rfl, _, rfl, by kernel_rfl⟩, fun h => by cases h⟩
def ti_64 : TI := ⟨.func #[21] #[4] false, 1, 8, [.nilFunc], false⟩
theorem ok_64 : TIok Tryd.prog 64 ti_64 := ⟨by kernel_rfl, ⟨Tryd.t64, by kernel_rfl, by kernel_rfl, by kernel_rfl, _, rfl, by kernel_rfl⟩, fun h => by cases h⟩
def ti_65 : TI := ⟨.func #[3] #[4] false, 1, 8, [.nilFunc], false⟩
theorem ok_65 : TIok Tryd.prog 65 ti_65 := ⟨by kernel_rfl, ⟨Tryd.t65, by kernel_rfl, by kernel_rfl, by kernel_rfl, _, rfl, by kernel_rfl⟩, fun h => by cases h⟩
def ti_66 : TI := ⟨.int .u64, 1, 8, [.int .u64 0], false⟩
theorem ok_66 : TIok Tryd.prog 66 ti_66 := ⟨by kernel_rfl, ⟨Tryd.t66, by kernel_rfl, by kernel_rfl, by kernel_rfl, _, rfl, by kernel_rfl⟩, fun h => by cases h⟩
def ti_67 : TI := ⟨.slice 69, 1, 24, [.slice none 0 0], false⟩
theorem ok_67 : TIok Tryd.prog 67 ti_67 := ⟨by kernel_rfl, ⟨Tryd.t67, by kernel_rfl, by kernel_rfl, by kernel_rfl, _, rfl, by kernel_rfl⟩, fun h => by cases h⟩
def ti_68 : TI := ⟨.struct #[{ name := "start", type := 3, offset := 0, embedded := false, tag := "", pkgPath := "strings", byteOffset := 0 }, { name := "end", type := 3, offset := 1, embedded := false, tag := "", pkgPath := "strings", byteOffset := 8 }], 2, 16, [.int .i64 0, .int .i64 0], true⟩
theorem ok_68 : TIok Tryd.prog 68 ti_68 := ⟨by kernel_rfl, ⟨Tryd.t68, by kernel_rfl, by kernel_rfl, by kernel_rfl, _, rfl, by kernel_rfl⟩, fun _ => ⟨by kernel_rfl, by kernel_rfl⟩⟩
def ti_69 : TI := ⟨.struct #[{ name := "start", type := 3, offset := 0, embedded := false, tag := "", pkgPath := "strings", byteOffset := 0 }, { name := "end", type := 3, offset := 1, embedded := false, tag := "", pkgPath := "strings", byteOffset := 8 }], 2, 16, [.int .i64 0, .int .i64 0], true⟩
theorem ok_69 : TIok Tryd.prog 69 ti_69 := ⟨by kernel_rfl, ⟨Tryd.t69, by kernel_rfl, by kernel_rfl, by kernel_rfl, _, rfl, by kernel_rfl⟩, fun _ => ⟨by kernel_rfl, by kernel_rfl⟩⟩
def ti_70 : TI := ⟨.func #[71, 21] #[4] false, 1, 8, [.nilFunc], false⟩
theorem ok_70 : TIok Tryd.prog 70 ti_70 := ⟨by kernel_rfl, ⟨Tryd.t70, by kernel_rfl, by kernel_rfl, by kernel_rfl, _, rfl, by kernel_rfl⟩, fun h => by cases h⟩
def ti_71 : TI := ⟨.pointer 75, 1, 8, [.pointer none], false⟩
theorem ok_71 : TIok Tryd.prog 71 ti_71 := ⟨by kernel_rfl, ⟨Tryd.t71, by kernel_rfl, by kernel_rfl, by kernel_rfl, _, rfl, by kernel_rfl⟩, fun h => by cases h⟩
def ti_72 : TI := ⟨.slice 78, 1, 24, [.slice none 0 0], false⟩
theorem ok_72 : TIok Tryd.prog 72 ti_72 := ⟨by kernel_rfl, ⟨Tryd.t72, by kernel_rfl, by kernel_rfl, by kernel_rfl, _, rfl, by kernel_rfl⟩, fun h => by cases h⟩
def ti_73 : TI := ⟨.slice 81, 1, 24, [.slice none 0 0], false⟩
theorem ok_73 : TIok Tryd.prog 73 ti_73 := ⟨by kernel_rfl, ⟨Tryd.t73, by kernel_rfl, by kernel_rfl, by kernel_rfl, _, rfl, by kernel_rfl⟩, fun h => by cases h⟩
def ti_74 : TI := ⟨.struct #[{ name := "R16", type := 72, offset := 0, embedded := false, tag := "", pkgPath := "", byteOffset := 0 }, { name := "R32", type := 73, offset := 1, embedded := false, tag := "", pkgPath := "", byteOffset := 24 }, { name := "LatinOffset", type := 3, offset := 2, embedded := false, tag := "", pkgPath := "", byteOffset := 48 }], 3, 56, [.slice none 0 0, .slice none 0 0, .int .i64 0], true⟩
theorem ok_74 : TIok Tryd.prog 74 ti_74 := ⟨by kernel_rfl, ⟨Tryd.t74, by kernel_rfl, by kernel_rfl, by kernel_rfl, _, rfl, by kernel_rfl⟩, fun _ => ⟨by kernel_rfl, by kernel_rfl⟩⟩
def ti_75 : TI := ⟨.struct #[{ name := "R16", type := 72, offset := 0, embedded := false, tag := "", pkgPath := "", byteOffset := 0 }, { name := "R32", type := 73, offset := 1, embedded := false, tag := "", pkgPath := "", byteOffset := 24 }, { name := "LatinOffset", type := 3, offset := 2, embedded := false, tag := "", pkgPath := "", byteOffset := 48 }], 3, 56, [.slice none 0 0, .slice none 0 0, .int .i64 0], true⟩
theorem ok_75 : TIok Tryd.prog 75 ti_75 := ⟨by kernel_rfl, ⟨Tryd.t75, by kernel_rfl, by kernel_rfl, by kernel_rfl, _, rfl, by kernel_rfl⟩, fun _ => ⟨by kernel_rfl, by kernel_rfl⟩⟩
def ti_76 : TI := ⟨.int .u16, 1, 2, [.int .u16 0], false⟩
theorem ok_76 : TIok Tryd.prog 76 ti_76 := ⟨by kernel_rfl, ⟨Tryd.t76, by kernel_rfl, by kernel_rfl, by kernel_rfl, _, rfl, by kernel_rfl⟩, fun h => by cases h⟩
def ti_77 : TI := ⟨.struct #[{ name := "Lo", type := 76, offset := 0, embedded := false, tag := "", pkgPath := "", byteOffset := 0 }, { name := "Hi", type := 76, offset := 1, embedded := false, tag := "", pkgPath := "", byteOffset := 2 }, { name := "Stride", type := 76, offset := 2, embedded := false, tag := "", pkgPath := "", byteOffset := 4 }], 3, 6, [.int .u16 0, .int .u16 0, .int .u16 0], true⟩
theorem ok_77 : TIok Tryd.prog 77 ti_77 := ⟨by kernel_rfl, ⟨Tryd.t77, by kernel_rfl, by kernel_rfl, by kernel_rfl, _, rfl, by kernel_rfl⟩, fun _ => ⟨by kernel_rfl, by kernel_rfl⟩⟩
def ti_78 : TI := ⟨.struct #[{ name := "Lo", type := 76, offset := 0, embedded := false, tag := "", pkgPath := "", byteOffset := 0 }, { name := "Hi", type := 76, offset := 1, embedded := false, tag := "", pkgPath := "", byteOffset := 2 }, { name := "Stride", type := 76, offset := 2, embedded := false, tag := "", pkgPath := "", byteOffset := 4 }], 3, 6, [.int .u16 0, .int .u16 0, .int .u16 0], true⟩
theorem ok_78 : TIok Tryd.prog 78 ti_78 := ⟨by kernel_rfl, ⟨Tryd.t78, by kernel_rfl, by kernel_rfl, by kernel_rfl, _, rfl, by kernel_rfl⟩, fun _ => ⟨by kernel_rfl, by kernel_rfl⟩⟩
def ti_79 : TI := ⟨.func #[72, 76] #[4] false, 1, 8, [.nilFunc], false⟩
theorem ok_79 : TIok Tryd.prog 79 ti_79 := ⟨by kernel_rfl, ⟨Tryd.t79, by kernel_rfl, by kernel_rfl, by kernel_rfl, _, rfl, by kernel_rfl⟩, fun h => by cases h⟩
def ti_80 : TI := ⟨.struct #[{ name := "Lo", type := 23, offset := 0, embedded := false, tag := "", pkgPath := "", byteOffset := 0 }, { name := "Hi", type := 23, offset := 1, embedded := false, tag := "", pkgPath := "", byteOffset := 4 }, { name := "Stride", type := 23, offset := 2, embedded := false, tag := "", pkgPath := "", byteOffset := 8 }], 3, 12, [.int .u32 0, .int .u32 0, .int .u32 0], true⟩
theorem ok_80 : TIok Tryd.prog 80 ti_80 := ⟨by kernel_rfl, ⟨Tryd.t80, by kernel_rfl, by kernel_rfl, by kernel_rfl, _, rfl, by kernel_rfl⟩, fun _ => ⟨by kernel_rfl, by kernel_rfl⟩⟩
def ti_81 : TI := ⟨.struct #[{ name := "Lo", type := 23, offset := 0, embedded := false, tag := "", pkgPath := "", byteOffset := 0 }, { name := "Hi", type := 23, offset := 1, embedded := false, tag := "", pkgPath := "", byteOffset := 4 }, { name := "Stride", type := 23, offset := 2, embedded := false, tag := "", pkgPath := "", byteOffset := 8 }], 3, 12, [.int .u32 0, .int .u32 0, .int .u32 0], true⟩
theorem ok_81 : TIok Tryd.prog 81 ti_81 := ⟨by kernel_rfl, ⟨Tryd.t81, by kernel_rfl, by kernel_rfl, by kernel_rfl, _, rfl, by kernel_rfl⟩, fun _ => ⟨by kernel_rfl, by kernel_rfl⟩⟩
def ti_82 : TI := ⟨.func #[73, 23] #[4] false, 1, 8, [.nilFunc], false⟩
theorem ok_82 : TIok Tryd.prog 82 ti_82 := ⟨by kernel_rfl, ⟨Tryd.t82, by kernel_rfl, by kernel_rfl, by kernel_rfl, _, rfl, by kernel_rfl⟩, fun h => by cases h⟩
def ti_83 : TI := ⟨.pointer 78, 1, 8, [.pointer none], false⟩
theorem ok_83 : TIok Tryd.prog 83 ti_83 := ⟨by kernel_rfl, ⟨Tryd.t83, by kernel_rfl, by kernel_rfl, by kernel_rfl, _, rfl, by kernel_rfl⟩, fun h => by cases h⟩
def ti_84 : TI := ⟨.pointer 81, 1, 8, [.pointer none], false⟩
theorem ok_84 : TIok Tryd.prog 84 ti_84 := ⟨by kernel_rfl, ⟨Tryd.t84, by kernel_rfl, by kernel_rfl, by kernel_rfl, _, rfl, by kernel_rfl⟩, fun h => by cases h⟩
def ti_85 : TI := ⟨.func #[] #[9] false, 1, 8, [.nilFunc], false⟩
theorem ok_85 : TIok Tryd.prog 85 ti_85 := ⟨by kernel_rfl, ⟨Tryd.t85, by kernel_rfl, by kernel_rfl, by kernel_rfl, _, rfl, by kernel_rfl⟩, fun h => by cases h⟩
def ti_86 : TI := ⟨.struct #[{ name := "_interface", type := 17, offset := 0, embedded := false, tag := "", pkgPath := "runtime", byteOffset := 0 }, { name := "concrete", type := 17, offset := 1, embedded := false, tag := "", pkgPath := "runtime", byteOffset := 8 }, { name := "asserted", type := 17, offset := 2, embedded := false, tag := "", pkgPath := "runtime", byteOffset := 16 }, { name := "missingMethod", type := 9, offset := 3, embedded := false, tag := "", pkgPath := "runtime", byteOffset := 24 }], 4, 40, [.pointer none, .pointer none, .pointer none, .string { data := { toList := [] } }], false⟩
theorem ok_86 : TIok Tryd.prog 86 ti_86 := ⟨by kernel_rfl, ⟨Tryd.t86, by kernel_rfl, by kernel_rfl, by kernel_rfl, _, rfl, by kernel_rfl⟩, fun h => by cases h⟩
def ti_87 : TI := ⟨.struct #[{ name := "_interface", type := 17, offset := 0, embedded := false, tag := "", pkgPath := "runtime", byteOffset := 0 }, { name := "concrete", type := 17, offset := 1, embedded := false, tag := "", pkgPath := "runtime", byteOffset := 8 }, { name := "asserted", type := 17, offset := 2, embedded := false, tag := "", pkgPath := "runtime", byteOffset := 16 }, { name := "missingMethod", type := 9, offset := 3, embedded := false, tag := "", pkgPath := "runtime", byteOffset := 24 }], 4, 40, [.pointer none, .pointer none, .pointer none, .string { data := { toList := [] } }], false⟩
theorem ok_87 : TIok Tryd.prog 87 ti_87 := ⟨by kernel_rfl, ⟨Tryd.t87, by kernel_rfl, by kernel_rfl, by kernel_rfl, _, rfl, by kernel_rfl⟩, fun h => by cases h⟩
def ti_88 : TI := ⟨.array 0 16, 0, 0, [], true⟩
theorem ok_88 : TIok Tryd.prog 88 ti_88 := ⟨by kernel_rfl, ⟨Tryd.t88, by kernel_rfl, by kernel_rfl, by kernel_rfl, _, rfl, by kernel_rfl⟩, fun _ => ⟨by kernel_rfl, by kernel_rfl⟩⟩
def ti_89 : TI := ⟨.struct #[{ name := "_", type := 88, offset := 0, embedded := false, tag := "", pkgPath := "runtime", byteOffset := 0 }], 0, 0, [], false⟩
theorem ok_89 : TIok Tryd.prog 89 ti_89 := ⟨by kernel_rfl, ⟨Tryd.t89, by kernel_rfl, by kernel_rfl, by kernel_rfl, _, rfl, by kernel_rfl⟩, fun h => by cases h⟩
def ti_90 : TI := ⟨.struct #[{ name := "_", type := 88, offset := 0, embedded := false, tag := "", pkgPath := "runtime", byteOffset := 0 }], 0, 0, [], false⟩
theorem ok_90 : TIok Tryd.prog 90 ti_90 := ⟨by kernel_rfl, ⟨Tryd.t90, by kernel_rfl, by kernel_rfl, by kernel_rfl, _, rfl, by kernel_rfl⟩, fun h => by cases h⟩
def ti_91 : TI := ⟨.func #[] #[3] false, 1, 8, [.nilFunc], false⟩
theorem ok_91 : TIok Tryd.prog 91 ti_91 := ⟨by kernel_rfl, ⟨Tryd.t91, by kernel_rfl, by kernel_rfl, by kernel_rfl, _, rfl, by kernel_rfl⟩, fun h => by cases h⟩
def ti_92 : TI := ⟨.int .u8, 1, 1, [.int .u8 0], false⟩
theorem ok_92 : TIok Tryd.prog 92 ti_92 := ⟨by kernel_rfl, ⟨Tryd.t92, by kernel_rfl, by kernel_rfl, by kernel_rfl, _, rfl, by kernel_rfl⟩, fun h => by cases h⟩
def ti_93 : TI := ⟨.int .u8, 1, 1, [.int .u8 0], false⟩
theorem ok_93 : TIok Tryd.prog 93 ti_93 := ⟨by kernel_rfl, ⟨Tryd.t93, by kernel_rfl, by kernel_rfl, by kernel_rfl, _, rfl, by kernel_rfl⟩, fun h => by cases h⟩
def ti_94 : TI := ⟨.func #[100, 100] #[4] false, 1, 8, [.nilFunc], false⟩
theorem ok_94 : TIok Tryd.prog 94 ti_94 := ⟨by kernel_rfl, ⟨Tryd.t94, by kernel_rfl, by kernel_rfl, by kernel_rfl, _, rfl, by kernel_rfl⟩, fun h => by cases h⟩
def ti_95 : TI := ⟨.pointer 5, 1, 8, [.pointer none], false⟩
theorem ok_95 : TIok Tryd.prog 95 ti_95 := ⟨by kernel_rfl, ⟨Tryd.t95, by kernel_rfl, by kernel_rfl, by kernel_rfl, _, rfl, by kernel_rfl⟩, fun h => by cases h⟩
def ti_96 : TI := ⟨.int .i32, 1, 4, [.int .i32 0], false⟩
theorem ok_96 : TIok Tryd.prog 96 ti_96 := ⟨by kernel_rfl, ⟨Tryd.t96, by kernel_rfl, by kernel_rfl, by kernel_rfl, _, rfl, by kernel_rfl⟩, fun h => by cases h⟩
def ti_97 : TI := ⟨.int .i32, 1, 4, [.int .i32 0], false⟩
theorem ok_97 : TIok Tryd.prog 97 ti_97 := ⟨by kernel_rfl, ⟨Tryd.t97, by kernel_rfl, by kernel_rfl, by kernel_rfl, _, rfl, by kernel_rfl⟩, fun h => by cases h⟩
def ti_98 : TI := ⟨.struct #[{ name := "Size_", type := 12, offset := 0, embedded := false, tag := "", pkgPath := "", byteOffset := 0 }, { name := "PtrBytes", type := 12, offset := 1, embedded := false, tag := "", pkgPath := "", byteOffset := 8 }, { name := "Hash", type := 23, offset := 2, embedded := false, tag := "", pkgPath := "", byteOffset := 16 }, { name := "TFlag", type := 92, offset := 3, embedded := false, tag := "", pkgPath := "", byteOffset := 20 }, { name := "Align_", type := 5, offset := 4, embedded := false, tag := "", pkgPath := "", byteOffset := 21 }, { name := "FieldAlign_", type := 5, offset := 5, embedded := false, tag := "", pkgPath := "", byteOffset := 22 }, { name := "Kind_", type := 93, offset := 6, embedded := false, tag := "", pkgPath := "", byteOffset := 23 }, { name := "Equal", type := 94, offset := 7, embedded := false, tag := "", pkgPath := "", byteOffset := 24 }, { name := "GCData", type := 95, offset := 8, embedded := false, tag := "", pkgPath := "", byteOffset := 32 }, { name := "Str", type := 96, offset := 9, embedded := false, tag := "", pkgPath := "", byteOffset := 40 }, { name := "PtrToThis", type := 97, offset := 10, embedded := false, tag := "", pkgPath := "", byteOffset := 44 }], 11, 48, [.int .u64 0, .int .u64 0, .int .u32 0, .int .u8 0, .int .u8 0, .int .u8 0, .int .u8 0, .nilFunc, .pointer none, .int .i32 0, .int .i32 0], false⟩
theorem ok_98 : TIok Tryd.prog 98 ti_98 := ⟨by kernel_rfl, ⟨Tryd.t98, by kernel_rfl, by kernel_rfl, by kernel_rfl, _, rfl, by kernel_rfl⟩, fun h => by cases h⟩
def ti_99 : TI := ⟨.struct #[{ name := "Size_", type := 12, offset := 0, embedded := false, tag := "", pkgPath := "", byteOffset := 0 }, { name := "PtrBytes", type := 12, offset := 1, embedded := false, tag := "", pkgPath := "", byteOffset := 8 }, { name := "Hash", type := 23, offset := 2, embedded := false, tag := "", pkgPath := "", byteOffset := 16 }, { name := "TFlag", type := 92, offset := 3, embedded := false, tag := "", pkgPath := "", byteOffset := 20 }, { name := "Align_", type := 5, offset := 4, embedded := false, tag := "", pkgPath := "", byteOffset := 21 }, { name := "FieldAlign_", type := 5, offset := 5, embedded := false, tag := "", pkgPath := "", byteOffset := 22 }, { name := "Kind_", type := 93, offset := 6, embedded := false, tag := "", pkgPath := "", byteOffset := 23 }, { name := "Equal", type := 94, offset := 7, embedded := false, tag := "", pkgPath := "", byteOffset := 24 }, { name := "GCData", type := 95, offset := 8, embedded := false, tag := "", pkgPath := "", byteOffset := 32 }, { name := "Str", type := 96, offset := 9, embedded := false, tag := "", pkgPath := "", byteOffset := 40 }, { name := "PtrToThis", type := 97, offset := 10, embedded := false, tag := "", pkgPath := "", byteOffset := 44 }], 11, 48, [.int .u64 0, .int .u64 0, .int .u32 0, .int .u8 0, .int .u8 0, .int .u8 0, .int .u8 0, .nilFunc, .pointer none, .int .i32 0, .int .i32 0], false⟩
theorem ok_99 : TIok Tryd.prog 99 ti_99 := ⟨by kernel_rfl, ⟨Tryd.t99, by kernel_rfl, by kernel_rfl, by kernel_rfl, _, rfl, by kernel_rfl⟩, fun h => by cases h⟩
def tc : List (Nat × TI) := [(1, ti_1), (2, ti_2), (3, ti_3), (4, ti_4), (5, ti_5), (6, ti_6), (7, ti_7), (8, ti_8), (9, ti_9), (10, ti_10), (11, ti_11), (12, ti_12), (13, ti_13), (14, ti_14), (15, ti_15), (16, ti_16), (17, ti_17), (18, ti_18), (19, ti_19), (21, ti_21), (22, ti_22), (23, ti_23), (24, ti_24), (25, ti_25), (26, ti_26), (27, ti_27), (28, ti_28), (29, ti_29), (30, ti_30), (31, ti_31), (32, ti_32), (33, ti_33), (34, ti_34), (35, ti_35), (36, ti_36), (37, ti_37), (38, ti_38), (39, ti_39), (40, ti_40), (41, ti_41), (42, ti_42), (43, ti_43), (44, ti_44), (46, ti_46), (48, ti_48), (49, ti_49), (50, ti_50), (51, ti_51), (52, ti_52), (53, ti_53), (54, ti_54), (55, ti_55), (56, ti_56), (57, ti_57), (58, ti_58), (60, ti_60), (61, ti_61), (62, ti_62), (63, ti_63), (64, ti_64), (65, ti_65), (66, ti_66), (67, ti_67), (68, ti_68), (69, ti_69), (70, ti_70), (71, ti_71), (72, ti_72), (73, ti_73), (74, ti_74), (75, ti_75), (76, ti_76), (77, ti_77), (78, ti_78), (79, ti_79), (80, ti_80), (81, ti_81), (82, ti_82), (83, ti_83), (84, ti_84), (85, ti_85), (86, ti_86), (87, ti_87), (88, ti_88), (89, ti_89), (90, ti_90), (91, ti_91), (92, ti_92), (93, ti_93), (94, ti_94), (95, ti_95), (96, ti_96), (97, ti_97), (98, ti_98), (99, ti_99)]
theorem tcok : TCok Tryd.prog tc := ⟨ok_1, ⟨ok_2, ⟨ok_3, ⟨ok_4, ⟨ok_5, ⟨ok_6, ⟨ok_7, ⟨ok_8, ⟨ok_9, ⟨ok_10, ⟨ok_11, ⟨ok_12, ⟨ok_13, ⟨ok_14, ⟨ok_15, ⟨ok_16, ⟨ok_17, ⟨ok_18, ⟨ok_19, ⟨ok_21, ⟨ok_22, ⟨ok_23, ⟨ok_24, ⟨ok_25, ⟨ok_26, ⟨ok_27, ⟨ok_28, ⟨ok_29, ⟨ok_30, ⟨ok_31, ⟨ok_32, ⟨ok_33, ⟨ok_34, ⟨ok_35, ⟨ok_36, ⟨ok_37, ⟨ok_38, ⟨ok_39, ⟨ok_40, ⟨ok_41, ⟨ok_42, ⟨ok_43, ⟨ok_44, ⟨ok_46, ⟨ok_48, ⟨ok_49, ⟨ok_50, ⟨ok_51, ⟨ok_52, ⟨ok_53, ⟨ok_54, ⟨ok_55, ⟨ok_56, ⟨ok_57, ⟨ok_58, ⟨ok_60, ⟨ok_61, ⟨ok_62, ⟨ok_63, ⟨ok_64, ⟨ok_65, ⟨ok_66, ⟨ok_67, ⟨ok_68, ⟨ok_69, ⟨ok_70, ⟨ok_71, ⟨ok_72, ⟨ok_73, ⟨ok_74, ⟨ok_75, ⟨ok_76, ⟨ok_77, ⟨ok_78, ⟨ok_79, ⟨ok_80, ⟨ok_81, ⟨ok_82, ⟨ok_83, ⟨ok_84, ⟨ok_85, ⟨ok_86, ⟨ok_87, ⟨ok_88, ⟨ok_89, ⟨ok_90, ⟨ok_91, ⟨ok_92, ⟨ok_93, ⟨ok_94, ⟨ok_95, ⟨ok_96, ⟨ok_97, ⟨ok_98, ⟨ok_99, trivial⟩⟩⟩⟩⟩⟩⟩⟩⟩⟩⟩⟩⟩⟩⟩⟩⟩⟩⟩⟩⟩⟩⟩⟩⟩⟩⟩⟩⟩⟩⟩⟩⟩⟩⟩⟩⟩⟩⟩⟩⟩⟩⟩⟩⟩⟩⟩⟩⟩⟩⟩⟩⟩⟩⟩⟩⟩⟩⟩⟩⟩⟩⟩⟩⟩⟩⟩⟩⟩⟩⟩⟩⟩⟩⟩⟩⟩⟩⟩⟩⟩⟩⟩⟩⟩⟩⟩⟩⟩⟩⟩⟩⟩⟩⟩
theorem hmix : Tryd.prog.follows .mixedOrders = true := by kernel_rfl
end Go.Proofs.YtlfjnkobnkfioaaDoor
