/- The types of this seat's program, as a table, and that they are the program's. Written by a program of mine. -/
import Derived.Test.YtmeiemdnhjnpcaaProg
import Derived.Test.YtmeiemdnhjnpcaaAb24
import Derived.KernelRfl
namespace Go.Proofs.Ytmeiemdnhjnpcaa
open Go.Ab
def ti_1 : TI := ⟨.func #[] #[] false, 1, 8, [.nilFunc], false⟩
theorem ok_1 : TIok Try.prog 1 ti_1 := ⟨by kernel_rfl, ⟨Try.t1, by kernel_rfl, by kernel_rfl, by kernel_rfl, _, rfl, by kernel_rfl⟩, fun h => by cases h⟩
def ti_2 : TI := ⟨.int .i64, 1, 8, [.int .i64 0], false⟩
theorem ok_2 : TIok Try.prog 2 ti_2 := ⟨by kernel_rfl, ⟨Try.t2, by kernel_rfl, by kernel_rfl, by kernel_rfl, _, rfl, by kernel_rfl⟩, fun h => by cases h⟩
def ti_3 : TI := ⟨.int .i64, 1, 8, [.int .i64 0], false⟩
theorem ok_3 : TIok Try.prog 3 ti_3 := ⟨by kernel_rfl, ⟨Try.t3, by kernel_rfl, by kernel_rfl, by kernel_rfl, _, rfl, by kernel_rfl⟩, fun h => by cases h⟩
def ti_4 : TI := ⟨.bool, 1, 1, [.bool false], false⟩
theorem ok_4 : TIok Try.prog 4 ti_4 := ⟨by kernel_rfl, ⟨Try.t4, by kernel_rfl, by kernel_rfl, by kernel_rfl, _, rfl, by kernel_rfl⟩, fun h => by cases h⟩
def ti_5 : TI := ⟨.int .u8, 1, 1, [.int .u8 0], false⟩
theorem ok_5 : TIok Try.prog 5 ti_5 := ⟨by kernel_rfl, ⟨Try.t5, by kernel_rfl, by kernel_rfl, by kernel_rfl, _, rfl, by kernel_rfl⟩, fun h => by cases h⟩
def ti_6 : TI := ⟨.int .u8, 1, 1, [.int .u8 0], false⟩
theorem ok_6 : TIok Try.prog 6 ti_6 := ⟨by kernel_rfl, ⟨Try.t6, by kernel_rfl, by kernel_rfl, by kernel_rfl, _, rfl, by kernel_rfl⟩, fun h => by cases h⟩
def ti_7 : TI := ⟨.struct #[{ name := "x", type := 2, offset := 0, embedded := false, tag := "", pkgPath := "runtime", byteOffset := 0 }, { name := "y", type := 3, offset := 1, embedded := false, tag := "", pkgPath := "runtime", byteOffset := 8 }, { name := "signed", type := 4, offset := 2, embedded := false, tag := "", pkgPath := "runtime", byteOffset := 16 }, { name := "code", type := 6, offset := 3, embedded := false, tag := "", pkgPath := "runtime", byteOffset := 17 }], 4, 24, [.int .i64 0, .int .i64 0, .bool false, .int .u8 0], true⟩
theorem ok_7 : TIok Try.prog 7 ti_7 := ⟨by kernel_rfl, ⟨Try.t7, by kernel_rfl, by kernel_rfl, by kernel_rfl, _, rfl, by kernel_rfl⟩, fun _ => ⟨by kernel_rfl, by kernel_rfl⟩⟩
def ti_8 : TI := ⟨.struct #[{ name := "x", type := 2, offset := 0, embedded := false, tag := "", pkgPath := "runtime", byteOffset := 0 }, { name := "y", type := 3, offset := 1, embedded := false, tag := "", pkgPath := "runtime", byteOffset := 8 }, { name := "signed", type := 4, offset := 2, embedded := false, tag := "", pkgPath := "runtime", byteOffset := 16 }, { name := "code", type := 6, offset := 3, embedded := false, tag := "", pkgPath := "runtime", byteOffset := 17 }], 4, 24, [.int .i64 0, .int .i64 0, .bool false, .int .u8 0], true⟩
theorem ok_8 : TIok Try.prog 8 ti_8 := ⟨by kernel_rfl, ⟨Try.t8, by kernel_rfl, by kernel_rfl, by kernel_rfl, _, rfl, by kernel_rfl⟩, fun _ => ⟨by kernel_rfl, by kernel_rfl⟩⟩
def ti_9 : TI := ⟨.string, 1, 16, [.string { data := { toList := [] } }], false⟩
theorem ok_9 : TIok Try.prog 9 ti_9 := ⟨by kernel_rfl, ⟨Try.t9, by kernel_rfl, by kernel_rfl, by kernel_rfl, _, rfl, by kernel_rfl⟩, fun h => by cases h⟩
def ti_10 : TI := ⟨.string, 1, 16, [.string { data := { toList := [] } }], false⟩
theorem ok_10 : TIok Try.prog 10 ti_10 := ⟨by kernel_rfl, ⟨Try.t10, by kernel_rfl, by kernel_rfl, by kernel_rfl, _, rfl, by kernel_rfl⟩, fun h => by cases h⟩
def ti_11 : TI := ⟨.string, 1, 16, [.string { data := { toList := [] } }], false⟩
theorem ok_11 : TIok Try.prog 11 ti_11 := ⟨by kernel_rfl, ⟨Try.t11, by kernel_rfl, by kernel_rfl, by kernel_rfl, _, rfl, by kernel_rfl⟩, fun h => by cases h⟩
def ti_12 : TI := ⟨.int .u64, 1, 8, [.int .u64 0], false⟩
theorem ok_12 : TIok Try.prog 12 ti_12 := ⟨by kernel_rfl, ⟨Try.t12, by kernel_rfl, by kernel_rfl, by kernel_rfl, _, rfl, by kernel_rfl⟩, fun h => by cases h⟩
def ti_13 : TI := ⟨.struct #[{ name := "msg", type := 9, offset := 0, embedded := false, tag := "", pkgPath := "runtime", byteOffset := 0 }, { name := "addr", type := 12, offset := 1, embedded := false, tag := "", pkgPath := "runtime", byteOffset := 16 }], 2, 24, [.string { data := { toList := [] } }, .int .u64 0], false⟩
theorem ok_13 : TIok Try.prog 13 ti_13 := ⟨by kernel_rfl, ⟨Try.t13, by kernel_rfl, by kernel_rfl, by kernel_rfl, _, rfl, by kernel_rfl⟩, fun h => by cases h⟩
def ti_14 : TI := ⟨.struct #[{ name := "msg", type := 9, offset := 0, embedded := false, tag := "", pkgPath := "runtime", byteOffset := 0 }, { name := "addr", type := 12, offset := 1, embedded := false, tag := "", pkgPath := "runtime", byteOffset := 16 }], 2, 24, [.string { data := { toList := [] } }, .int .u64 0], false⟩
theorem ok_14 : TIok Try.prog 14 ti_14 := ⟨by kernel_rfl, ⟨Try.t14, by kernel_rfl, by kernel_rfl, by kernel_rfl, _, rfl, by kernel_rfl⟩, fun h => by cases h⟩
def ti_15 : TI := ⟨.pointer 117, 1, 8, [.pointer none], false⟩
theorem ok_15 : TIok Try.prog 15 ti_15 := ⟨by kernel_rfl, ⟨Try.t15, by kernel_rfl, by kernel_rfl, by kernel_rfl, _, rfl, by kernel_rfl⟩, fun h => by cases h⟩
def ti_16 : TI := ⟨.pointer 120, 1, 8, [.pointer none], false⟩
theorem ok_16 : TIok Try.prog 16 ti_16 := ⟨by kernel_rfl, ⟨Try.t16, by kernel_rfl, by kernel_rfl, by kernel_rfl, _, rfl, by kernel_rfl⟩, fun h => by cases h⟩
def ti_17 : TI := ⟨.pointer 128, 1, 8, [.pointer none], false⟩
theorem ok_17 : TIok Try.prog 17 ti_17 := ⟨by kernel_rfl, ⟨Try.t17, by kernel_rfl, by kernel_rfl, by kernel_rfl, _, rfl, by kernel_rfl⟩, fun h => by cases h⟩
def ti_18 : TI := ⟨.struct #[{ name := "typ", type := 17, offset := 0, embedded := false, tag := "", pkgPath := "internal/runtime/maps", byteOffset := 0 }], 1, 8, [.pointer none], false⟩
theorem ok_18 : TIok Try.prog 18 ti_18 := ⟨by kernel_rfl, ⟨Try.t18, by kernel_rfl, by kernel_rfl, by kernel_rfl, _, rfl, by kernel_rfl⟩, fun h => by cases h⟩
def ti_19 : TI := ⟨.struct #[{ name := "typ", type := 17, offset := 0, embedded := false, tag := "", pkgPath := "internal/runtime/maps", byteOffset := 0 }], 1, 8, [.pointer none], false⟩
theorem ok_19 : TIok Try.prog 19 ti_19 := ⟨by kernel_rfl, ⟨Try.t19, by kernel_rfl, by kernel_rfl, by kernel_rfl, _, rfl, by kernel_rfl⟩, fun h => by cases h⟩
def ti_21 : TI := ⟨.int .i32, 1, 4, [.int .i32 0], false⟩
theorem ok_21 : TIok Try.prog 21 ti_21 := ⟨by kernel_rfl, ⟨Try.t21, by kernel_rfl, by kernel_rfl, by kernel_rfl, _, rfl, by kernel_rfl⟩, fun h => by cases h⟩
def ti_22 : TI := ⟨.int .u16, 1, 2, [.int .u16 0], false⟩
theorem ok_22 : TIok Try.prog 22 ti_22 := ⟨by kernel_rfl, ⟨Try.t22, by kernel_rfl, by kernel_rfl, by kernel_rfl, _, rfl, by kernel_rfl⟩, fun h => by cases h⟩
def ti_23 : TI := ⟨.int .u16, 1, 2, [.int .u16 0], false⟩
theorem ok_23 : TIok Try.prog 23 ti_23 := ⟨by kernel_rfl, ⟨Try.t23, by kernel_rfl, by kernel_rfl, by kernel_rfl, _, rfl, by kernel_rfl⟩, fun h => by cases h⟩
def ti_24 : TI := ⟨.array 6 5, 6, 6, [.int .u8 0, .int .u8 0, .int .u8 0, .int .u8 0, .int .u8 0, .int .u8 0], true⟩
theorem ok_24 : TIok Try.prog 24 ti_24 := ⟨by kernel_rfl, ⟨Try.t24, by kernel_rfl, by kernel_rfl, by kernel_rfl, _, rfl, by kernel_rfl⟩, fun _ => ⟨by kernel_rfl, by kernel_rfl⟩⟩
def ti_25 : TI := ⟨.int .i8, 1, 1, [.int .i8 0], false⟩
theorem ok_25 : TIok Try.prog 25 ti_25 := ⟨by kernel_rfl, ⟨Try.t25, by kernel_rfl, by kernel_rfl, by kernel_rfl, _, rfl, by kernel_rfl⟩, fun h => by cases h⟩
def ti_26 : TI := ⟨.array 6 25, 6, 6, [.int .i8 0, .int .i8 0, .int .i8 0, .int .i8 0, .int .i8 0, .int .i8 0], true⟩
theorem ok_26 : TIok Try.prog 26 ti_26 := ⟨by kernel_rfl, ⟨Try.t26, by kernel_rfl, by kernel_rfl, by kernel_rfl, _, rfl, by kernel_rfl⟩, fun _ => ⟨by kernel_rfl, by kernel_rfl⟩⟩
def ti_27 : TI := ⟨.struct #[{ name := "Failed", type := 23, offset := 0, embedded := false, tag := "", pkgPath := "", byteOffset := 0 }, { name := "Inhibited", type := 23, offset := 1, embedded := false, tag := "", pkgPath := "", byteOffset := 2 }, { name := "Retry", type := 24, offset := 2, embedded := false, tag := "", pkgPath := "", byteOffset := 4 }, { name := "Chain", type := 26, offset := 8, embedded := false, tag := "", pkgPath := "", byteOffset := 10 }, { name := "Mode", type := 5, offset := 14, embedded := false, tag := "", pkgPath := "", byteOffset := 16 }, { name := "Resets", type := 22, offset := 15, embedded := false, tag := "", pkgPath := "", byteOffset := 18 }, { name := "Exhausted", type := 4, offset := 16, embedded := false, tag := "", pkgPath := "", byteOffset := 20 }, { name := "Inhibit", type := 5, offset := 17, embedded := false, tag := "", pkgPath := "", byteOffset := 21 }], 18, 22, [.int .u16 0, .int .u16 0, .int .u8 0, .int .u8 0, .int .u8 0, .int .u8 0, .int .u8 0, .int .u8 0, .int .i8 0, .int .i8 0, .int .i8 0, .int .i8 0, .int .i8 0, .int .i8 0, .int .u8 0, .int .u16 0, .bool false, .int .u8 0], true⟩
theorem ok_27 : TIok Try.prog 27 ti_27 := ⟨by kernel_rfl, ⟨Try.t27, by kernel_rfl, by kernel_rfl, by kernel_rfl, _, rfl, by kernel_rfl⟩, fun _ => ⟨by kernel_rfl, by kernel_rfl⟩⟩
def ti_28 : TI := ⟨.struct #[{ name := "Failed", type := 23, offset := 0, embedded := false, tag := "", pkgPath := "", byteOffset := 0 }, { name := "Inhibited", type := 23, offset := 1, embedded := false, tag := "", pkgPath := "", byteOffset := 2 }, { name := "Retry", type := 24, offset := 2, embedded := false, tag := "", pkgPath := "", byteOffset := 4 }, { name := "Chain", type := 26, offset := 8, embedded := false, tag := "", pkgPath := "", byteOffset := 10 }, { name := "Mode", type := 5, offset := 14, embedded := false, tag := "", pkgPath := "", byteOffset := 16 }, { name := "Resets", type := 22, offset := 15, embedded := false, tag := "", pkgPath := "", byteOffset := 18 }, { name := "Exhausted", type := 4, offset := 16, embedded := false, tag := "", pkgPath := "", byteOffset := 20 }, { name := "Inhibit", type := 5, offset := 17, embedded := false, tag := "", pkgPath := "", byteOffset := 21 }], 18, 22, [.int .u16 0, .int .u16 0, .int .u8 0, .int .u8 0, .int .u8 0, .int .u8 0, .int .u8 0, .int .u8 0, .int .i8 0, .int .i8 0, .int .i8 0, .int .i8 0, .int .i8 0, .int .i8 0, .int .u8 0, .int .u16 0, .bool false, .int .u8 0], true⟩
theorem ok_28 : TIok Try.prog 28 ti_28 := ⟨by kernel_rfl, ⟨Try.t28, by kernel_rfl, by kernel_rfl, by kernel_rfl, _, rfl, by kernel_rfl⟩, fun _ => ⟨by kernel_rfl, by kernel_rfl⟩⟩
def ti_29 : TI := ⟨.slice 5, 1, 24, [.slice none 0 0], false⟩
theorem ok_29 : TIok Try.prog 29 ti_29 := ⟨by kernel_rfl, ⟨Try.t29, by kernel_rfl, by kernel_rfl, by kernel_rfl, _, rfl, by kernel_rfl⟩, fun h => by cases h⟩
def ti_30 : TI := ⟨.func #[] #[4] false, 1, 8, [.nilFunc], false⟩
theorem ok_30 : TIok Try.prog 30 ti_30 := ⟨by kernel_rfl, ⟨Try.t30, by kernel_rfl, by kernel_rfl, by kernel_rfl, _, rfl, by kernel_rfl⟩, fun h => by cases h⟩
def ti_31 : TI := ⟨.func #[29, 3] #[29] false, 1, 8, [.nilFunc], false⟩
theorem ok_31 : TIok Try.prog 31 ti_31 := ⟨by kernel_rfl, ⟨Try.t31, by kernel_rfl, by kernel_rfl, by kernel_rfl, _, rfl, by kernel_rfl⟩, fun h => by cases h⟩
def ti_32 : TI := ⟨.func #[] #[29] false, 1, 8, [.nilFunc], false⟩
theorem ok_32 : TIok Try.prog 32 ti_32 := ⟨by kernel_rfl, ⟨Try.t32, by kernel_rfl, by kernel_rfl, by kernel_rfl, _, rfl, by kernel_rfl⟩, fun h => by cases h⟩
def ti_33 : TI := ⟨.func #[35] #[4] false, 1, 8, [.nilFunc], false⟩
theorem ok_33 : TIok Try.prog 33 ti_33 := ⟨by kernel_rfl, ⟨Try.t33, by kernel_rfl, by kernel_rfl, by kernel_rfl, _, rfl, by kernel_rfl⟩, fun h => by cases h⟩
def ti_34 : TI := ⟨.struct #[{ name := "Failed", type := 22, offset := 0, embedded := false, tag := "", pkgPath := "", byteOffset := 0 }, { name := "Inhibited", type := 22, offset := 1, embedded := false, tag := "", pkgPath := "", byteOffset := 2 }, { name := "Retry", type := 24, offset := 2, embedded := false, tag := "", pkgPath := "", byteOffset := 4 }, { name := "Chain", type := 26, offset := 8, embedded := false, tag := "", pkgPath := "", byteOffset := 10 }, { name := "Mode", type := 5, offset := 14, embedded := false, tag := "", pkgPath := "", byteOffset := 16 }, { name := "Resets", type := 22, offset := 15, embedded := false, tag := "", pkgPath := "", byteOffset := 18 }, { name := "Exhausted", type := 4, offset := 16, embedded := false, tag := "", pkgPath := "", byteOffset := 20 }, { name := "Inhibit", type := 5, offset := 17, embedded := false, tag := "", pkgPath := "", byteOffset := 21 }], 18, 22, [.int .u16 0, .int .u16 0, .int .u8 0, .int .u8 0, .int .u8 0, .int .u8 0, .int .u8 0, .int .u8 0, .int .i8 0, .int .i8 0, .int .i8 0, .int .i8 0, .int .i8 0, .int .i8 0, .int .u8 0, .int .u16 0, .bool false, .int .u8 0], true⟩
theorem ok_34 : TIok Try.prog 34 ti_34 := ⟨by kernel_rfl, ⟨Try.t34, by kernel_rfl, by kernel_rfl, by kernel_rfl, _, rfl, by kernel_rfl⟩, fun _ => ⟨by kernel_rfl, by kernel_rfl⟩⟩
def ti_35 : TI := ⟨.struct #[{ name := "Failed", type := 22, offset := 0, embedded := false, tag := "", pkgPath := "", byteOffset := 0 }, { name := "Inhibited", type := 22, offset := 1, embedded := false, tag := "", pkgPath := "", byteOffset := 2 }, { name := "Retry", type := 24, offset := 2, embedded := false, tag := "", pkgPath := "", byteOffset := 4 }, { name := "Chain", type := 26, offset := 8, embedded := false, tag := "", pkgPath := "", byteOffset := 10 }, { name := "Mode", type := 5, offset := 14, embedded := false, tag := "", pkgPath := "", byteOffset := 16 }, { name := "Resets", type := 22, offset := 15, embedded := false, tag := "", pkgPath := "", byteOffset := 18 }, { name := "Exhausted", type := 4, offset := 16, embedded := false, tag := "", pkgPath := "", byteOffset := 20 }, { name := "Inhibit", type := 5, offset := 17, embedded := false, tag := "", pkgPath := "", byteOffset := 21 }], 18, 22, [.int .u16 0, .int .u16 0, .int .u8 0, .int .u8 0, .int .u8 0, .int .u8 0, .int .u8 0, .int .u8 0, .int .i8 0, .int .i8 0, .int .i8 0, .int .i8 0, .int .i8 0, .int .i8 0, .int .u8 0, .int .u16 0, .bool false, .int .u8 0], true⟩
theorem ok_35 : TIok Try.prog 35 ti_35 := ⟨by kernel_rfl, ⟨Try.t35, by kernel_rfl, by kernel_rfl, by kernel_rfl, _, rfl, by kernel_rfl⟩, fun _ => ⟨by kernel_rfl, by kernel_rfl⟩⟩
def ti_36 : TI := ⟨.func #[28] #[35] false, 1, 8, [.nilFunc], false⟩
theorem ok_36 : TIok Try.prog 36 ti_36 := ⟨by kernel_rfl, ⟨Try.t36, by kernel_rfl, by kernel_rfl, by kernel_rfl, _, rfl, by kernel_rfl⟩, fun h => by cases h⟩
def ti_37 : TI := ⟨.func #[29, 29] #[4] false, 1, 8, [.nilFunc], false⟩
theorem ok_37 : TIok Try.prog 37 ti_37 := ⟨by kernel_rfl, ⟨Try.t37, by kernel_rfl, by kernel_rfl, by kernel_rfl, _, rfl, by kernel_rfl⟩, fun h => by cases h⟩
def ti_38 : TI := ⟨.func #[35] #[29] false, 1, 8, [.nilFunc], false⟩
theorem ok_38 : TIok Try.prog 38 ti_38 := ⟨by kernel_rfl, ⟨Try.t38, by kernel_rfl, by kernel_rfl, by kernel_rfl, _, rfl, by kernel_rfl⟩, fun h => by cases h⟩
def ti_39 : TI := ⟨.func #[40] #[29] true, 1, 8, [.nilFunc], false⟩
theorem ok_39 : TIok Try.prog 39 ti_39 := ⟨by kernel_rfl, ⟨Try.t39, by kernel_rfl, by kernel_rfl, by kernel_rfl, _, rfl, by kernel_rfl⟩, fun h => by cases h⟩
def ti_40 : TI := ⟨.slice 29, 1, 24, [.slice none 0 0], false⟩
theorem ok_40 : TIok Try.prog 40 ti_40 := ⟨by kernel_rfl, ⟨Try.t40, by kernel_rfl, by kernel_rfl, by kernel_rfl, _, rfl, by kernel_rfl⟩, fun h => by cases h⟩
def ti_41 : TI := ⟨.int .i64, 1, 8, [.int .i64 0], false⟩
theorem ok_41 : TIok Try.prog 41 ti_41 := ⟨by kernel_rfl, ⟨Try.t41, by kernel_rfl, by kernel_rfl, by kernel_rfl, _, rfl, by kernel_rfl⟩, fun h => by cases h⟩
def ti_43 : TI := ⟨.func #[29] #[28, 41] false, 1, 8, [.nilFunc], false⟩
theorem ok_43 : TIok Try.prog 43 ti_43 := ⟨by kernel_rfl, ⟨Try.t43, by kernel_rfl, by kernel_rfl, by kernel_rfl, _, rfl, by kernel_rfl⟩, fun h => by cases h⟩
def ti_45 : TI := ⟨.func #[29] #[35, 4] false, 1, 8, [.nilFunc], false⟩
theorem ok_45 : TIok Try.prog 45 ti_45 := ⟨by kernel_rfl, ⟨Try.t45, by kernel_rfl, by kernel_rfl, by kernel_rfl, _, rfl, by kernel_rfl⟩, fun h => by cases h⟩
def ti_46 : TI := ⟨.func #[28, 28] #[4] false, 1, 8, [.nilFunc], false⟩
theorem ok_46 : TIok Try.prog 46 ti_46 := ⟨by kernel_rfl, ⟨Try.t46, by kernel_rfl, by kernel_rfl, by kernel_rfl, _, rfl, by kernel_rfl⟩, fun h => by cases h⟩
def ti_47 : TI := ⟨.func #[28, 28, 29, 5, 5] #[4] false, 1, 8, [.nilFunc], false⟩
theorem ok_47 : TIok Try.prog 47 ti_47 := ⟨by kernel_rfl, ⟨Try.t47, by kernel_rfl, by kernel_rfl, by kernel_rfl, _, rfl, by kernel_rfl⟩, fun h => by cases h⟩
def ti_48 : TI := ⟨.slice 3, 1, 24, [.slice none 0 0], false⟩
theorem ok_48 : TIok Try.prog 48 ti_48 := ⟨by kernel_rfl, ⟨Try.t48, by kernel_rfl, by kernel_rfl, by kernel_rfl, _, rfl, by kernel_rfl⟩, fun h => by cases h⟩
def ti_49 : TI := ⟨.func #[] #[28] false, 1, 8, [.nilFunc], false⟩
theorem ok_49 : TIok Try.prog 49 ti_49 := ⟨by kernel_rfl, ⟨Try.t49, by kernel_rfl, by kernel_rfl, by kernel_rfl, _, rfl, by kernel_rfl⟩, fun h => by cases h⟩
def ti_50 : TI := ⟨.array 6 3, 6, 48, [.int .i64 0, .int .i64 0, .int .i64 0, .int .i64 0, .int .i64 0, .int .i64 0], true⟩
theorem ok_50 : TIok Try.prog 50 ti_50 := ⟨by kernel_rfl, ⟨Try.t50, by kernel_rfl, by kernel_rfl, by kernel_rfl, _, rfl, by kernel_rfl⟩, fun _ => ⟨by kernel_rfl, by kernel_rfl⟩⟩
def ti_52 : TI := ⟨.func #[3, 3] #[28, 4] false, 1, 8, [.nilFunc], false⟩
theorem ok_52 : TIok Try.prog 52 ti_52 := ⟨by kernel_rfl, ⟨Try.t52, by kernel_rfl, by kernel_rfl, by kernel_rfl, _, rfl, by kernel_rfl⟩, fun h => by cases h⟩
def ti_53 : TI := ⟨.func #[48, 5, 23] #[4] false, 1, 8, [.nilFunc], false⟩
theorem ok_53 : TIok Try.prog 53 ti_53 := ⟨by kernel_rfl, ⟨Try.t53, by kernel_rfl, by kernel_rfl, by kernel_rfl, _, rfl, by kernel_rfl⟩, fun h => by cases h⟩
def ti_54 : TI := ⟨.int .u32, 1, 4, [.int .u32 0], false⟩
theorem ok_54 : TIok Try.prog 54 ti_54 := ⟨by kernel_rfl, ⟨Try.t54, by kernel_rfl, by kernel_rfl, by kernel_rfl, _, rfl, by kernel_rfl⟩, fun h => by cases h⟩
def ti_56 : TI := ⟨.func #[54, 29] #[29, 41] false, 1, 8, [.nilFunc], false⟩
theorem ok_56 : TIok Try.prog 56 ti_56 := ⟨by kernel_rfl, ⟨Try.t56, by kernel_rfl, by kernel_rfl, by kernel_rfl, _, rfl, by kernel_rfl⟩, fun h => by cases h⟩
def ti_58 : TI := ⟨.func #[29] #[54, 29, 41] false, 1, 8, [.nilFunc], false⟩
theorem ok_58 : TIok Try.prog 58 ti_58 := ⟨by kernel_rfl, ⟨Try.t58, by kernel_rfl, by kernel_rfl, by kernel_rfl, _, rfl, by kernel_rfl⟩, fun h => by cases h⟩
def ti_60 : TI := ⟨.func #[29] #[54, 29, 3] false, 1, 8, [.nilFunc], false⟩
theorem ok_60 : TIok Try.prog 60 ti_60 := ⟨by kernel_rfl, ⟨Try.t60, by kernel_rfl, by kernel_rfl, by kernel_rfl, _, rfl, by kernel_rfl⟩, fun h => by cases h⟩
def ti_61 : TI := ⟨.func #[54, 29] #[29] false, 1, 8, [.nilFunc], false⟩
theorem ok_61 : TIok Try.prog 61 ti_61 := ⟨by kernel_rfl, ⟨Try.t61, by kernel_rfl, by kernel_rfl, by kernel_rfl, _, rfl, by kernel_rfl⟩, fun h => by cases h⟩
def ti_62 : TI := ⟨.func #[54, 29, 29, 22, 5] #[4] false, 1, 8, [.nilFunc], false⟩
theorem ok_62 : TIok Try.prog 62 ti_62 := ⟨by kernel_rfl, ⟨Try.t62, by kernel_rfl, by kernel_rfl, by kernel_rfl, _, rfl, by kernel_rfl⟩, fun h => by cases h⟩
def ti_63 : TI := ⟨.slice 54, 1, 24, [.slice none 0 0], false⟩
theorem ok_63 : TIok Try.prog 63 ti_63 := ⟨by kernel_rfl, ⟨Try.t63, by kernel_rfl, by kernel_rfl, by kernel_rfl, _, rfl, by kernel_rfl⟩, fun h => by cases h⟩
def ti_64 : TI := ⟨.func #[65, 3] #[29] false, 1, 8, [.nilFunc], false⟩
theorem ok_64 : TIok Try.prog 64 ti_64 := ⟨by kernel_rfl, ⟨Try.t64, by kernel_rfl, by kernel_rfl, by kernel_rfl, _, rfl, by kernel_rfl⟩, fun h => by cases h⟩
def ti_65 : TI := ⟨.int .u64, 1, 8, [.int .u64 0], false⟩
theorem ok_65 : TIok Try.prog 65 ti_65 := ⟨by kernel_rfl, ⟨Try.t65, by kernel_rfl, by kernel_rfl, by kernel_rfl, _, rfl, by kernel_rfl⟩, fun h => by cases h⟩
def ti_66 : TI := ⟨.func #[40] #[54, 29, 41] true, 1, 8, [.nilFunc], false⟩
theorem ok_66 : TIok Try.prog 66 ti_66 := ⟨by kernel_rfl, ⟨Try.t66, by kernel_rfl, by kernel_rfl, by kernel_rfl, _, rfl, by kernel_rfl⟩, fun h => by cases h⟩
def ti_67 : TI := ⟨.func #[54, 54, 54, 29, 5] #[4] false, 1, 8, [.nilFunc], false⟩
theorem ok_67 : TIok Try.prog 67 ti_67 := ⟨by kernel_rfl, ⟨Try.t67, by kernel_rfl, by kernel_rfl, by kernel_rfl, _, rfl, by kernel_rfl⟩, fun h => by cases h⟩
def ti_68 : TI := ⟨.func #[54, 5, 5] #[4] false, 1, 8, [.nilFunc], false⟩
theorem ok_68 : TIok Try.prog 68 ti_68 := ⟨by kernel_rfl, ⟨Try.t68, by kernel_rfl, by kernel_rfl, by kernel_rfl, _, rfl, by kernel_rfl⟩, fun h => by cases h⟩
def ti_69 : TI := ⟨.func #[40] #[54, 29, 3] false, 1, 8, [.nilFunc], false⟩
theorem ok_69 : TIok Try.prog 69 ti_69 := ⟨by kernel_rfl, ⟨Try.t69, by kernel_rfl, by kernel_rfl, by kernel_rfl, _, rfl, by kernel_rfl⟩, fun h => by cases h⟩
def ti_70 : TI := ⟨.func #[40] #[23] true, 1, 8, [.nilFunc], false⟩
theorem ok_70 : TIok Try.prog 70 ti_70 := ⟨by kernel_rfl, ⟨Try.t70, by kernel_rfl, by kernel_rfl, by kernel_rfl, _, rfl, by kernel_rfl⟩, fun h => by cases h⟩
def ti_71 : TI := ⟨.func #[3] #[4] false, 1, 8, [.nilFunc], false⟩
theorem ok_71 : TIok Try.prog 71 ti_71 := ⟨by kernel_rfl, ⟨Try.t71, by kernel_rfl, by kernel_rfl, by kernel_rfl, _, rfl, by kernel_rfl⟩, fun h => by cases h⟩
def ti_72 : TI := ⟨.func #[40, 63, 5, 5] #[4] false, 1, 8, [.nilFunc], false⟩
theorem ok_72 : TIok Try.prog 72 ti_72 := ⟨by kernel_rfl, ⟨Try.t72, by kernel_rfl, by kernel_rfl, by kernel_rfl, _, rfl, by kernel_rfl⟩, fun h => by cases h⟩
def ti_73 : TI := ⟨.func #[3, 3] #[] false, 1, 8, [.nilFunc], false⟩
theorem ok_73 : TIok Try.prog 73 ti_73 := ⟨by kernel_rfl, ⟨Try.t73, by kernel_rfl, by kernel_rfl, by kernel_rfl, _, rfl, by kernel_rfl⟩, fun h => by cases h⟩
def ti_74 : TI := ⟨.func #[54, 29, 5, 5, 22, 22] #[4] false, 1, 8, [.nilFunc], false⟩
theorem ok_74 : TIok Try.prog 74 ti_74 := ⟨by kernel_rfl, ⟨Try.t74, by kernel_rfl, by kernel_rfl, by kernel_rfl, _, rfl, by kernel_rfl⟩, fun h => by cases h⟩
def ti_75 : TI := ⟨.pointer 111, 1, 8, [.pointer none], false⟩
theorem ok_75 : TIok Try.prog 75 ti_75 := ⟨by kernel_rfl, ⟨Try.t75, by kernel_rfl, by kernel_rfl, by kernel_rfl, _, rfl, by kernel_rfl⟩, fun h => by cases h⟩
def ti_76 : TI := ⟨.func #[40] #[75] true, 1, 8, [.nilFunc], false⟩
theorem ok_76 : TIok Try.prog 76 ti_76 := ⟨by kernel_rfl, ⟨Try.t76, by kernel_rfl, by kernel_rfl, by kernel_rfl, _, rfl, by kernel_rfl⟩, fun h => by cases h⟩
def ti_77 : TI := ⟨.func #[29] #[41] false, 1, 8, [.nilFunc], false⟩
theorem ok_77 : TIok Try.prog 77 ti_77 := ⟨by kernel_rfl, ⟨Try.t77, by kernel_rfl, by kernel_rfl, by kernel_rfl, _, rfl, by kernel_rfl⟩, fun h => by cases h⟩
def ti_78 : TI := ⟨.func #[] #[54, 29, 41] false, 1, 8, [.nilFunc], false⟩
theorem ok_78 : TIok Try.prog 78 ti_78 := ⟨by kernel_rfl, ⟨Try.t78, by kernel_rfl, by kernel_rfl, by kernel_rfl, _, rfl, by kernel_rfl⟩, fun h => by cases h⟩
def ti_80 : TI := ⟨.func #[] #[3, 41] false, 1, 8, [.nilFunc], false⟩
theorem ok_80 : TIok Try.prog 80 ti_80 := ⟨by kernel_rfl, ⟨Try.t80, by kernel_rfl, by kernel_rfl, by kernel_rfl, _, rfl, by kernel_rfl⟩, fun h => by cases h⟩
def ti_81 : TI := ⟨.func #[40, 29, 4] #[4] false, 1, 8, [.nilFunc], false⟩
theorem ok_81 : TIok Try.prog 81 ti_81 := ⟨by kernel_rfl, ⟨Try.t81, by kernel_rfl, by kernel_rfl, by kernel_rfl, _, rfl, by kernel_rfl⟩, fun h => by cases h⟩
def ti_82 : TI := ⟨.func #[] #[75] false, 1, 8, [.nilFunc], false⟩
theorem ok_82 : TIok Try.prog 82 ti_82 := ⟨by kernel_rfl, ⟨Try.t82, by kernel_rfl, by kernel_rfl, by kernel_rfl, _, rfl, by kernel_rfl⟩, fun h => by cases h⟩
def ti_83 : TI := ⟨.func #[3, 3, 5] #[41] false, 1, 8, [.nilFunc], false⟩
theorem ok_83 : TIok Try.prog 83 ti_83 := ⟨by kernel_rfl, ⟨Try.t83, by kernel_rfl, by kernel_rfl, by kernel_rfl, _, rfl, by kernel_rfl⟩, fun h => by cases h⟩
def ti_84 : TI := ⟨.func #[] #[40] false, 1, 8, [.nilFunc], false⟩
theorem ok_84 : TIok Try.prog 84 ti_84 := ⟨by kernel_rfl, ⟨Try.t84, by kernel_rfl, by kernel_rfl, by kernel_rfl, _, rfl, by kernel_rfl⟩, fun h => by cases h⟩
def ti_85 : TI := ⟨.func #[29, 5, 5, 22, 22] #[4] false, 1, 8, [.nilFunc], false⟩
theorem ok_85 : TIok Try.prog 85 ti_85 := ⟨by kernel_rfl, ⟨Try.t85, by kernel_rfl, by kernel_rfl, by kernel_rfl, _, rfl, by kernel_rfl⟩, fun h => by cases h⟩
def ti_86 : TI := ⟨.func #[75] #[28, 4] false, 1, 8, [.nilFunc], false⟩
theorem ok_86 : TIok Try.prog 86 ti_86 := ⟨by kernel_rfl, ⟨Try.t86, by kernel_rfl, by kernel_rfl, by kernel_rfl, _, rfl, by kernel_rfl⟩, fun h => by cases h⟩
def ti_87 : TI := ⟨.func #[28, 5] #[4] false, 1, 8, [.nilFunc], false⟩
theorem ok_87 : TIok Try.prog 87 ti_87 := ⟨by kernel_rfl, ⟨Try.t87, by kernel_rfl, by kernel_rfl, by kernel_rfl, _, rfl, by kernel_rfl⟩, fun h => by cases h⟩
def ti_88 : TI := ⟨.func #[] #[41] false, 1, 8, [.nilFunc], false⟩
theorem ok_88 : TIok Try.prog 88 ti_88 := ⟨by kernel_rfl, ⟨Try.t88, by kernel_rfl, by kernel_rfl, by kernel_rfl, _, rfl, by kernel_rfl⟩, fun h => by cases h⟩
def ti_89 : TI := ⟨.func #[] #[23] false, 1, 8, [.nilFunc], false⟩
theorem ok_89 : TIok Try.prog 89 ti_89 := ⟨by kernel_rfl, ⟨Try.t89, by kernel_rfl, by kernel_rfl, by kernel_rfl, _, rfl, by kernel_rfl⟩, fun h => by cases h⟩
def ti_90 : TI := ⟨.func #[] #[3] false, 1, 8, [.nilFunc], false⟩
theorem ok_90 : TIok Try.prog 90 ti_90 := ⟨by kernel_rfl, ⟨Try.t90, by kernel_rfl, by kernel_rfl, by kernel_rfl, _, rfl, by kernel_rfl⟩, fun h => by cases h⟩
def ti_91 : TI := ⟨.func #[40, 5] #[4] false, 1, 8, [.nilFunc], false⟩
theorem ok_91 : TIok Try.prog 91 ti_91 := ⟨by kernel_rfl, ⟨Try.t91, by kernel_rfl, by kernel_rfl, by kernel_rfl, _, rfl, by kernel_rfl⟩, fun h => by cases h⟩
def ti_92 : TI := ⟨.slice 22, 1, 24, [.slice none 0 0], false⟩
theorem ok_92 : TIok Try.prog 92 ti_92 := ⟨by kernel_rfl, ⟨Try.t92, by kernel_rfl, by kernel_rfl, by kernel_rfl, _, rfl, by kernel_rfl⟩, fun h => by cases h⟩
def ti_93 : TI := ⟨.func #[22] #[] false, 1, 8, [.nilFunc], false⟩
theorem ok_93 : TIok Try.prog 93 ti_93 := ⟨by kernel_rfl, ⟨Try.t93, by kernel_rfl, by kernel_rfl, by kernel_rfl, _, rfl, by kernel_rfl⟩, fun h => by cases h⟩
def ti_94 : TI := ⟨.func #[29, 40, 29, 92] #[4] false, 1, 8, [.nilFunc], false⟩
theorem ok_94 : TIok Try.prog 94 ti_94 := ⟨by kernel_rfl, ⟨Try.t94, by kernel_rfl, by kernel_rfl, by kernel_rfl, _, rfl, by kernel_rfl⟩, fun h => by cases h⟩
def ti_95 : TI := ⟨.func #[29, 3, 3, 5] #[4] false, 1, 8, [.nilFunc], false⟩
theorem ok_95 : TIok Try.prog 95 ti_95 := ⟨by kernel_rfl, ⟨Try.t95, by kernel_rfl, by kernel_rfl, by kernel_rfl, _, rfl, by kernel_rfl⟩, fun h => by cases h⟩
def ti_96 : TI := ⟨.func #[28, 29, 5, 22, 4] #[4] false, 1, 8, [.nilFunc], false⟩
theorem ok_96 : TIok Try.prog 96 ti_96 := ⟨by kernel_rfl, ⟨Try.t96, by kernel_rfl, by kernel_rfl, by kernel_rfl, _, rfl, by kernel_rfl⟩, fun h => by cases h⟩
def ti_97 : TI := ⟨.int .u64, 1, 8, [.int .u64 0], false⟩
theorem ok_97 : TIok Try.prog 97 ti_97 := ⟨by kernel_rfl, ⟨Try.t97, by kernel_rfl, by kernel_rfl, by kernel_rfl, _, rfl, by kernel_rfl⟩, fun h => by cases h⟩
def ti_98 : TI := ⟨.func #[4] #[5] false, 1, 8, [.nilFunc], false⟩
theorem ok_98 : TIok Try.prog 98 ti_98 := ⟨by kernel_rfl, ⟨Try.t98, by kernel_rfl, by kernel_rfl, by kernel_rfl, _, rfl, by kernel_rfl⟩, fun h => by cases h⟩
def ti_99 : TI := ⟨.func #[29] #[22] false, 1, 8, [.nilFunc], false⟩
theorem ok_99 : TIok Try.prog 99 ti_99 := ⟨by kernel_rfl, ⟨Try.t99, by kernel_rfl, by kernel_rfl, by kernel_rfl, _, rfl, by kernel_rfl⟩, fun h => by cases h⟩
def ti_100 : TI := ⟨.func #[29] #[65] false, 1, 8, [.nilFunc], false⟩
theorem ok_100 : TIok Try.prog 100 ti_100 := ⟨by kernel_rfl, ⟨Try.t100, by kernel_rfl, by kernel_rfl, by kernel_rfl, _, rfl, by kernel_rfl⟩, fun h => by cases h⟩
def ti_101 : TI := ⟨.array 256 22, 256, 512, [.int .u16 0, .int .u16 0, .int .u16 0, .int .u16 0, .int .u16 0, .int .u16 0, .int .u16 0, .int .u16 0, .int .u16 0, .int .u16 0, .int .u16 0, .int .u16 0, .int .u16 0, .int .u16 0, .int .u16 0, .int .u16 0, .int .u16 0, .int .u16 0, .int .u16 0, .int .u16 0, .int .u16 0, .int .u16 0, .int .u16 0, .int .u16 0, .int .u16 0, .int .u16 0, .int .u16 0, .int .u16 0, .int .u16 0, .int .u16 0, .int .u16 0, .int .u16 0, .int .u16 0, .int .u16 0, .int .u16 0, .int .u16 0, .int .u16 0, .int .u16 0, .int .u16 0, .int .u16 0, .int .u16 0, .int .u16 0, .int .u16 0, .int .u16 0, .int .u16 0, .int .u16 0, .int .u16 0, .int .u16 0, .int .u16 0, .int .u16 0, .int .u16 0, .int .u16 0, .int .u16 0, .int .u16 0, .int .u16 0, .int .u16 0, .int .u16 0, .int .u16 0, .int .u16 0, .int .u16 0, .int .u16 0, .int .u16 0, .int .u16 0, .int .u16 0, .int .u16 0, .int .u16 0, .int .u16 0, .int .u16 0, .int .u16 0, .int .u16 0, .int .u16 0, .int .u16 0, .int .u16 0, .int .u16 0, .int .u16 0, .int .u16 0, .int .u16 0, .int .u16 0, .int .u16 0, .int .u16 0, .int .u16 0, .int .u16 0, .int .u16 0, .int .u16 0, .int .u16 0, .int .u16 0, .int .u16 0, .int .u16 0, .int .u16 0, .int .u16 0, .int .u16 0, .int .u16 0, .int .u16 0, .int .u16 0, .int .u16 0, .int .u16 0, .int .u16 0, .int .u16 0, .int .u16 0, .int .u16 0, .int .u16 0, .int .u16 0, .int .u16 0, .int .u16 0, .int .u16 0, .int .u16 0, .int .u16 0, .int .u16 0, .int .u16 0, .int .u16 0, .int .u16 0, .int .u16 0, .int .u16 0, .int .u16 0, .int .u16 0, .int .u16 0, .int .u16 0, .int .u16 0, .int .u16 0, .int .u16 0, .int .u16 0, .int .u16 0, .int .u16 0, .int .u16 0, .int .u16 0, .int .u16 0, .int .u16 0, .int .u16 0, .int .u16 0, .int .u16 0, .int .u16 0, .int .u16 0, .int .u16 0, .int .u16 0, .int .u16 0, .int .u16 0, .int .u16 0, .int .u16 0, .int .u16 0, .int .u16 0, .int .u16 0, .int .u16 0, .int .u16 0, .int .u16 0, .int .u16 0, .int .u16 0, .int .u16 0, .int .u16 0, .int .u16 0, .int .u16 0, .int .u16 0, .int .u16 0, .int .u16 0, .int .u16 0, .int .u16 0, .int .u16 0, .int .u16 0, .int .u16 0, .int .u16 0, .int .u16 0, .int .u16 0, .int .u16 0, .int .u16 0, .int .u16 0, .int .u16 0, .int .u16 0, .int .u16 0, .int .u16 0, .int .u16 0, .int .u16 0, .int .u16 0, .int .u16 0, .int .u16 0, .int .u16 0, .int .u16 0, .int .u16 0, .int .u16 0, .int .u16 0, .int .u16 0, .int .u16 0, .int .u16 0, .int .u16 0, .int .u16 0, .int .u16 0, .int .u16 0, .int .u16 0, .int .u16 0, .int .u16 0, .int .u16 0, .int .u16 0, .int .u16 0, .int .u16 0, .int .u16 0, .int .u16 0, .int .u16 0, .int .u16 0, .int .u16 0, .int .u16 0, .int .u16 0, .int .u16 0, .int .u16 0, .int .u16 0, .int .u16 0, .int .u16 0, .int .u16 0, .int .u16 0, .int .u16 0, .int .u16 0, .int .u16 0, .int .u16 0, .int .u16 0, .int .u16 0, .int .u16 0, .int .u16 0, .int .u16 0, .int .u16 0, .int .u16 0, .int .u16 0, .int .u16 0, .int .u16 0, .int .u16 0, .int .u16 0, .int .u16 0, .int .u16 0, .int .u16 0, .int .u16 0, .int .u16 0, .int .u16 0, .int .u16 0, .int .u16 0, .int .u16 0, .int .u16 0, .int .u16 0, .int .u16 0, .int .u16 0, .int .u16 0, .int .u16 0, .int .u16 0, .int .u16 0, .int .u16 0, .int .u16 0, .int .u16 0, .int .u16 0, .int .u16 0, .int .u16 0, .int .u16 0, .int .u16 0, .int .u16 0, .int .u16 0, .int .u16 0, .int .u16 0, .int .u16 0, .int .u16 0, .int .u16 0, .int .u16 0, .int .u16 0], true⟩
theorem ok_101 : TIok Try.prog 101 ti_101 := ⟨by kernel_rfl, ⟨Try.t101, by kernel_rfl, by kernel_rfl, by kernel_rfl, _, rfl, by kernel_rfl⟩, fun _ => ⟨by kernel_rfl, by kernel_rfl⟩⟩
def ti_102 : TI := ⟨.array 256 22, 256, 512, [.int .u16 0, .int .u16 0, .int .u16 0, .int .u16 0, .int .u16 0, .int .u16 0, .int .u16 0, .int .u16 0, .int .u16 0, .int .u16 0, .int .u16 0, .int .u16 0, .int .u16 0, .int .u16 0, .int .u16 0, .int .u16 0, .int .u16 0, .int .u16 0, .int .u16 0, .int .u16 0, .int .u16 0, .int .u16 0, .int .u16 0, .int .u16 0, .int .u16 0, .int .u16 0, .int .u16 0, .int .u16 0, .int .u16 0, .int .u16 0, .int .u16 0, .int .u16 0, .int .u16 0, .int .u16 0, .int .u16 0, .int .u16 0, .int .u16 0, .int .u16 0, .int .u16 0, .int .u16 0, .int .u16 0, .int .u16 0, .int .u16 0, .int .u16 0, .int .u16 0, .int .u16 0, .int .u16 0, .int .u16 0, .int .u16 0, .int .u16 0, .int .u16 0, .int .u16 0, .int .u16 0, .int .u16 0, .int .u16 0, .int .u16 0, .int .u16 0, .int .u16 0, .int .u16 0, .int .u16 0, .int .u16 0, .int .u16 0, .int .u16 0, .int .u16 0, .int .u16 0, .int .u16 0, .int .u16 0, .int .u16 0, .int .u16 0, .int .u16 0, .int .u16 0, .int .u16 0, .int .u16 0, .int .u16 0, .int .u16 0, .int .u16 0, .int .u16 0, .int .u16 0, .int .u16 0, .int .u16 0, .int .u16 0, .int .u16 0, .int .u16 0, .int .u16 0, .int .u16 0, .int .u16 0, .int .u16 0, .int .u16 0, .int .u16 0, .int .u16 0, .int .u16 0, .int .u16 0, .int .u16 0, .int .u16 0, .int .u16 0, .int .u16 0, .int .u16 0, .int .u16 0, .int .u16 0, .int .u16 0, .int .u16 0, .int .u16 0, .int .u16 0, .int .u16 0, .int .u16 0, .int .u16 0, .int .u16 0, .int .u16 0, .int .u16 0, .int .u16 0, .int .u16 0, .int .u16 0, .int .u16 0, .int .u16 0, .int .u16 0, .int .u16 0, .int .u16 0, .int .u16 0, .int .u16 0, .int .u16 0, .int .u16 0, .int .u16 0, .int .u16 0, .int .u16 0, .int .u16 0, .int .u16 0, .int .u16 0, .int .u16 0, .int .u16 0, .int .u16 0, .int .u16 0, .int .u16 0, .int .u16 0, .int .u16 0, .int .u16 0, .int .u16 0, .int .u16 0, .int .u16 0, .int .u16 0, .int .u16 0, .int .u16 0, .int .u16 0, .int .u16 0, .int .u16 0, .int .u16 0, .int .u16 0, .int .u16 0, .int .u16 0, .int .u16 0, .int .u16 0, .int .u16 0, .int .u16 0, .int .u16 0, .int .u16 0, .int .u16 0, .int .u16 0, .int .u16 0, .int .u16 0, .int .u16 0, .int .u16 0, .int .u16 0, .int .u16 0, .int .u16 0, .int .u16 0, .int .u16 0, .int .u16 0, .int .u16 0, .int .u16 0, .int .u16 0, .int .u16 0, .int .u16 0, .int .u16 0, .int .u16 0, .int .u16 0, .int .u16 0, .int .u16 0, .int .u16 0, .int .u16 0, .int .u16 0, .int .u16 0, .int .u16 0, .int .u16 0, .int .u16 0, .int .u16 0, .int .u16 0, .int .u16 0, .int .u16 0, .int .u16 0, .int .u16 0, .int .u16 0, .int .u16 0, .int .u16 0, .int .u16 0, .int .u16 0, .int .u16 0, .int .u16 0, .int .u16 0, .int .u16 0, .int .u16 0, .int .u16 0, .int .u16 0, .int .u16 0, .int .u16 0, .int .u16 0, .int .u16 0, .int .u16 0, .int .u16 0, .int .u16 0, .int .u16 0, .int .u16 0, .int .u16 0, .int .u16 0, .int .u16 0, .int .u16 0, .int .u16 0, .int .u16 0, .int .u16 0, .int .u16 0, .int .u16 0, .int .u16 0, .int .u16 0, .int .u16 0, .int .u16 0, .int .u16 0, .int .u16 0, .int .u16 0, .int .u16 0, .int .u16 0, .int .u16 0, .int .u16 0, .int .u16 0, .int .u16 0, .int .u16 0, .int .u16 0, .int .u16 0, .int .u16 0, .int .u16 0, .int .u16 0, .int .u16 0, .int .u16 0, .int .u16 0, .int .u16 0, .int .u16 0, .int .u16 0, .int .u16 0, .int .u16 0, .int .u16 0, .int .u16 0, .int .u16 0, .int .u16 0, .int .u16 0, .int .u16 0, .int .u16 0, .int .u16 0, .int .u16 0, .int .u16 0], true⟩
theorem ok_102 : TIok Try.prog 102 ti_102 := ⟨by kernel_rfl, ⟨Try.t102, by kernel_rfl, by kernel_rfl, by kernel_rfl, _, rfl, by kernel_rfl⟩, fun _ => ⟨by kernel_rfl, by kernel_rfl⟩⟩
def ti_103 : TI := ⟨.func #[] #[102] false, 1, 8, [.nilFunc], false⟩
theorem ok_103 : TIok Try.prog 103 ti_103 := ⟨by kernel_rfl, ⟨Try.t103, by kernel_rfl, by kernel_rfl, by kernel_rfl, _, rfl, by kernel_rfl⟩, fun h => by cases h⟩
def ti_104 : TI := ⟨.func #[29] #[29] false, 1, 8, [.nilFunc], false⟩
theorem ok_104 : TIok Try.prog 104 ti_104 := ⟨by kernel_rfl, ⟨Try.t104, by kernel_rfl, by kernel_rfl, by kernel_rfl, _, rfl, by kernel_rfl⟩, fun h => by cases h⟩
def ti_105 : TI := ⟨.func #[29] #[29, 41] false, 1, 8, [.nilFunc], false⟩
theorem ok_105 : TIok Try.prog 105 ti_105 := ⟨by kernel_rfl, ⟨Try.t105, by kernel_rfl, by kernel_rfl, by kernel_rfl, _, rfl, by kernel_rfl⟩, fun h => by cases h⟩
def ti_106 : TI := ⟨.func #[29] #[4] false, 1, 8, [.nilFunc], false⟩
theorem ok_106 : TIok Try.prog 106 ti_106 := ⟨by kernel_rfl, ⟨Try.t106, by kernel_rfl, by kernel_rfl, by kernel_rfl, _, rfl, by kernel_rfl⟩, fun h => by cases h⟩
def ti_107 : TI := ⟨.func #[48] #[23] true, 1, 8, [.nilFunc], false⟩
theorem ok_107 : TIok Try.prog 107 ti_107 := ⟨by kernel_rfl, ⟨Try.t107, by kernel_rfl, by kernel_rfl, by kernel_rfl, _, rfl, by kernel_rfl⟩, fun h => by cases h⟩
def ti_108 : TI := ⟨.func #[3] #[23] false, 1, 8, [.nilFunc], false⟩
theorem ok_108 : TIok Try.prog 108 ti_108 := ⟨by kernel_rfl, ⟨Try.t108, by kernel_rfl, by kernel_rfl, by kernel_rfl, _, rfl, by kernel_rfl⟩, fun h => by cases h⟩
def ti_109 : TI := ⟨.array 3 29, 3, 72, [.slice none 0 0, .slice none 0 0, .slice none 0 0], true⟩
theorem ok_109 : TIok Try.prog 109 ti_109 := ⟨by kernel_rfl, ⟨Try.t109, by kernel_rfl, by kernel_rfl, by kernel_rfl, _, rfl, by kernel_rfl⟩, fun _ => ⟨by kernel_rfl, by kernel_rfl⟩⟩
def ti_110 : TI := ⟨.struct #[{ name := "c", type := 109, offset := 0, embedded := false, tag := "", pkgPath := "aerie/guard", byteOffset := 0 }, { name := "next", type := 29, offset := 3, embedded := false, tag := "", pkgPath := "aerie/guard", byteOffset := 72 }], 4, 96, [.slice none 0 0, .slice none 0 0, .slice none 0 0, .slice none 0 0], true⟩
theorem ok_110 : TIok Try.prog 110 ti_110 := ⟨by kernel_rfl, ⟨Try.t110, by kernel_rfl, by kernel_rfl, by kernel_rfl, _, rfl, by kernel_rfl⟩, fun _ => ⟨by kernel_rfl, by kernel_rfl⟩⟩
def ti_111 : TI := ⟨.struct #[{ name := "c", type := 109, offset := 0, embedded := false, tag := "", pkgPath := "aerie/guard", byteOffset := 0 }, { name := "next", type := 29, offset := 3, embedded := false, tag := "", pkgPath := "aerie/guard", byteOffset := 72 }], 4, 96, [.slice none 0 0, .slice none 0 0, .slice none 0 0, .slice none 0 0], true⟩
theorem ok_111 : TIok Try.prog 111 ti_111 := ⟨by kernel_rfl, ⟨Try.t111, by kernel_rfl, by kernel_rfl, by kernel_rfl, _, rfl, by kernel_rfl⟩, fun _ => ⟨by kernel_rfl, by kernel_rfl⟩⟩
def ti_112 : TI := ⟨.func #[22] #[3] false, 1, 8, [.nilFunc], false⟩
theorem ok_112 : TIok Try.prog 112 ti_112 := ⟨by kernel_rfl, ⟨Try.t112, by kernel_rfl, by kernel_rfl, by kernel_rfl, _, rfl, by kernel_rfl⟩, fun h => by cases h⟩
def ti_113 : TI := ⟨.func #[22, 5] #[22] false, 1, 8, [.nilFunc], false⟩
theorem ok_113 : TIok Try.prog 113 ti_113 := ⟨by kernel_rfl, ⟨Try.t113, by kernel_rfl, by kernel_rfl, by kernel_rfl, _, rfl, by kernel_rfl⟩, fun h => by cases h⟩
def ti_114 : TI := ⟨.func #[40] #[22] true, 1, 8, [.nilFunc], false⟩
theorem ok_114 : TIok Try.prog 114 ti_114 := ⟨by kernel_rfl, ⟨Try.t114, by kernel_rfl, by kernel_rfl, by kernel_rfl, _, rfl, by kernel_rfl⟩, fun h => by cases h⟩
def ti_115 : TI := ⟨.func #[] #[9] false, 1, 8, [.nilFunc], false⟩
theorem ok_115 : TIok Try.prog 115 ti_115 := ⟨by kernel_rfl, ⟨Try.t115, by kernel_rfl, by kernel_rfl, by kernel_rfl, _, rfl, by kernel_rfl⟩, fun h => by cases h⟩
def ti_116 : TI := ⟨.struct #[{ name := "_interface", type := 17, offset := 0, embedded := false, tag := "", pkgPath := "runtime", byteOffset := 0 }, { name := "concrete", type := 17, offset := 1, embedded := false, tag := "", pkgPath := "runtime", byteOffset := 8 }, { name := "asserted", type := 17, offset := 2, embedded := false, tag := "", pkgPath := "runtime", byteOffset := 16 }, { name := "missingMethod", type := 9, offset := 3, embedded := false, tag := "", pkgPath := "runtime", byteOffset := 24 }], 4, 40, [.pointer none, .pointer none, .pointer none, .string { data := { toList := [] } }], false⟩
theorem ok_116 : TIok Try.prog 116 ti_116 := ⟨by kernel_rfl, ⟨Try.t116, by kernel_rfl, by kernel_rfl, by kernel_rfl, _, rfl, by kernel_rfl⟩, fun h => by cases h⟩
def ti_117 : TI := ⟨.struct #[{ name := "_interface", type := 17, offset := 0, embedded := false, tag := "", pkgPath := "runtime", byteOffset := 0 }, { name := "concrete", type := 17, offset := 1, embedded := false, tag := "", pkgPath := "runtime", byteOffset := 8 }, { name := "asserted", type := 17, offset := 2, embedded := false, tag := "", pkgPath := "runtime", byteOffset := 16 }, { name := "missingMethod", type := 9, offset := 3, embedded := false, tag := "", pkgPath := "runtime", byteOffset := 24 }], 4, 40, [.pointer none, .pointer none, .pointer none, .string { data := { toList := [] } }], false⟩
theorem ok_117 : TIok Try.prog 117 ti_117 := ⟨by kernel_rfl, ⟨Try.t117, by kernel_rfl, by kernel_rfl, by kernel_rfl, _, rfl, by kernel_rfl⟩, fun h => by cases h⟩
def ti_118 : TI := ⟨.array 0 16, 0, 0, [], true⟩
theorem ok_118 : TIok Try.prog 118 ti_118 := ⟨by kernel_rfl, ⟨Try.t118, by kernel_rfl, by kernel_rfl, by kernel_rfl, _, rfl, by kernel_rfl⟩, fun _ => ⟨by kernel_rfl, by kernel_rfl⟩⟩
def ti_119 : TI := ⟨.struct #[{ name := "_", type := 118, offset := 0, embedded := false, tag := "", pkgPath := "runtime", byteOffset := 0 }], 0, 0, [], false⟩
theorem ok_119 : TIok Try.prog 119 ti_119 := ⟨by kernel_rfl, ⟨Try.t119, by kernel_rfl, by kernel_rfl, by kernel_rfl, _, rfl, by kernel_rfl⟩, fun h => by cases h⟩
def ti_120 : TI := ⟨.struct #[{ name := "_", type := 118, offset := 0, embedded := false, tag := "", pkgPath := "runtime", byteOffset := 0 }], 0, 0, [], false⟩
theorem ok_120 : TIok Try.prog 120 ti_120 := ⟨by kernel_rfl, ⟨Try.t120, by kernel_rfl, by kernel_rfl, by kernel_rfl, _, rfl, by kernel_rfl⟩, fun h => by cases h⟩
def ti_121 : TI := ⟨.int .u8, 1, 1, [.int .u8 0], false⟩
theorem ok_121 : TIok Try.prog 121 ti_121 := ⟨by kernel_rfl, ⟨Try.t121, by kernel_rfl, by kernel_rfl, by kernel_rfl, _, rfl, by kernel_rfl⟩, fun h => by cases h⟩
def ti_122 : TI := ⟨.int .u8, 1, 1, [.int .u8 0], false⟩
theorem ok_122 : TIok Try.prog 122 ti_122 := ⟨by kernel_rfl, ⟨Try.t122, by kernel_rfl, by kernel_rfl, by kernel_rfl, _, rfl, by kernel_rfl⟩, fun h => by cases h⟩
def ti_123 : TI := ⟨.func #[129, 129] #[4] false, 1, 8, [.nilFunc], false⟩
theorem ok_123 : TIok Try.prog 123 ti_123 := ⟨by kernel_rfl, ⟨Try.t123, by kernel_rfl, by kernel_rfl, by kernel_rfl, _, rfl, by kernel_rfl⟩, fun h => by cases h⟩
def ti_124 : TI := ⟨.pointer 5, 1, 8, [.pointer none], false⟩
theorem ok_124 : TIok Try.prog 124 ti_124 := ⟨by kernel_rfl, ⟨Try.t124, by kernel_rfl, by kernel_rfl, by kernel_rfl, _, rfl, by kernel_rfl⟩, fun h => by cases h⟩
def ti_125 : TI := ⟨.int .i32, 1, 4, [.int .i32 0], false⟩
theorem ok_125 : TIok Try.prog 125 ti_125 := ⟨by kernel_rfl, ⟨Try.t125, by kernel_rfl, by kernel_rfl, by kernel_rfl, _, rfl, by kernel_rfl⟩, fun h => by cases h⟩
def ti_126 : TI := ⟨.int .i32, 1, 4, [.int .i32 0], false⟩
theorem ok_126 : TIok Try.prog 126 ti_126 := ⟨by kernel_rfl, ⟨Try.t126, by kernel_rfl, by kernel_rfl, by kernel_rfl, _, rfl, by kernel_rfl⟩, fun h => by cases h⟩
def ti_127 : TI := ⟨.struct #[{ name := "Size_", type := 12, offset := 0, embedded := false, tag := "", pkgPath := "", byteOffset := 0 }, { name := "PtrBytes", type := 12, offset := 1, embedded := false, tag := "", pkgPath := "", byteOffset := 8 }, { name := "Hash", type := 54, offset := 2, embedded := false, tag := "", pkgPath := "", byteOffset := 16 }, { name := "TFlag", type := 121, offset := 3, embedded := false, tag := "", pkgPath := "", byteOffset := 20 }, { name := "Align_", type := 5, offset := 4, embedded := false, tag := "", pkgPath := "", byteOffset := 21 }, { name := "FieldAlign_", type := 5, offset := 5, embedded := false, tag := "", pkgPath := "", byteOffset := 22 }, { name := "Kind_", type := 122, offset := 6, embedded := false, tag := "", pkgPath := "", byteOffset := 23 }, { name := "Equal", type := 123, offset := 7, embedded := false, tag := "", pkgPath := "", byteOffset := 24 }, { name := "GCData", type := 124, offset := 8, embedded := false, tag := "", pkgPath := "", byteOffset := 32 }, { name := "Str", type := 125, offset := 9, embedded := false, tag := "", pkgPath := "", byteOffset := 40 }, { name := "PtrToThis", type := 126, offset := 10, embedded := false, tag := "", pkgPath := "", byteOffset := 44 }], 11, 48, [.int .u64 0, .int .u64 0, .int .u32 0, .int .u8 0, .int .u8 0, .int .u8 0, .int .u8 0, .nilFunc, .pointer none, .int .i32 0, .int .i32 0], false⟩
theorem ok_127 : TIok Try.prog 127 ti_127 := ⟨by kernel_rfl, ⟨Try.t127, by kernel_rfl, by kernel_rfl, by kernel_rfl, _, rfl, by kernel_rfl⟩, fun h => by cases h⟩
def ti_128 : TI := ⟨.struct #[{ name := "Size_", type := 12, offset := 0, embedded := false, tag := "", pkgPath := "", byteOffset := 0 }, { name := "PtrBytes", type := 12, offset := 1, embedded := false, tag := "", pkgPath := "", byteOffset := 8 }, { name := "Hash", type := 54, offset := 2, embedded := false, tag := "", pkgPath := "", byteOffset := 16 }, { name := "TFlag", type := 121, offset := 3, embedded := false, tag := "", pkgPath := "", byteOffset := 20 }, { name := "Align_", type := 5, offset := 4, embedded := false, tag := "", pkgPath := "", byteOffset := 21 }, { name := "FieldAlign_", type := 5, offset := 5, embedded := false, tag := "", pkgPath := "", byteOffset := 22 }, { name := "Kind_", type := 122, offset := 6, embedded := false, tag := "", pkgPath := "", byteOffset := 23 }, { name := "Equal", type := 123, offset := 7, embedded := false, tag := "", pkgPath := "", byteOffset := 24 }, { name := "GCData", type := 124, offset := 8, embedded := false, tag := "", pkgPath := "", byteOffset := 32 }, { name := "Str", type := 125, offset := 9, embedded := false, tag := "", pkgPath := "", byteOffset := 40 }, { name := "PtrToThis", type := 126, offset := 10, embedded := false, tag := "", pkgPath := "", byteOffset := 44 }], 11, 48, [.int .u64 0, .int .u64 0, .int .u32 0, .int .u8 0, .int .u8 0, .int .u8 0, .int .u8 0, .nilFunc, .pointer none, .int .i32 0, .int .i32 0], false⟩
theorem ok_128 : TIok Try.prog 128 ti_128 := ⟨by kernel_rfl, ⟨Try.t128, by kernel_rfl, by kernel_rfl, by kernel_rfl, _, rfl, by kernel_rfl⟩, fun h => by cases h⟩
def tc : List (Nat × TI) := [(1, ti_1), (2, ti_2), (3, ti_3), (4, ti_4), (5, ti_5), (6, ti_6), (7, ti_7), (8, ti_8), (9, ti_9), (10, ti_10), (11, ti_11), (12, ti_12), (13, ti_13), (14, ti_14), (15, ti_15), (16, ti_16), (17, ti_17), (18, ti_18), (19, ti_19), (21, ti_21), (22, ti_22), (23, ti_23), (24, ti_24), (25, ti_25), (26, ti_26), (27, ti_27), (28, ti_28), (29, ti_29), (30, ti_30), (31, ti_31), (32, ti_32), (33, ti_33), (34, ti_34), (35, ti_35), (36, ti_36), (37, ti_37), (38, ti_38), (39, ti_39), (40, ti_40), (41, ti_41), (43, ti_43), (45, ti_45), (46, ti_46), (47, ti_47), (48, ti_48), (49, ti_49), (50, ti_50), (52, ti_52), (53, ti_53), (54, ti_54), (56, ti_56), (58, ti_58), (60, ti_60), (61, ti_61), (62, ti_62), (63, ti_63), (64, ti_64), (65, ti_65), (66, ti_66), (67, ti_67), (68, ti_68), (69, ti_69), (70, ti_70), (71, ti_71), (72, ti_72), (73, ti_73), (74, ti_74), (75, ti_75), (76, ti_76), (77, ti_77), (78, ti_78), (80, ti_80), (81, ti_81), (82, ti_82), (83, ti_83), (84, ti_84), (85, ti_85), (86, ti_86), (87, ti_87), (88, ti_88), (89, ti_89), (90, ti_90), (91, ti_91), (92, ti_92), (93, ti_93), (94, ti_94), (95, ti_95), (96, ti_96), (97, ti_97), (98, ti_98), (99, ti_99), (100, ti_100), (101, ti_101), (102, ti_102), (103, ti_103), (104, ti_104), (105, ti_105), (106, ti_106), (107, ti_107), (108, ti_108), (109, ti_109), (110, ti_110), (111, ti_111), (112, ti_112), (113, ti_113), (114, ti_114), (115, ti_115), (116, ti_116), (117, ti_117), (118, ti_118), (119, ti_119), (120, ti_120), (121, ti_121), (122, ti_122), (123, ti_123), (124, ti_124), (125, ti_125), (126, ti_126), (127, ti_127), (128, ti_128)]
theorem tcok : TCok Try.prog tc := ⟨ok_1, ⟨ok_2, ⟨ok_3, ⟨ok_4, ⟨ok_5, ⟨ok_6, ⟨ok_7, ⟨ok_8, ⟨ok_9, ⟨ok_10, ⟨ok_11, ⟨ok_12, ⟨ok_13, ⟨ok_14, ⟨ok_15, ⟨ok_16, ⟨ok_17, ⟨ok_18, ⟨ok_19, ⟨ok_21, ⟨ok_22, ⟨ok_23, ⟨ok_24, ⟨ok_25, ⟨ok_26, ⟨ok_27, ⟨ok_28, ⟨ok_29, ⟨ok_30, ⟨ok_31, ⟨ok_32, ⟨ok_33, ⟨ok_34, ⟨ok_35, ⟨ok_36, ⟨ok_37, ⟨ok_38, ⟨ok_39, ⟨ok_40, ⟨ok_41, ⟨ok_43, ⟨ok_45, ⟨ok_46, ⟨ok_47, ⟨ok_48, ⟨ok_49, ⟨ok_50, ⟨ok_52, ⟨ok_53, ⟨ok_54, ⟨ok_56, ⟨ok_58, ⟨ok_60, ⟨ok_61, ⟨ok_62, ⟨ok_63, ⟨ok_64, ⟨ok_65, ⟨ok_66, ⟨ok_67, ⟨ok_68, ⟨ok_69, ⟨ok_70, ⟨ok_71, ⟨ok_72, ⟨ok_73, ⟨ok_74, ⟨ok_75, ⟨ok_76, ⟨ok_77, ⟨ok_78, ⟨ok_80, ⟨ok_81, ⟨ok_82, ⟨ok_83, ⟨ok_84, ⟨ok_85, ⟨ok_86, ⟨ok_87, ⟨ok_88, ⟨ok_89, ⟨ok_90, ⟨ok_91, ⟨ok_92, ⟨ok_93, ⟨ok_94, ⟨ok_95, ⟨ok_96, ⟨ok_97, ⟨ok_98, ⟨ok_99, ⟨ok_100, ⟨ok_101, ⟨ok_102, ⟨ok_103, ⟨ok_104, ⟨ok_105, ⟨ok_106, ⟨ok_107, ⟨ok_108, ⟨ok_109, ⟨ok_110, ⟨ok_111, ⟨ok_112, ⟨ok_113, ⟨ok_114, ⟨ok_115, ⟨ok_116, ⟨ok_117, ⟨ok_118, ⟨ok_119, ⟨ok_120, ⟨ok_121, ⟨ok_122, ⟨ok_123, ⟨ok_124, ⟨ok_125, ⟨ok_126, ⟨ok_127, ⟨ok_128, trivial⟩⟩⟩⟩⟩⟩⟩⟩⟩⟩⟩⟩⟩⟩⟩⟩⟩⟩⟩⟩⟩⟩⟩⟩⟩⟩⟩⟩⟩⟩⟩⟩⟩⟩⟩⟩⟩⟩⟩⟩⟩⟩⟩⟩⟩⟩⟩⟩⟩⟩⟩⟩⟩⟩⟩⟩⟩⟩⟩⟩⟩⟩⟩⟩⟩⟩⟩⟩⟩⟩⟩⟩⟩⟩⟩⟩⟩⟩⟩⟩⟩⟩⟩⟩⟩⟩⟩⟩⟩⟩⟩⟩⟩⟩⟩⟩⟩⟩⟩⟩⟩⟩⟩⟩⟩⟩⟩⟩⟩⟩⟩⟩⟩⟩⟩⟩⟩⟩⟩⟩
theorem hmix : Try.prog.follows .mixedOrders = true := by kernel_rfl
end Go.Proofs.Ytmeiemdnhjnpcaa
