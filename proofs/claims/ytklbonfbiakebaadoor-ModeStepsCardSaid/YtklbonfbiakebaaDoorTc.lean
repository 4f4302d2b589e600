/- The types of this seat's program, as a table, and that they are the program's. Written by a program of mine. -/
import Derived.Test.YtklbonfbiakebaaDoorProg
import Derived.Test.YtklbonfbiakebaaDoorAb24
import Derived.KernelRfl
namespace Go.Proofs.YtklbonfbiakebaaDoor
open Go.Ab
def ti_1 : TI := ⟨.func #[] #[] false, 1, 8, [.nilFunc], false⟩
theorem ok_1 : TIok Tryd.prog 1 ti_1 := ⟨by kernel_rfl, ⟨Tryd.t1, by kernel_rfl, by kernel_rfl, by kernel_rfl, _, rfl, by kernel_rfl⟩, fun h => by cases h⟩
def ti_2 : TI := ⟨.int .i64, 1, 8, [.int .i64 0], false⟩
theorem ok_2 : TIok Tryd.prog 2 ti_2 := ⟨by kernel_rfl, ⟨Tryd.t2, by kernel_rfl, by kernel_rfl, by kernel_rfl, _, rfl, by kernel_rfl⟩, fun h => by cases h⟩
def ti_3 : TI := ⟨.int .i64, 1, 8, [.int .i64 0], false⟩
theorem ok_3 : TIok Tryd.prog 3 ti_3 := ⟨by kernel_rfl, ⟨Tryd.t3, by kernel_rfl, by kernel_rfl, by kernel_rfl, _, rfl, by kernel_rfl⟩, fun h => by cases h⟩
def ti_4 : TI := ⟨.bool, 1, 1, [.bool false], false⟩
theorem ok_4 : TIok Tryd.prog 4 ti_4 := ⟨by kernel_rfl, ⟨Tryd.t4, by kernel_rfl, by kernel_rfl, by kernel_rfl, _, rfl, by kernel_rfl⟩, fun h => by cases h⟩
def ti_5 : TI := ⟨.int .u8, 1, 1, [.int .u8 0], false⟩
theorem ok_5 : TIok Tryd.prog 5 ti_5 := ⟨by kernel_rfl, ⟨Tryd.t5, by kernel_rfl, by kernel_rfl, by kernel_rfl, _, rfl, by kernel_rfl⟩, fun h => by cases h⟩
def ti_6 : TI := ⟨.int .u8, 1, 1, [.int .u8 0], false⟩
theorem ok_6 : TIok Tryd.prog 6 ti_6 := ⟨by kernel_rfl, ⟨Tryd.t6, by kernel_rfl, by kernel_rfl, by kernel_rfl, _, rfl, by kernel_rfl⟩, fun h => by cases h⟩
def ti_7 : TI := ⟨.struct #[{ name := "x", type := 2, offset := 0, embedded := false, tag := "", pkgPath := "runtime", byteOffset := 0 }, { name := "y", type := 3, offset := 1, embedded := false, tag := "", pkgPath := "runtime", byteOffset := 8 }, { name := "signed", type := 4, offset := 2, embedded := false, tag := "", pkgPath := "runtime", byteOffset := 16 }, { name := "code", type := 6, offset := 3, embedded := false, tag := "", pkgPath := "runtime", byteOffset := 17 }], 4, 24, [.int .i64 0, .int .i64 0, .bool false, .int .u8 0], true⟩
theorem ok_7 : TIok Tryd.prog 7 ti_7 := ⟨by kernel_rfl, ⟨Tryd.t7, by kernel_rfl, by kernel_rfl, by kernel_rfl, _, rfl, by kernel_rfl⟩, fun _ => ⟨by kernel_rfl, by kernel_rfl⟩⟩
def ti_8 : TI := ⟨.struct #[{ name := "x", type := 2, offset := 0, embedded := false, tag := "", pkgPath := "runtime", byteOffset := 0 }, { name := "y", type := 3, offset := 1, embedded := false, tag := "", pkgPath := "runtime", byteOffset := 8 }, { name := "signed", type := 4, offset := 2, embedded := false, tag := "", pkgPath := "runtime", byteOffset := 16 }, { name := "code", type := 6, offset := 3, embedded := false, tag := "", pkgPath := "runtime", byteOffset := 17 }], 4, 24, [.int .i64 0, .int .i64 0, .bool false, .int .u8 0], true⟩
theorem ok_8 : TIok Tryd.prog 8 ti_8 := ⟨by kernel_rfl, ⟨Tryd.t8, by kernel_rfl, by kernel_rfl, by kernel_rfl, _, rfl, by kernel_rfl⟩, fun _ => ⟨by kernel_rfl, by kernel_rfl⟩⟩
def ti_9 : TI := ⟨.string, 1, 16, [.string { data := { toList := [] } }], false⟩
theorem ok_9 : TIok Tryd.prog 9 ti_9 := ⟨by kernel_rfl, ⟨Tryd.t9, by kernel_rfl, by kernel_rfl, by kernel_rfl, _, rfl, by kernel_rfl⟩, fun h => by cases h⟩
def ti_10 : TI := ⟨.string, 1, 16, [.string { data := { toList := [] } }], false⟩
theorem ok_10 : TIok Tryd.prog 10 ti_10 := ⟨by kernel_rfl, ⟨Tryd.t10, by kernel_rfl, by kernel_rfl, by kernel_rfl, _, rfl, by kernel_rfl⟩, fun h => by cases h⟩
def ti_11 : TI := ⟨.string, 1, 16, [.string { data := { toList := [] } }], false⟩
theorem ok_11 : TIok Tryd.prog 11 ti_11 := ⟨by kernel_rfl, ⟨Tryd.t11, by kernel_rfl, by kernel_rfl, by kernel_rfl, _, rfl, by kernel_rfl⟩, fun h => by cases h⟩
def ti_12 : TI := ⟨.int .u64, 1, 8, [.int .u64 0], false⟩
theorem ok_12 : TIok Tryd.prog 12 ti_12 := ⟨by kernel_rfl, ⟨Tryd.t12, by kernel_rfl, by kernel_rfl, by kernel_rfl, _, rfl, by kernel_rfl⟩, fun h => by cases h⟩
def ti_13 : TI := ⟨.struct #[{ name := "msg", type := 9, offset := 0, embedded := false, tag := "", pkgPath := "runtime", byteOffset := 0 }, { name := "addr", type := 12, offset := 1, embedded := false, tag := "", pkgPath := "runtime", byteOffset := 16 }], 2, 24, [.string { data := { toList := [] } }, .int .u64 0], false⟩
theorem ok_13 : TIok Tryd.prog 13 ti_13 := ⟨by kernel_rfl, ⟨Tryd.t13, by kernel_rfl, by kernel_rfl, by kernel_rfl, _, rfl, by kernel_rfl⟩, fun h => by cases h⟩
def ti_14 : TI := ⟨.struct #[{ name := "msg", type := 9, offset := 0, embedded := false, tag := "", pkgPath := "runtime", byteOffset := 0 }, { name := "addr", type := 12, offset := 1, embedded := false, tag := "", pkgPath := "runtime", byteOffset := 16 }], 2, 24, [.string { data := { toList := [] } }, .int .u64 0], false⟩
theorem ok_14 : TIok Tryd.prog 14 ti_14 := ⟨by kernel_rfl, ⟨Tryd.t14, by kernel_rfl, by kernel_rfl, by kernel_rfl, _, rfl, by kernel_rfl⟩, fun h => by cases h⟩
def ti_15 : TI := ⟨.pointer 133, 1, 8, [.pointer none], false⟩
theorem ok_15 : TIok Tryd.prog 15 ti_15 := ⟨by kernel_rfl, ⟨Tryd.t15, by kernel_rfl, by kernel_rfl, by kernel_rfl, _, rfl, by kernel_rfl⟩, fun h => by cases h⟩
def ti_16 : TI := ⟨.pointer 136, 1, 8, [.pointer none], false⟩
theorem ok_16 : TIok Tryd.prog 16 ti_16 := ⟨by kernel_rfl, ⟨Tryd.t16, by kernel_rfl, by kernel_rfl, by kernel_rfl, _, rfl, by kernel_rfl⟩, fun h => by cases h⟩
def ti_17 : TI := ⟨.pointer 145, 1, 8, [.pointer none], false⟩
theorem ok_17 : TIok Tryd.prog 17 ti_17 := ⟨by kernel_rfl, ⟨Tryd.t17, by kernel_rfl, by kernel_rfl, by kernel_rfl, _, rfl, by kernel_rfl⟩, fun h => by cases h⟩
def ti_18 : TI := ⟨.struct #[{ name := "typ", type := 17, offset := 0, embedded := false, tag := "", pkgPath := "internal/runtime/maps", byteOffset := 0 }], 1, 8, [.pointer none], false⟩
theorem ok_18 : TIok Tryd.prog 18 ti_18 := ⟨by kernel_rfl, ⟨Tryd.t18, by kernel_rfl, by kernel_rfl, by kernel_rfl, _, rfl, by kernel_rfl⟩, fun h => by cases h⟩
def ti_19 : TI := ⟨.struct #[{ name := "typ", type := 17, offset := 0, embedded := false, tag := "", pkgPath := "internal/runtime/maps", byteOffset := 0 }], 1, 8, [.pointer none], false⟩
theorem ok_19 : TIok Tryd.prog 19 ti_19 := ⟨by kernel_rfl, ⟨Tryd.t19, by kernel_rfl, by kernel_rfl, by kernel_rfl, _, rfl, by kernel_rfl⟩, fun h => by cases h⟩
def ti_21 : TI := ⟨.int .i32, 1, 4, [.int .i32 0], false⟩
theorem ok_21 : TIok Tryd.prog 21 ti_21 := ⟨by kernel_rfl, ⟨Tryd.t21, by kernel_rfl, by kernel_rfl, by kernel_rfl, _, rfl, by kernel_rfl⟩, fun h => by cases h⟩
def ti_22 : TI := ⟨.array 5 5, 5, 5, [.int .u8 0, .int .u8 0, .int .u8 0, .int .u8 0, .int .u8 0], true⟩
theorem ok_22 : TIok Tryd.prog 22 ti_22 := ⟨by kernel_rfl, ⟨Tryd.t22, by kernel_rfl, by kernel_rfl, by kernel_rfl, _, rfl, by kernel_rfl⟩, fun _ => ⟨by kernel_rfl, by kernel_rfl⟩⟩
def ti_23 : TI := ⟨.func #[] #[4] false, 1, 8, [.nilFunc], false⟩
theorem ok_23 : TIok Tryd.prog 23 ti_23 := ⟨by kernel_rfl, ⟨Tryd.t23, by kernel_rfl, by kernel_rfl, by kernel_rfl, _, rfl, by kernel_rfl⟩, fun h => by cases h⟩
def ti_24 : TI := ⟨.struct #[{ name := "Limits", type := 22, offset := 0, embedded := false, tag := "", pkgPath := "", byteOffset := 0 }, { name := "Counts", type := 22, offset := 5, embedded := false, tag := "", pkgPath := "", byteOffset := 5 }], 10, 10, [.int .u8 0, .int .u8 0, .int .u8 0, .int .u8 0, .int .u8 0, .int .u8 0, .int .u8 0, .int .u8 0, .int .u8 0, .int .u8 0], true⟩
theorem ok_24 : TIok Tryd.prog 24 ti_24 := ⟨by kernel_rfl, ⟨Tryd.t24, by kernel_rfl, by kernel_rfl, by kernel_rfl, _, rfl, by kernel_rfl⟩, fun _ => ⟨by kernel_rfl, by kernel_rfl⟩⟩
def ti_25 : TI := ⟨.struct #[{ name := "Limits", type := 22, offset := 0, embedded := false, tag := "", pkgPath := "", byteOffset := 0 }, { name := "Counts", type := 22, offset := 5, embedded := false, tag := "", pkgPath := "", byteOffset := 5 }], 10, 10, [.int .u8 0, .int .u8 0, .int .u8 0, .int .u8 0, .int .u8 0, .int .u8 0, .int .u8 0, .int .u8 0, .int .u8 0, .int .u8 0], true⟩
theorem ok_25 : TIok Tryd.prog 25 ti_25 := ⟨by kernel_rfl, ⟨Tryd.t25, by kernel_rfl, by kernel_rfl, by kernel_rfl, _, rfl, by kernel_rfl⟩, fun _ => ⟨by kernel_rfl, by kernel_rfl⟩⟩
def ti_26 : TI := ⟨.func #[5, 3] #[4] false, 1, 8, [.nilFunc], false⟩
theorem ok_26 : TIok Tryd.prog 26 ti_26 := ⟨by kernel_rfl, ⟨Tryd.t26, by kernel_rfl, by kernel_rfl, by kernel_rfl, _, rfl, by kernel_rfl⟩, fun h => by cases h⟩
def ti_27 : TI := ⟨.array 5 3, 5, 40, [.int .i64 0, .int .i64 0, .int .i64 0, .int .i64 0, .int .i64 0], true⟩
theorem ok_27 : TIok Tryd.prog 27 ti_27 := ⟨by kernel_rfl, ⟨Tryd.t27, by kernel_rfl, by kernel_rfl, by kernel_rfl, _, rfl, by kernel_rfl⟩, fun _ => ⟨by kernel_rfl, by kernel_rfl⟩⟩
def ti_28 : TI := ⟨.struct #[{ name := "Level", type := 5, offset := 0, embedded := false, tag := "", pkgPath := "", byteOffset := 0 }, { name := "Unit", type := 3, offset := 1, embedded := false, tag := "", pkgPath := "", byteOffset := 8 }, { name := "Event", type := 5, offset := 2, embedded := false, tag := "", pkgPath := "", byteOffset := 16 }], 3, 24, [.int .u8 0, .int .i64 0, .int .u8 0], true⟩
theorem ok_28 : TIok Tryd.prog 28 ti_28 := ⟨by kernel_rfl, ⟨Tryd.t28, by kernel_rfl, by kernel_rfl, by kernel_rfl, _, rfl, by kernel_rfl⟩, fun _ => ⟨by kernel_rfl, by kernel_rfl⟩⟩
def ti_29 : TI := ⟨.struct #[{ name := "Level", type := 5, offset := 0, embedded := false, tag := "", pkgPath := "", byteOffset := 0 }, { name := "Unit", type := 3, offset := 1, embedded := false, tag := "", pkgPath := "", byteOffset := 8 }, { name := "Event", type := 5, offset := 2, embedded := false, tag := "", pkgPath := "", byteOffset := 16 }], 3, 24, [.int .u8 0, .int .i64 0, .int .u8 0], true⟩
theorem ok_29 : TIok Tryd.prog 29 ti_29 := ⟨by kernel_rfl, ⟨Tryd.t29, by kernel_rfl, by kernel_rfl, by kernel_rfl, _, rfl, by kernel_rfl⟩, fun _ => ⟨by kernel_rfl, by kernel_rfl⟩⟩
def ti_31 : TI := ⟨.func #[29, 5] #[25, 29, 4] false, 1, 8, [.nilFunc], false⟩
theorem ok_31 : TIok Tryd.prog 31 ti_31 := ⟨by kernel_rfl, ⟨Tryd.t31, by kernel_rfl, by kernel_rfl, by kernel_rfl, _, rfl, by kernel_rfl⟩, fun h => by cases h⟩
def ti_32 : TI := ⟨.func #[22, 5, 5, 5] #[4] false, 1, 8, [.nilFunc], false⟩
theorem ok_32 : TIok Tryd.prog 32 ti_32 := ⟨by kernel_rfl, ⟨Tryd.t32, by kernel_rfl, by kernel_rfl, by kernel_rfl, _, rfl, by kernel_rfl⟩, fun h => by cases h⟩
def ti_33 : TI := ⟨.struct #[{ name := "Wait", type := 5, offset := 0, embedded := false, tag := "", pkgPath := "", byteOffset := 0 }, { name := "Tolerate", type := 5, offset := 1, embedded := false, tag := "", pkgPath := "", byteOffset := 1 }], 2, 2, [.int .u8 0, .int .u8 0], true⟩
theorem ok_33 : TIok Tryd.prog 33 ti_33 := ⟨by kernel_rfl, ⟨Tryd.t33, by kernel_rfl, by kernel_rfl, by kernel_rfl, _, rfl, by kernel_rfl⟩, fun _ => ⟨by kernel_rfl, by kernel_rfl⟩⟩
def ti_34 : TI := ⟨.struct #[{ name := "Wait", type := 5, offset := 0, embedded := false, tag := "", pkgPath := "", byteOffset := 0 }, { name := "Tolerate", type := 5, offset := 1, embedded := false, tag := "", pkgPath := "", byteOffset := 1 }], 2, 2, [.int .u8 0, .int .u8 0], true⟩
theorem ok_34 : TIok Tryd.prog 34 ti_34 := ⟨by kernel_rfl, ⟨Tryd.t34, by kernel_rfl, by kernel_rfl, by kernel_rfl, _, rfl, by kernel_rfl⟩, fun _ => ⟨by kernel_rfl, by kernel_rfl⟩⟩
def ti_35 : TI := ⟨.slice 4, 1, 24, [.slice none 0 0], false⟩
theorem ok_35 : TIok Tryd.prog 35 ti_35 := ⟨by kernel_rfl, ⟨Tryd.t35, by kernel_rfl, by kernel_rfl, by kernel_rfl, _, rfl, by kernel_rfl⟩, fun h => by cases h⟩
def ti_36 : TI := ⟨.struct #[{ name := "State", type := 5, offset := 0, embedded := false, tag := "", pkgPath := "", byteOffset := 0 }, { name := "Left", type := 5, offset := 1, embedded := false, tag := "", pkgPath := "", byteOffset := 1 }, { name := "Bad", type := 5, offset := 2, embedded := false, tag := "", pkgPath := "", byteOffset := 2 }], 3, 3, [.int .u8 0, .int .u8 0, .int .u8 0], true⟩
theorem ok_36 : TIok Tryd.prog 36 ti_36 := ⟨by kernel_rfl, ⟨Tryd.t36, by kernel_rfl, by kernel_rfl, by kernel_rfl, _, rfl, by kernel_rfl⟩, fun _ => ⟨by kernel_rfl, by kernel_rfl⟩⟩
def ti_37 : TI := ⟨.struct #[{ name := "State", type := 5, offset := 0, embedded := false, tag := "", pkgPath := "", byteOffset := 0 }, { name := "Left", type := 5, offset := 1, embedded := false, tag := "", pkgPath := "", byteOffset := 1 }, { name := "Bad", type := 5, offset := 2, embedded := false, tag := "", pkgPath := "", byteOffset := 2 }], 3, 3, [.int .u8 0, .int .u8 0, .int .u8 0], true⟩
theorem ok_37 : TIok Tryd.prog 37 ti_37 := ⟨by kernel_rfl, ⟨Tryd.t37, by kernel_rfl, by kernel_rfl, by kernel_rfl, _, rfl, by kernel_rfl⟩, fun _ => ⟨by kernel_rfl, by kernel_rfl⟩⟩
def ti_39 : TI := ⟨.func #[4, 34] #[37, 4] false, 1, 8, [.nilFunc], false⟩
theorem ok_39 : TIok Tryd.prog 39 ti_39 := ⟨by kernel_rfl, ⟨Tryd.t39, by kernel_rfl, by kernel_rfl, by kernel_rfl, _, rfl, by kernel_rfl⟩, fun h => by cases h⟩
def ti_41 : TI := ⟨.func #[4, 4, 34] #[37, 5] false, 1, 8, [.nilFunc], false⟩
theorem ok_41 : TIok Tryd.prog 41 ti_41 := ⟨by kernel_rfl, ⟨Tryd.t41, by kernel_rfl, by kernel_rfl, by kernel_rfl, _, rfl, by kernel_rfl⟩, fun h => by cases h⟩
def ti_42 : TI := ⟨.func #[34, 35, 5] #[4] false, 1, 8, [.nilFunc], false⟩
theorem ok_42 : TIok Tryd.prog 42 ti_42 := ⟨by kernel_rfl, ⟨Tryd.t42, by kernel_rfl, by kernel_rfl, by kernel_rfl, _, rfl, by kernel_rfl⟩, fun h => by cases h⟩
def ti_43 : TI := ⟨.func #[34, 5] #[4] false, 1, 8, [.nilFunc], false⟩
theorem ok_43 : TIok Tryd.prog 43 ti_43 := ⟨by kernel_rfl, ⟨Tryd.t43, by kernel_rfl, by kernel_rfl, by kernel_rfl, _, rfl, by kernel_rfl⟩, fun h => by cases h⟩
def ti_44 : TI := ⟨.func #[] #[25] false, 1, 8, [.nilFunc], false⟩
theorem ok_44 : TIok Tryd.prog 44 ti_44 := ⟨by kernel_rfl, ⟨Tryd.t44, by kernel_rfl, by kernel_rfl, by kernel_rfl, _, rfl, by kernel_rfl⟩, fun h => by cases h⟩
def ti_45 : TI := ⟨.func #[25, 29, 5] #[4] false, 1, 8, [.nilFunc], false⟩
theorem ok_45 : TIok Tryd.prog 45 ti_45 := ⟨by kernel_rfl, ⟨Tryd.t45, by kernel_rfl, by kernel_rfl, by kernel_rfl, _, rfl, by kernel_rfl⟩, fun h => by cases h⟩
def ti_46 : TI := ⟨.func #[22, 22, 47, 5] #[3] false, 1, 8, [.nilFunc], false⟩
theorem ok_46 : TIok Tryd.prog 46 ti_46 := ⟨by kernel_rfl, ⟨Tryd.t46, by kernel_rfl, by kernel_rfl, by kernel_rfl, _, rfl, by kernel_rfl⟩, fun h => by cases h⟩
def ti_47 : TI := ⟨.struct #[{ name := "Level", type := 5, offset := 0, embedded := false, tag := "", pkgPath := "", byteOffset := 0 }, { name := "Unit", type := 3, offset := 1, embedded := false, tag := "", pkgPath := "", byteOffset := 8 }, { name := "Event", type := 5, offset := 2, embedded := false, tag := "", pkgPath := "", byteOffset := 16 }], 3, 24, [.int .u8 0, .int .i64 0, .int .u8 0], true⟩
theorem ok_47 : TIok Tryd.prog 47 ti_47 := ⟨by kernel_rfl, ⟨Tryd.t47, by kernel_rfl, by kernel_rfl, by kernel_rfl, _, rfl, by kernel_rfl⟩, fun _ => ⟨by kernel_rfl, by kernel_rfl⟩⟩
def ti_48 : TI := ⟨.func #[5] #[25] false, 1, 8, [.nilFunc], false⟩
theorem ok_48 : TIok Tryd.prog 48 ti_48 := ⟨by kernel_rfl, ⟨Tryd.t48, by kernel_rfl, by kernel_rfl, by kernel_rfl, _, rfl, by kernel_rfl⟩, fun h => by cases h⟩
def ti_49 : TI := ⟨.func #[25, 29, 5, 5] #[4] false, 1, 8, [.nilFunc], false⟩
theorem ok_49 : TIok Tryd.prog 49 ti_49 := ⟨by kernel_rfl, ⟨Tryd.t49, by kernel_rfl, by kernel_rfl, by kernel_rfl, _, rfl, by kernel_rfl⟩, fun h => by cases h⟩
def ti_50 : TI := ⟨.slice 53, 1, 24, [.slice none 0 0], false⟩
theorem ok_50 : TIok Tryd.prog 50 ti_50 := ⟨by kernel_rfl, ⟨Tryd.t50, by kernel_rfl, by kernel_rfl, by kernel_rfl, _, rfl, by kernel_rfl⟩, fun h => by cases h⟩
def ti_51 : TI := ⟨.struct #[{ name := "State", type := 5, offset := 0, embedded := false, tag := "", pkgPath := "", byteOffset := 0 }, { name := "Left", type := 5, offset := 1, embedded := false, tag := "", pkgPath := "", byteOffset := 1 }, { name := "Bad", type := 5, offset := 2, embedded := false, tag := "", pkgPath := "", byteOffset := 2 }], 3, 3, [.int .u8 0, .int .u8 0, .int .u8 0], true⟩
theorem ok_51 : TIok Tryd.prog 51 ti_51 := ⟨by kernel_rfl, ⟨Tryd.t51, by kernel_rfl, by kernel_rfl, by kernel_rfl, _, rfl, by kernel_rfl⟩, fun _ => ⟨by kernel_rfl, by kernel_rfl⟩⟩
def ti_52 : TI := ⟨.struct #[{ name := "Order", type := 5, offset := 0, embedded := false, tag := "", pkgPath := "", byteOffset := 0 }, { name := "Ack", type := 4, offset := 1, embedded := false, tag := "", pkgPath := "", byteOffset := 1 }, { name := "Well", type := 4, offset := 2, embedded := false, tag := "", pkgPath := "", byteOffset := 2 }], 3, 3, [.int .u8 0, .bool false, .bool false], true⟩
theorem ok_52 : TIok Tryd.prog 52 ti_52 := ⟨by kernel_rfl, ⟨Tryd.t52, by kernel_rfl, by kernel_rfl, by kernel_rfl, _, rfl, by kernel_rfl⟩, fun _ => ⟨by kernel_rfl, by kernel_rfl⟩⟩
def ti_53 : TI := ⟨.struct #[{ name := "Order", type := 5, offset := 0, embedded := false, tag := "", pkgPath := "", byteOffset := 0 }, { name := "Ack", type := 4, offset := 1, embedded := false, tag := "", pkgPath := "", byteOffset := 1 }, { name := "Well", type := 4, offset := 2, embedded := false, tag := "", pkgPath := "", byteOffset := 2 }], 3, 3, [.int .u8 0, .bool false, .bool false], true⟩
theorem ok_53 : TIok Tryd.prog 53 ti_53 := ⟨by kernel_rfl, ⟨Tryd.t53, by kernel_rfl, by kernel_rfl, by kernel_rfl, _, rfl, by kernel_rfl⟩, fun _ => ⟨by kernel_rfl, by kernel_rfl⟩⟩
def ti_55 : TI := ⟨.func #[51, 4, 56] #[51, 4] false, 1, 8, [.nilFunc], false⟩
theorem ok_55 : TIok Tryd.prog 55 ti_55 := ⟨by kernel_rfl, ⟨Tryd.t55, by kernel_rfl, by kernel_rfl, by kernel_rfl, _, rfl, by kernel_rfl⟩, fun h => by cases h⟩
def ti_56 : TI := ⟨.struct #[{ name := "Wait", type := 5, offset := 0, embedded := false, tag := "", pkgPath := "", byteOffset := 0 }, { name := "Tolerate", type := 5, offset := 1, embedded := false, tag := "", pkgPath := "", byteOffset := 1 }], 2, 2, [.int .u8 0, .int .u8 0], true⟩
theorem ok_56 : TIok Tryd.prog 56 ti_56 := ⟨by kernel_rfl, ⟨Tryd.t56, by kernel_rfl, by kernel_rfl, by kernel_rfl, _, rfl, by kernel_rfl⟩, fun _ => ⟨by kernel_rfl, by kernel_rfl⟩⟩
def ti_58 : TI := ⟨.func #[51, 4, 4, 56] #[51, 3] false, 1, 8, [.nilFunc], false⟩
theorem ok_58 : TIok Tryd.prog 58 ti_58 := ⟨by kernel_rfl, ⟨Tryd.t58, by kernel_rfl, by kernel_rfl, by kernel_rfl, _, rfl, by kernel_rfl⟩, fun h => by cases h⟩
def ti_59 : TI := ⟨.func #[37, 34] #[4] false, 1, 8, [.nilFunc], false⟩
theorem ok_59 : TIok Tryd.prog 59 ti_59 := ⟨by kernel_rfl, ⟨Tryd.t59, by kernel_rfl, by kernel_rfl, by kernel_rfl, _, rfl, by kernel_rfl⟩, fun h => by cases h⟩
def ti_60 : TI := ⟨.func #[34, 50] #[4] false, 1, 8, [.nilFunc], false⟩
theorem ok_60 : TIok Tryd.prog 60 ti_60 := ⟨by kernel_rfl, ⟨Tryd.t60, by kernel_rfl, by kernel_rfl, by kernel_rfl, _, rfl, by kernel_rfl⟩, fun h => by cases h⟩
def ti_61 : TI := ⟨.int .u16, 1, 2, [.int .u16 0], false⟩
theorem ok_61 : TIok Tryd.prog 61 ti_61 := ⟨by kernel_rfl, ⟨Tryd.t61, by kernel_rfl, by kernel_rfl, by kernel_rfl, _, rfl, by kernel_rfl⟩, fun h => by cases h⟩
def ti_62 : TI := ⟨.struct #[{ name := "Mode", type := 5, offset := 0, embedded := false, tag := "", pkgPath := "", byteOffset := 0 }, { name := "Since", type := 61, offset := 1, embedded := false, tag := "", pkgPath := "", byteOffset := 2 }, { name := "Calm", type := 5, offset := 2, embedded := false, tag := "", pkgPath := "", byteOffset := 4 }, { name := "Seen", type := 5, offset := 3, embedded := false, tag := "", pkgPath := "", byteOffset := 5 }, { name := "Dark", type := 5, offset := 4, embedded := false, tag := "", pkgPath := "", byteOffset := 6 }], 5, 8, [.int .u8 0, .int .u16 0, .int .u8 0, .int .u8 0, .int .u8 0], true⟩
theorem ok_62 : TIok Tryd.prog 62 ti_62 := ⟨by kernel_rfl, ⟨Tryd.t62, by kernel_rfl, by kernel_rfl, by kernel_rfl, _, rfl, by kernel_rfl⟩, fun _ => ⟨by kernel_rfl, by kernel_rfl⟩⟩
def ti_63 : TI := ⟨.struct #[{ name := "Mode", type := 5, offset := 0, embedded := false, tag := "", pkgPath := "", byteOffset := 0 }, { name := "Since", type := 61, offset := 1, embedded := false, tag := "", pkgPath := "", byteOffset := 2 }, { name := "Calm", type := 5, offset := 2, embedded := false, tag := "", pkgPath := "", byteOffset := 4 }, { name := "Seen", type := 5, offset := 3, embedded := false, tag := "", pkgPath := "", byteOffset := 5 }, { name := "Dark", type := 5, offset := 4, embedded := false, tag := "", pkgPath := "", byteOffset := 6 }], 5, 8, [.int .u8 0, .int .u16 0, .int .u8 0, .int .u8 0, .int .u8 0], true⟩
theorem ok_63 : TIok Tryd.prog 63 ti_63 := ⟨by kernel_rfl, ⟨Tryd.t63, by kernel_rfl, by kernel_rfl, by kernel_rfl, _, rfl, by kernel_rfl⟩, fun _ => ⟨by kernel_rfl, by kernel_rfl⟩⟩
def ti_64 : TI := ⟨.array 4 61, 4, 8, [.int .u16 0, .int .u16 0, .int .u16 0, .int .u16 0], true⟩
theorem ok_64 : TIok Tryd.prog 64 ti_64 := ⟨by kernel_rfl, ⟨Tryd.t64, by kernel_rfl, by kernel_rfl, by kernel_rfl, _, rfl, by kernel_rfl⟩, fun _ => ⟨by kernel_rfl, by kernel_rfl⟩⟩
def ti_65 : TI := ⟨.struct #[{ name := "Calm", type := 5, offset := 0, embedded := false, tag := "", pkgPath := "", byteOffset := 0 }, { name := "Seen", type := 5, offset := 1, embedded := false, tag := "", pkgPath := "", byteOffset := 1 }, { name := "Lost", type := 5, offset := 2, embedded := false, tag := "", pkgPath := "", byteOffset := 2 }, { name := "Timeout", type := 64, offset := 3, embedded := false, tag := "", pkgPath := "", byteOffset := 4 }], 7, 12, [.int .u8 0, .int .u8 0, .int .u8 0, .int .u16 0, .int .u16 0, .int .u16 0, .int .u16 0], true⟩
theorem ok_65 : TIok Tryd.prog 65 ti_65 := ⟨by kernel_rfl, ⟨Tryd.t65, by kernel_rfl, by kernel_rfl, by kernel_rfl, _, rfl, by kernel_rfl⟩, fun _ => ⟨by kernel_rfl, by kernel_rfl⟩⟩
def ti_66 : TI := ⟨.struct #[{ name := "Calm", type := 5, offset := 0, embedded := false, tag := "", pkgPath := "", byteOffset := 0 }, { name := "Seen", type := 5, offset := 1, embedded := false, tag := "", pkgPath := "", byteOffset := 1 }, { name := "Lost", type := 5, offset := 2, embedded := false, tag := "", pkgPath := "", byteOffset := 2 }, { name := "Timeout", type := 64, offset := 3, embedded := false, tag := "", pkgPath := "", byteOffset := 4 }], 7, 12, [.int .u8 0, .int .u8 0, .int .u8 0, .int .u16 0, .int .u16 0, .int .u16 0, .int .u16 0], true⟩
theorem ok_66 : TIok Tryd.prog 66 ti_66 := ⟨by kernel_rfl, ⟨Tryd.t66, by kernel_rfl, by kernel_rfl, by kernel_rfl, _, rfl, by kernel_rfl⟩, fun _ => ⟨by kernel_rfl, by kernel_rfl⟩⟩
def ti_68 : TI := ⟨.func #[66, 4, 4, 4] #[63, 5] false, 1, 8, [.nilFunc], false⟩
theorem ok_68 : TIok Tryd.prog 68 ti_68 := ⟨by kernel_rfl, ⟨Tryd.t68, by kernel_rfl, by kernel_rfl, by kernel_rfl, _, rfl, by kernel_rfl⟩, fun h => by cases h⟩
def ti_69 : TI := ⟨.struct #[{ name := "Mode", type := 5, offset := 0, embedded := false, tag := "", pkgPath := "", byteOffset := 0 }, { name := "Since", type := 61, offset := 1, embedded := false, tag := "", pkgPath := "", byteOffset := 2 }, { name := "Calm", type := 5, offset := 2, embedded := false, tag := "", pkgPath := "", byteOffset := 4 }, { name := "Seen", type := 5, offset := 3, embedded := false, tag := "", pkgPath := "", byteOffset := 5 }, { name := "Dark", type := 5, offset := 4, embedded := false, tag := "", pkgPath := "", byteOffset := 6 }], 5, 8, [.int .u8 0, .int .u16 0, .int .u8 0, .int .u8 0, .int .u8 0], true⟩
theorem ok_69 : TIok Tryd.prog 69 ti_69 := ⟨by kernel_rfl, ⟨Tryd.t69, by kernel_rfl, by kernel_rfl, by kernel_rfl, _, rfl, by kernel_rfl⟩, fun _ => ⟨by kernel_rfl, by kernel_rfl⟩⟩
def ti_71 : TI := ⟨.func #[69, 72, 4, 4, 4] #[69, 3] false, 1, 8, [.nilFunc], false⟩
theorem ok_71 : TIok Tryd.prog 71 ti_71 := ⟨by kernel_rfl, ⟨Tryd.t71, by kernel_rfl, by kernel_rfl, by kernel_rfl, _, rfl, by kernel_rfl⟩, fun h => by cases h⟩
def ti_72 : TI := ⟨.struct #[{ name := "Calm", type := 5, offset := 0, embedded := false, tag := "", pkgPath := "", byteOffset := 0 }, { name := "Seen", type := 5, offset := 1, embedded := false, tag := "", pkgPath := "", byteOffset := 1 }, { name := "Lost", type := 5, offset := 2, embedded := false, tag := "", pkgPath := "", byteOffset := 2 }, { name := "Timeout", type := 64, offset := 3, embedded := false, tag := "", pkgPath := "", byteOffset := 4 }], 7, 12, [.int .u8 0, .int .u8 0, .int .u8 0, .int .u16 0, .int .u16 0, .int .u16 0, .int .u16 0], true⟩
theorem ok_72 : TIok Tryd.prog 72 ti_72 := ⟨by kernel_rfl, ⟨Tryd.t72, by kernel_rfl, by kernel_rfl, by kernel_rfl, _, rfl, by kernel_rfl⟩, fun _ => ⟨by kernel_rfl, by kernel_rfl⟩⟩
def ti_73 : TI := ⟨.int .i64, 1, 8, [.int .i64 0], false⟩
theorem ok_73 : TIok Tryd.prog 73 ti_73 := ⟨by kernel_rfl, ⟨Tryd.t73, by kernel_rfl, by kernel_rfl, by kernel_rfl, _, rfl, by kernel_rfl⟩, fun h => by cases h⟩
def ti_75 : TI := ⟨.func #[66, 5] #[63, 73] false, 1, 8, [.nilFunc], false⟩
theorem ok_75 : TIok Tryd.prog 75 ti_75 := ⟨by kernel_rfl, ⟨Tryd.t75, by kernel_rfl, by kernel_rfl, by kernel_rfl, _, rfl, by kernel_rfl⟩, fun h => by cases h⟩
def ti_76 : TI := ⟨.func #[69, 72, 5] #[69, 3] false, 1, 8, [.nilFunc], false⟩
theorem ok_76 : TIok Tryd.prog 76 ti_76 := ⟨by kernel_rfl, ⟨Tryd.t76, by kernel_rfl, by kernel_rfl, by kernel_rfl, _, rfl, by kernel_rfl⟩, fun h => by cases h⟩
def ti_77 : TI := ⟨.slice 9, 1, 24, [.slice none 0 0], false⟩
theorem ok_77 : TIok Tryd.prog 77 ti_77 := ⟨by kernel_rfl, ⟨Tryd.t77, by kernel_rfl, by kernel_rfl, by kernel_rfl, _, rfl, by kernel_rfl⟩, fun h => by cases h⟩
def ti_78 : TI := ⟨.func #[] #[63] false, 1, 8, [.nilFunc], false⟩
theorem ok_78 : TIok Tryd.prog 78 ti_78 := ⟨by kernel_rfl, ⟨Tryd.t78, by kernel_rfl, by kernel_rfl, by kernel_rfl, _, rfl, by kernel_rfl⟩, fun h => by cases h⟩
def ti_79 : TI := ⟨.func #[5] #[9] false, 1, 8, [.nilFunc], false⟩
theorem ok_79 : TIok Tryd.prog 79 ti_79 := ⟨by kernel_rfl, ⟨Tryd.t79, by kernel_rfl, by kernel_rfl, by kernel_rfl, _, rfl, by kernel_rfl⟩, fun h => by cases h⟩
def ti_80 : TI := ⟨.func #[66] #[3] false, 1, 8, [.nilFunc], false⟩
theorem ok_80 : TIok Tryd.prog 80 ti_80 := ⟨by kernel_rfl, ⟨Tryd.t80, by kernel_rfl, by kernel_rfl, by kernel_rfl, _, rfl, by kernel_rfl⟩, fun h => by cases h⟩
def ti_81 : TI := ⟨.func #[63, 66, 4, 4, 4, 5] #[4] false, 1, 8, [.nilFunc], false⟩
theorem ok_81 : TIok Tryd.prog 81 ti_81 := ⟨by kernel_rfl, ⟨Tryd.t81, by kernel_rfl, by kernel_rfl, by kernel_rfl, _, rfl, by kernel_rfl⟩, fun h => by cases h⟩
def ti_82 : TI := ⟨.slice 29, 1, 24, [.slice none 0 0], false⟩
theorem ok_82 : TIok Tryd.prog 82 ti_82 := ⟨by kernel_rfl, ⟨Tryd.t82, by kernel_rfl, by kernel_rfl, by kernel_rfl, _, rfl, by kernel_rfl⟩, fun h => by cases h⟩
def ti_83 : TI := ⟨.slice 47, 1, 24, [.slice none 0 0], false⟩
theorem ok_83 : TIok Tryd.prog 83 ti_83 := ⟨by kernel_rfl, ⟨Tryd.t83, by kernel_rfl, by kernel_rfl, by kernel_rfl, _, rfl, by kernel_rfl⟩, fun h => by cases h⟩
def ti_85 : TI := ⟨.func #[82] #[82, 83] false, 1, 8, [.nilFunc], false⟩
theorem ok_85 : TIok Tryd.prog 85 ti_85 := ⟨by kernel_rfl, ⟨Tryd.t85, by kernel_rfl, by kernel_rfl, by kernel_rfl, _, rfl, by kernel_rfl⟩, fun h => by cases h⟩
def ti_87 : TI := ⟨.func #[5, 82] #[29, 4] true, 1, 8, [.nilFunc], false⟩
theorem ok_87 : TIok Tryd.prog 87 ti_87 := ⟨by kernel_rfl, ⟨Tryd.t87, by kernel_rfl, by kernel_rfl, by kernel_rfl, _, rfl, by kernel_rfl⟩, fun h => by cases h⟩
def ti_89 : TI := ⟨.func #[5, 83] #[47, 4] false, 1, 8, [.nilFunc], false⟩
theorem ok_89 : TIok Tryd.prog 89 ti_89 := ⟨by kernel_rfl, ⟨Tryd.t89, by kernel_rfl, by kernel_rfl, by kernel_rfl, _, rfl, by kernel_rfl⟩, fun h => by cases h⟩
def ti_90 : TI := ⟨.func #[82] #[82] true, 1, 8, [.nilFunc], false⟩
theorem ok_90 : TIok Tryd.prog 90 ti_90 := ⟨by kernel_rfl, ⟨Tryd.t90, by kernel_rfl, by kernel_rfl, by kernel_rfl, _, rfl, by kernel_rfl⟩, fun h => by cases h⟩
def ti_91 : TI := ⟨.func #[83] #[83] false, 1, 8, [.nilFunc], false⟩
theorem ok_91 : TIok Tryd.prog 91 ti_91 := ⟨by kernel_rfl, ⟨Tryd.t91, by kernel_rfl, by kernel_rfl, by kernel_rfl, _, rfl, by kernel_rfl⟩, fun h => by cases h⟩
def ti_92 : TI := ⟨.func #[47] #[4] false, 1, 8, [.nilFunc], false⟩
theorem ok_92 : TIok Tryd.prog 92 ti_92 := ⟨by kernel_rfl, ⟨Tryd.t92, by kernel_rfl, by kernel_rfl, by kernel_rfl, _, rfl, by kernel_rfl⟩, fun h => by cases h⟩
def ti_93 : TI := ⟨.func #[5, 5] #[4] false, 1, 8, [.nilFunc], false⟩
theorem ok_93 : TIok Tryd.prog 93 ti_93 := ⟨by kernel_rfl, ⟨Tryd.t93, by kernel_rfl, by kernel_rfl, by kernel_rfl, _, rfl, by kernel_rfl⟩, fun h => by cases h⟩
def ti_94 : TI := ⟨.func #[82, 5, 5] #[4] false, 1, 8, [.nilFunc], false⟩
theorem ok_94 : TIok Tryd.prog 94 ti_94 := ⟨by kernel_rfl, ⟨Tryd.t94, by kernel_rfl, by kernel_rfl, by kernel_rfl, _, rfl, by kernel_rfl⟩, fun h => by cases h⟩
def ti_95 : TI := ⟨.func #[4, 4] #[63] false, 1, 8, [.nilFunc], false⟩
theorem ok_95 : TIok Tryd.prog 95 ti_95 := ⟨by kernel_rfl, ⟨Tryd.t95, by kernel_rfl, by kernel_rfl, by kernel_rfl, _, rfl, by kernel_rfl⟩, fun h => by cases h⟩
def ti_96 : TI := ⟨.func #[66] #[4] false, 1, 8, [.nilFunc], false⟩
theorem ok_96 : TIok Tryd.prog 96 ti_96 := ⟨by kernel_rfl, ⟨Tryd.t96, by kernel_rfl, by kernel_rfl, by kernel_rfl, _, rfl, by kernel_rfl⟩, fun h => by cases h⟩
def ti_97 : TI := ⟨.func #[3, 3] #[3] false, 1, 8, [.nilFunc], false⟩
theorem ok_97 : TIok Tryd.prog 97 ti_97 := ⟨by kernel_rfl, ⟨Tryd.t97, by kernel_rfl, by kernel_rfl, by kernel_rfl, _, rfl, by kernel_rfl⟩, fun h => by cases h⟩
def ti_98 : TI := ⟨.func #[9] #[77] false, 1, 8, [.nilFunc], false⟩
theorem ok_98 : TIok Tryd.prog 98 ti_98 := ⟨by kernel_rfl, ⟨Tryd.t98, by kernel_rfl, by kernel_rfl, by kernel_rfl, _, rfl, by kernel_rfl⟩, fun h => by cases h⟩
def ti_99 : TI := ⟨.func #[82, 101] #[82] false, 1, 8, [.nilFunc], false⟩
theorem ok_99 : TIok Tryd.prog 99 ti_99 := ⟨by kernel_rfl, ⟨Tryd.t99, by kernel_rfl, by kernel_rfl, by kernel_rfl, _, rfl, by kernel_rfl⟩, fun h => by cases h⟩
def ti_100 : TI := ⟨.func #[82] #[82] false, 1, 8, [.nilFunc], false⟩
theorem ok_100 : TIok Tryd.prog 100 ti_100 := ⟨by kernel_rfl, ⟨Tryd.t100, by kernel_rfl, by kernel_rfl, by kernel_rfl, _, rfl, by kernel_rfl⟩, fun h => by cases h⟩
def ti_101 : TI := ⟨.func #[29] #[4] false, 1, 8, [.nilFunc], false⟩
theorem ok_101 : TIok Tryd.prog 101 ti_101 := ⟨by kernel_rfl, ⟨Tryd.t101, by kernel_rfl, by kernel_rfl, by kernel_rfl, _, rfl, by kernel_rfl⟩, fun h => by cases h⟩
def ti_102 : TI := ⟨.func #[82, 103] #[] false, 1, 8, [.nilFunc], false⟩
theorem ok_102 : TIok Tryd.prog 102 ti_102 := ⟨by kernel_rfl, ⟨Tryd.t102, by kernel_rfl, by kernel_rfl, by kernel_rfl, _, rfl, by kernel_rfl⟩, fun h => by cases h⟩
def ti_103 : TI := ⟨.func #[29, 29] #[3] false, 1, 8, [.nilFunc], false⟩
theorem ok_103 : TIok Tryd.prog 103 ti_103 := ⟨by kernel_rfl, ⟨Tryd.t103, by kernel_rfl, by kernel_rfl, by kernel_rfl, _, rfl, by kernel_rfl⟩, fun h => by cases h⟩
def ti_104 : TI := ⟨.func #[5, 4] #[5] false, 1, 8, [.nilFunc], false⟩
theorem ok_104 : TIok Tryd.prog 104 ti_104 := ⟨by kernel_rfl, ⟨Tryd.t104, by kernel_rfl, by kernel_rfl, by kernel_rfl, _, rfl, by kernel_rfl⟩, fun h => by cases h⟩
def ti_105 : TI := ⟨.array 256 5, 256, 256, [.int .u8 0, .int .u8 0, .int .u8 0, .int .u8 0, .int .u8 0, .int .u8 0, .int .u8 0, .int .u8 0, .int .u8 0, .int .u8 0, .int .u8 0, .int .u8 0, .int .u8 0, .int .u8 0, .int .u8 0, .int .u8 0, .int .u8 0, .int .u8 0, .int .u8 0, .int .u8 0, .int .u8 0, .int .u8 0, .int .u8 0, .int .u8 0, .int .u8 0, .int .u8 0, .int .u8 0, .int .u8 0, .int .u8 0, .int .u8 0, .int .u8 0, .int .u8 0, .int .u8 0, .int .u8 0, .int .u8 0, .int .u8 0, .int .u8 0, .int .u8 0, .int .u8 0, .int .u8 0, .int .u8 0, .int .u8 0, .int .u8 0, .int .u8 0, .int .u8 0, .int .u8 0, .int .u8 0, .int .u8 0, .int .u8 0, .int .u8 0, .int .u8 0, .int .u8 0, .int .u8 0, .int .u8 0, .int .u8 0, .int .u8 0, .int .u8 0, .int .u8 0, .int .u8 0, .int .u8 0, .int .u8 0, .int .u8 0, .int .u8 0, .int .u8 0, .int .u8 0, .int .u8 0, .int .u8 0, .int .u8 0, .int .u8 0, .int .u8 0, .int .u8 0, .int .u8 0, .int .u8 0, .int .u8 0, .int .u8 0, .int .u8 0, .int .u8 0, .int .u8 0, .int .u8 0, .int .u8 0, .int .u8 0, .int .u8 0, .int .u8 0, .int .u8 0, .int .u8 0, .int .u8 0, .int .u8 0, .int .u8 0, .int .u8 0, .int .u8 0, .int .u8 0, .int .u8 0, .int .u8 0, .int .u8 0, .int .u8 0, .int .u8 0, .int .u8 0, .int .u8 0, .int .u8 0, .int .u8 0, .int .u8 0, .int .u8 0, .int .u8 0, .int .u8 0, .int .u8 0, .int .u8 0, .int .u8 0, .int .u8 0, .int .u8 0, .int .u8 0, .int .u8 0, .int .u8 0, .int .u8 0, .int .u8 0, .int .u8 0, .int .u8 0, .int .u8 0, .int .u8 0, .int .u8 0, .int .u8 0, .int .u8 0, .int .u8 0, .int .u8 0, .int .u8 0, .int .u8 0, .int .u8 0, .int .u8 0, .int .u8 0, .int .u8 0, .int .u8 0, .int .u8 0, .int .u8 0, .int .u8 0, .int .u8 0, .int .u8 0, .int .u8 0, .int .u8 0, .int .u8 0, .int .u8 0, .int .u8 0, .int .u8 0, .int .u8 0, .int .u8 0, .int .u8 0, .int .u8 0, .int .u8 0, .int .u8 0, .int .u8 0, .int .u8 0, .int .u8 0, .int .u8 0, .int .u8 0, .int .u8 0, .int .u8 0, .int .u8 0, .int .u8 0, .int .u8 0, .int .u8 0, .int .u8 0, .int .u8 0, .int .u8 0, .int .u8 0, .int .u8 0, .int .u8 0, .int .u8 0, .int .u8 0, .int .u8 0, .int .u8 0, .int .u8 0, .int .u8 0, .int .u8 0, .int .u8 0, .int .u8 0, .int .u8 0, .int .u8 0, .int .u8 0, .int .u8 0, .int .u8 0, .int .u8 0, .int .u8 0, .int .u8 0, .int .u8 0, .int .u8 0, .int .u8 0, .int .u8 0, .int .u8 0, .int .u8 0, .int .u8 0, .int .u8 0, .int .u8 0, .int .u8 0, .int .u8 0, .int .u8 0, .int .u8 0, .int .u8 0, .int .u8 0, .int .u8 0, .int .u8 0, .int .u8 0, .int .u8 0, .int .u8 0, .int .u8 0, .int .u8 0, .int .u8 0, .int .u8 0, .int .u8 0, .int .u8 0, .int .u8 0, .int .u8 0, .int .u8 0, .int .u8 0, .int .u8 0, .int .u8 0, .int .u8 0, .int .u8 0, .int .u8 0, .int .u8 0, .int .u8 0, .int .u8 0, .int .u8 0, .int .u8 0, .int .u8 0, .int .u8 0, .int .u8 0, .int .u8 0, .int .u8 0, .int .u8 0, .int .u8 0, .int .u8 0, .int .u8 0, .int .u8 0, .int .u8 0, .int .u8 0, .int .u8 0, .int .u8 0, .int .u8 0, .int .u8 0, .int .u8 0, .int .u8 0, .int .u8 0, .int .u8 0, .int .u8 0, .int .u8 0, .int .u8 0, .int .u8 0, .int .u8 0, .int .u8 0, .int .u8 0, .int .u8 0, .int .u8 0, .int .u8 0, .int .u8 0, .int .u8 0, .int .u8 0, .int .u8 0, .int .u8 0], true⟩
theorem ok_105 : TIok Tryd.prog 105 ti_105 := ⟨by kernel_rfl, ⟨Tryd.t105, by kernel_rfl, by kernel_rfl, by kernel_rfl, _, rfl, by kernel_rfl⟩, fun _ => ⟨by kernel_rfl, by kernel_rfl⟩⟩
def ti_106 : TI := ⟨.func #[9, 107] #[77] false, 1, 8, [.nilFunc], false⟩
theorem ok_106 : TIok Tryd.prog 106 ti_106 := ⟨by kernel_rfl, ⟨Tryd.t106, by kernel_rfl, by kernel_rfl, by kernel_rfl, _, rfl, by kernel_rfl⟩, fun h => by cases h⟩
def ti_107 : TI := ⟨.func #[21] #[4] false, 1, 8, [.nilFunc], false⟩
theorem ok_107 : TIok Tryd.prog 107 ti_107 := ⟨by kernel_rfl, ⟨Tryd.t107, by kernel_rfl, by kernel_rfl, by kernel_rfl, _, rfl, by kernel_rfl⟩, fun h => by cases h⟩
def ti_108 : TI := ⟨.func #[82, 101] #[3] false, 1, 8, [.nilFunc], false⟩
theorem ok_108 : TIok Tryd.prog 108 ti_108 := ⟨by kernel_rfl, ⟨Tryd.t108, by kernel_rfl, by kernel_rfl, by kernel_rfl, _, rfl, by kernel_rfl⟩, fun h => by cases h⟩
def ti_109 : TI := ⟨.func #[82, 3, 103] #[] false, 1, 8, [.nilFunc], false⟩
theorem ok_109 : TIok Tryd.prog 109 ti_109 := ⟨by kernel_rfl, ⟨Tryd.t109, by kernel_rfl, by kernel_rfl, by kernel_rfl, _, rfl, by kernel_rfl⟩, fun h => by cases h⟩
def ti_110 : TI := ⟨.slice 112, 1, 24, [.slice none 0 0], false⟩
theorem ok_110 : TIok Tryd.prog 110 ti_110 := ⟨by kernel_rfl, ⟨Tryd.t110, by kernel_rfl, by kernel_rfl, by kernel_rfl, _, rfl, by kernel_rfl⟩, fun h => by cases h⟩
def ti_111 : TI := ⟨.struct #[{ name := "start", type := 3, offset := 0, embedded := false, tag := "", pkgPath := "strings", byteOffset := 0 }, { name := "end", type := 3, offset := 1, embedded := false, tag := "", pkgPath := "strings", byteOffset := 8 }], 2, 16, [.int .i64 0, .int .i64 0], true⟩
theorem ok_111 : TIok Tryd.prog 111 ti_111 := ⟨by kernel_rfl, ⟨Tryd.t111, by kernel_rfl, by kernel_rfl, by kernel_rfl, _, rfl, by kernel_rfl⟩, fun _ => ⟨by kernel_rfl, by kernel_rfl⟩⟩
def ti_112 : TI := ⟨.struct #[{ name := "start", type := 3, offset := 0, embedded := false, tag := "", pkgPath := "strings", byteOffset := 0 }, { name := "end", type := 3, offset := 1, embedded := false, tag := "", pkgPath := "strings", byteOffset := 8 }], 2, 16, [.int .i64 0, .int .i64 0], true⟩
theorem ok_112 : TIok Tryd.prog 112 ti_112 := ⟨by kernel_rfl, ⟨Tryd.t112, by kernel_rfl, by kernel_rfl, by kernel_rfl, _, rfl, by kernel_rfl⟩, fun _ => ⟨by kernel_rfl, by kernel_rfl⟩⟩
def ti_113 : TI := ⟨.int .u32, 1, 4, [.int .u32 0], false⟩
theorem ok_113 : TIok Tryd.prog 113 ti_113 := ⟨by kernel_rfl, ⟨Tryd.t113, by kernel_rfl, by kernel_rfl, by kernel_rfl, _, rfl, by kernel_rfl⟩, fun h => by cases h⟩
def ti_114 : TI := ⟨.func #[115, 21] #[4] false, 1, 8, [.nilFunc], false⟩
theorem ok_114 : TIok Tryd.prog 114 ti_114 := ⟨by kernel_rfl, ⟨Tryd.t114, by kernel_rfl, by kernel_rfl, by kernel_rfl, _, rfl, by kernel_rfl⟩, fun h => by cases h⟩
def ti_115 : TI := ⟨.pointer 121, 1, 8, [.pointer none], false⟩
theorem ok_115 : TIok Tryd.prog 115 ti_115 := ⟨by kernel_rfl, ⟨Tryd.t115, by kernel_rfl, by kernel_rfl, by kernel_rfl, _, rfl, by kernel_rfl⟩, fun h => by cases h⟩
def ti_116 : TI := ⟨.func #[82, 3, 3, 103] #[] false, 1, 8, [.nilFunc], false⟩
theorem ok_116 : TIok Tryd.prog 116 ti_116 := ⟨by kernel_rfl, ⟨Tryd.t116, by kernel_rfl, by kernel_rfl, by kernel_rfl, _, rfl, by kernel_rfl⟩, fun h => by cases h⟩
def ti_117 : TI := ⟨.func #[82, 3, 3, 3, 103] #[] false, 1, 8, [.nilFunc], false⟩
theorem ok_117 : TIok Tryd.prog 117 ti_117 := ⟨by kernel_rfl, ⟨Tryd.t117, by kernel_rfl, by kernel_rfl, by kernel_rfl, _, rfl, by kernel_rfl⟩, fun h => by cases h⟩
def ti_118 : TI := ⟨.slice 123, 1, 24, [.slice none 0 0], false⟩
theorem ok_118 : TIok Tryd.prog 118 ti_118 := ⟨by kernel_rfl, ⟨Tryd.t118, by kernel_rfl, by kernel_rfl, by kernel_rfl, _, rfl, by kernel_rfl⟩, fun h => by cases h⟩
def ti_119 : TI := ⟨.slice 126, 1, 24, [.slice none 0 0], false⟩
theorem ok_119 : TIok Tryd.prog 119 ti_119 := ⟨by kernel_rfl, ⟨Tryd.t119, by kernel_rfl, by kernel_rfl, by kernel_rfl, _, rfl, by kernel_rfl⟩, fun h => by cases h⟩
def ti_120 : TI := ⟨.struct #[{ name := "R16", type := 118, offset := 0, embedded := false, tag := "", pkgPath := "", byteOffset := 0 }, { name := "R32", type := 119, offset := 1, embedded := false, tag := "", pkgPath := "", byteOffset := 24 }, { name := "LatinOffset", type := 3, offset := 2, embedded := false, tag := "", pkgPath := "", byteOffset := 48 }], 3, 56, [.slice none 0 0, .slice none 0 0, .int .i64 0], true⟩
theorem ok_120 : TIok Tryd.prog 120 ti_120 := ⟨by kernel_rfl, ⟨Tryd.t120, by kernel_rfl, by kernel_rfl, by kernel_rfl, _, rfl, by kernel_rfl⟩, fun _ => ⟨by kernel_rfl, by kernel_rfl⟩⟩
def ti_121 : TI := ⟨.struct #[{ name := "R16", type := 118, offset := 0, embedded := false, tag := "", pkgPath := "", byteOffset := 0 }, { name := "R32", type := 119, offset := 1, embedded := false, tag := "", pkgPath := "", byteOffset := 24 }, { name := "LatinOffset", type := 3, offset := 2, embedded := false, tag := "", pkgPath := "", byteOffset := 48 }], 3, 56, [.slice none 0 0, .slice none 0 0, .int .i64 0], true⟩
theorem ok_121 : TIok Tryd.prog 121 ti_121 := ⟨by kernel_rfl, ⟨Tryd.t121, by kernel_rfl, by kernel_rfl, by kernel_rfl, _, rfl, by kernel_rfl⟩, fun _ => ⟨by kernel_rfl, by kernel_rfl⟩⟩
def ti_122 : TI := ⟨.struct #[{ name := "Lo", type := 61, offset := 0, embedded := false, tag := "", pkgPath := "", byteOffset := 0 }, { name := "Hi", type := 61, offset := 1, embedded := false, tag := "", pkgPath := "", byteOffset := 2 }, { name := "Stride", type := 61, offset := 2, embedded := false, tag := "", pkgPath := "", byteOffset := 4 }], 3, 6, [.int .u16 0, .int .u16 0, .int .u16 0], true⟩
theorem ok_122 : TIok Tryd.prog 122 ti_122 := ⟨by kernel_rfl, ⟨Tryd.t122, by kernel_rfl, by kernel_rfl, by kernel_rfl, _, rfl, by kernel_rfl⟩, fun _ => ⟨by kernel_rfl, by kernel_rfl⟩⟩
def ti_123 : TI := ⟨.struct #[{ name := "Lo", type := 61, offset := 0, embedded := false, tag := "", pkgPath := "", byteOffset := 0 }, { name := "Hi", type := 61, offset := 1, embedded := false, tag := "", pkgPath := "", byteOffset := 2 }, { name := "Stride", type := 61, offset := 2, embedded := false, tag := "", pkgPath := "", byteOffset := 4 }], 3, 6, [.int .u16 0, .int .u16 0, .int .u16 0], true⟩
theorem ok_123 : TIok Tryd.prog 123 ti_123 := ⟨by kernel_rfl, ⟨Tryd.t123, by kernel_rfl, by kernel_rfl, by kernel_rfl, _, rfl, by kernel_rfl⟩, fun _ => ⟨by kernel_rfl, by kernel_rfl⟩⟩
def ti_124 : TI := ⟨.func #[118, 61] #[4] false, 1, 8, [.nilFunc], false⟩
theorem ok_124 : TIok Tryd.prog 124 ti_124 := ⟨by kernel_rfl, ⟨Tryd.t124, by kernel_rfl, by kernel_rfl, by kernel_rfl, _, rfl, by kernel_rfl⟩, fun h => by cases h⟩
def ti_125 : TI := ⟨.struct #[{ name := "Lo", type := 113, offset := 0, embedded := false, tag := "", pkgPath := "", byteOffset := 0 }, { name := "Hi", type := 113, offset := 1, embedded := false, tag := "", pkgPath := "", byteOffset := 4 }, { name := "Stride", type := 113, offset := 2, embedded := false, tag := "", pkgPath := "", byteOffset := 8 }], 3, 12, [.int .u32 0, .int .u32 0, .int .u32 0], true⟩
theorem ok_125 : TIok Tryd.prog 125 ti_125 := ⟨by kernel_rfl, ⟨Tryd.t125, by kernel_rfl, by kernel_rfl, by kernel_rfl, _, rfl, by kernel_rfl⟩, fun _ => ⟨by kernel_rfl, by kernel_rfl⟩⟩
def ti_126 : TI := ⟨.struct #[{ name := "Lo", type := 113, offset := 0, embedded := false, tag := "", pkgPath := "", byteOffset := 0 }, { name := "Hi", type := 113, offset := 1, embedded := false, tag := "", pkgPath := "", byteOffset := 4 }, { name := "Stride", type := 113, offset := 2, embedded := false, tag := "", pkgPath := "", byteOffset := 8 }], 3, 12, [.int .u32 0, .int .u32 0, .int .u32 0], true⟩
theorem ok_126 : TIok Tryd.prog 126 ti_126 := ⟨by kernel_rfl, ⟨Tryd.t126, by kernel_rfl, by kernel_rfl, by kernel_rfl, _, rfl, by kernel_rfl⟩, fun _ => ⟨by kernel_rfl, by kernel_rfl⟩⟩
def ti_127 : TI := ⟨.func #[119, 113] #[4] false, 1, 8, [.nilFunc], false⟩
theorem ok_127 : TIok Tryd.prog 127 ti_127 := ⟨by kernel_rfl, ⟨Tryd.t127, by kernel_rfl, by kernel_rfl, by kernel_rfl, _, rfl, by kernel_rfl⟩, fun h => by cases h⟩
def ti_128 : TI := ⟨.int .u64, 1, 8, [.int .u64 0], false⟩
theorem ok_128 : TIok Tryd.prog 128 ti_128 := ⟨by kernel_rfl, ⟨Tryd.t128, by kernel_rfl, by kernel_rfl, by kernel_rfl, _, rfl, by kernel_rfl⟩, fun h => by cases h⟩
def ti_129 : TI := ⟨.pointer 123, 1, 8, [.pointer none], false⟩
theorem ok_129 : TIok Tryd.prog 129 ti_129 := ⟨by kernel_rfl, ⟨Tryd.t129, by kernel_rfl, by kernel_rfl, by kernel_rfl, _, rfl, by kernel_rfl⟩, fun h => by cases h⟩
def ti_130 : TI := ⟨.pointer 126, 1, 8, [.pointer none], false⟩
theorem ok_130 : TIok Tryd.prog 130 ti_130 := ⟨by kernel_rfl, ⟨Tryd.t130, by kernel_rfl, by kernel_rfl, by kernel_rfl, _, rfl, by kernel_rfl⟩, fun h => by cases h⟩
def ti_131 : TI := ⟨.func #[] #[9] false, 1, 8, [.nilFunc], false⟩
theorem ok_131 : TIok Tryd.prog 131 ti_131 := ⟨by kernel_rfl, ⟨Tryd.t131, by kernel_rfl, by kernel_rfl, by kernel_rfl, _, rfl, by kernel_rfl⟩, fun h => by cases h⟩
def ti_132 : TI := ⟨.struct #[{ name := "_interface", type := 17, offset := 0, embedded := false, tag := "", pkgPath := "runtime", byteOffset := 0 }, { name := "concrete", type := 17, offset := 1, embedded := false, tag := "", pkgPath := "runtime", byteOffset := 8 }, { name := "asserted", type := 17, offset := 2, embedded := false, tag := "", pkgPath := "runtime", byteOffset := 16 }, { name := "missingMethod", type := 9, offset := 3, embedded := false, tag := "", pkgPath := "runtime", byteOffset := 24 }], 4, 40, [.pointer none, .pointer none, .pointer none, .string { data := { toList := [] } }], false⟩
theorem ok_132 : TIok Tryd.prog 132 ti_132 := ⟨by kernel_rfl, ⟨Tryd.t132, by kernel_rfl, by kernel_rfl, by kernel_rfl, _, rfl, by kernel_rfl⟩, fun h => by cases h⟩
def ti_133 : TI := ⟨.struct #[{ name := "_interface", type := 17, offset := 0, embedded := false, tag := "", pkgPath := "runtime", byteOffset := 0 }, { name := "concrete", type := 17, offset := 1, embedded := false, tag := "", pkgPath := "runtime", byteOffset := 8 }, { name := "asserted", type := 17, offset := 2, embedded := false, tag := "", pkgPath := "runtime", byteOffset := 16 }, { name := "missingMethod", type := 9, offset := 3, embedded := false, tag := "", pkgPath := "runtime", byteOffset := 24 }], 4, 40, [.pointer none, .pointer none, .pointer none, .string { data := { toList := [] } }], false⟩
theorem ok_133 : TIok Tryd.prog 133 ti_133 := ⟨by kernel_rfl, ⟨Tryd.t133, by kernel_rfl, by kernel_rfl, by kernel_rfl, _, rfl, by kernel_rfl⟩, fun h => by cases h⟩
def ti_134 : TI := ⟨.array 0 16, 0, 0, [], true⟩
theorem ok_134 : TIok Tryd.prog 134 ti_134 := ⟨by kernel_rfl, ⟨Tryd.t134, by kernel_rfl, by kernel_rfl, by kernel_rfl, _, rfl, by kernel_rfl⟩, fun _ => ⟨by kernel_rfl, by kernel_rfl⟩⟩
def ti_135 : TI := ⟨.struct #[{ name := "_", type := 134, offset := 0, embedded := false, tag := "", pkgPath := "runtime", byteOffset := 0 }], 0, 0, [], false⟩
theorem ok_135 : TIok Tryd.prog 135 ti_135 := ⟨by kernel_rfl, ⟨Tryd.t135, by kernel_rfl, by kernel_rfl, by kernel_rfl, _, rfl, by kernel_rfl⟩, fun h => by cases h⟩
def ti_136 : TI := ⟨.struct #[{ name := "_", type := 134, offset := 0, embedded := false, tag := "", pkgPath := "runtime", byteOffset := 0 }], 0, 0, [], false⟩
theorem ok_136 : TIok Tryd.prog 136 ti_136 := ⟨by kernel_rfl, ⟨Tryd.t136, by kernel_rfl, by kernel_rfl, by kernel_rfl, _, rfl, by kernel_rfl⟩, fun h => by cases h⟩
def ti_137 : TI := ⟨.func #[] #[3] false, 1, 8, [.nilFunc], false⟩
theorem ok_137 : TIok Tryd.prog 137 ti_137 := ⟨by kernel_rfl, ⟨Tryd.t137, by kernel_rfl, by kernel_rfl, by kernel_rfl, _, rfl, by kernel_rfl⟩, fun h => by cases h⟩
def ti_138 : TI := ⟨.int .u8, 1, 1, [.int .u8 0], false⟩
theorem ok_138 : TIok Tryd.prog 138 ti_138 := ⟨by kernel_rfl, ⟨Tryd.t138, by kernel_rfl, by kernel_rfl, by kernel_rfl, _, rfl, by kernel_rfl⟩, fun h => by cases h⟩
def ti_139 : TI := ⟨.int .u8, 1, 1, [.int .u8 0], false⟩
theorem ok_139 : TIok Tryd.prog 139 ti_139 := ⟨by kernel_rfl, ⟨Tryd.t139, by kernel_rfl, by kernel_rfl, by kernel_rfl, _, rfl, by kernel_rfl⟩, fun h => by cases h⟩
def ti_140 : TI := ⟨.func #[146, 146] #[4] false, 1, 8, [.nilFunc], false⟩
theorem ok_140 : TIok Tryd.prog 140 ti_140 := ⟨by kernel_rfl, ⟨Tryd.t140, by kernel_rfl, by kernel_rfl, by kernel_rfl, _, rfl, by kernel_rfl⟩, fun h => by cases h⟩
def ti_141 : TI := ⟨.pointer 5, 1, 8, [.pointer none], false⟩
theorem ok_141 : TIok Tryd.prog 141 ti_141 := ⟨by kernel_rfl, ⟨Tryd.t141, by kernel_rfl, by kernel_rfl, by kernel_rfl, _, rfl, by kernel_rfl⟩, fun h => by cases h⟩
def ti_142 : TI := ⟨.int .i32, 1, 4, [.int .i32 0], false⟩
theorem ok_142 : TIok Tryd.prog 142 ti_142 := ⟨by kernel_rfl, ⟨Tryd.t142, by kernel_rfl, by kernel_rfl, by kernel_rfl, _, rfl, by kernel_rfl⟩, fun h => by cases h⟩
def ti_143 : TI := ⟨.int .i32, 1, 4, [.int .i32 0], false⟩
theorem ok_143 : TIok Tryd.prog 143 ti_143 := ⟨by kernel_rfl, ⟨Tryd.t143, by kernel_rfl, by kernel_rfl, by kernel_rfl, _, rfl, by kernel_rfl⟩, fun h => by cases h⟩
def ti_144 : TI := ⟨.struct #[{ name := "Size_", type := 12, offset := 0, embedded := false, tag := "", pkgPath := "", byteOffset := 0 }, { name := "PtrBytes", type := 12, offset := 1, embedded := false, tag := "", pkgPath := "", byteOffset := 8 }, { name := "Hash", type := 113, offset := 2, embedded := false, tag := "", pkgPath := "", byteOffset := 16 }, { name := "TFlag", type := 138, offset := 3, embedded := false, tag := "", pkgPath := "", byteOffset := 20 }, { name := "Align_", type := 5, offset := 4, embedded := false, tag := "", pkgPath := "", byteOffset := 21 }, { name := "FieldAlign_", type := 5, offset := 5, embedded := false, tag := "", pkgPath := "", byteOffset := 22 }, { name := "Kind_", type := 139, offset := 6, embedded := false, tag := "", pkgPath := "", byteOffset := 23 }, { name := "Equal", type := 140, offset := 7, embedded := false, tag := "", pkgPath := "", byteOffset := 24 }, { name := "GCData", type := 141, offset := 8, embedded := false, tag := "", pkgPath := "", byteOffset := 32 }, { name := "Str", type := 142, offset := 9, embedded := false, tag := "", pkgPath := "", byteOffset := 40 }, { name := "PtrToThis", type := 143, offset := 10, embedded := false, tag := "", pkgPath := "", byteOffset := 44 }], 11, 48, [.int .u64 0, .int .u64 0, .int .u32 0, .int .u8 0, .int .u8 0, .int .u8 0, .int .u8 0, .nilFunc, .pointer none, .int .i32 0, .int .i32 0], false⟩
theorem ok_144 : TIok Tryd.prog 144 ti_144 := ⟨by kernel_rfl, ⟨Tryd.t144, by kernel_rfl, by kernel_rfl, by kernel_rfl, _, rfl, by kernel_rfl⟩, fun h => by cases h⟩
def ti_145 : TI := ⟨.struct #[{ name := "Size_", type := 12, offset := 0, embedded := false, tag := "", pkgPath := "", byteOffset := 0 }, { name := "PtrBytes", type := 12, offset := 1, embedded := false, tag := "", pkgPath := "", byteOffset := 8 }, { name := "Hash", type := 113, offset := 2, embedded := false, tag := "", pkgPath := "", byteOffset := 16 }, { name := "TFlag", type := 138, offset := 3, embedded := false, tag := "", pkgPath := "", byteOffset := 20 }, { name := "Align_", type := 5, offset := 4, embedded := false, tag := "", pkgPath := "", byteOffset := 21 }, { name := "FieldAlign_", type := 5, offset := 5, embedded := false, tag := "", pkgPath := "", byteOffset := 22 }, { name := "Kind_", type := 139, offset := 6, embedded := false, tag := "", pkgPath := "", byteOffset := 23 }, { name := "Equal", type := 140, offset := 7, embedded := false, tag := "", pkgPath := "", byteOffset := 24 }, { name := "GCData", type := 141, offset := 8, embedded := false, tag := "", pkgPath := "", byteOffset := 32 }, { name := "Str", type := 142, offset := 9, embedded := false, tag := "", pkgPath := "", byteOffset := 40 }, { name := "PtrToThis", type := 143, offset := 10, embedded := false, tag := "", pkgPath := "", byteOffset := 44 }], 11, 48, [.int .u64 0, .int .u64 0, .int .u32 0, .int .u8 0, .int .u8 0, .int .u8 0, .int .u8 0, .nilFunc, .pointer none, .int .i32 0, .int .i32 0], false⟩
theorem ok_145 : TIok Tryd.prog 145 ti_145 := ⟨by kernel_rfl, ⟨Tryd.t145, by kernel_rfl, by kernel_rfl, by kernel_rfl, _, rfl, by kernel_rfl⟩, fun h => by cases h⟩
def tc : List (Nat × TI) := [(1, ti_1), (2, ti_2), (3, ti_3), (4, ti_4), (5, ti_5), (6, ti_6), (7, ti_7), (8, ti_8), (9, ti_9), (10, ti_10), (11, ti_11), (12, ti_12), (13, ti_13), (14, ti_14), (15, ti_15), (16, ti_16), (17, ti_17), (18, ti_18), (19, ti_19), (21, ti_21), (22, ti_22), (23, ti_23), (24, ti_24), (25, ti_25), (26, ti_26), (27, ti_27), (28, ti_28), (29, ti_29), (31, ti_31), (32, ti_32), (33, ti_33), (34, ti_34), (35, ti_35), (36, ti_36), (37, ti_37), (39, ti_39), (41, ti_41), (42, ti_42), (43, ti_43), (44, ti_44), (45, ti_45), (46, ti_46), (47, ti_47), (48, ti_48), (49, ti_49), (50, ti_50), (51, ti_51), (52, ti_52), (53, ti_53), (55, ti_55), (56, ti_56), (58, ti_58), (59, ti_59), (60, ti_60), (61, ti_61), (62, ti_62), (63, ti_63), (64, ti_64), (65, ti_65), (66, ti_66), (68, ti_68), (69, ti_69), (71, ti_71), (72, ti_72), (73, ti_73), (75, ti_75), (76, ti_76), (77, ti_77), (78, ti_78), (79, ti_79), (80, ti_80), (81, ti_81), (82, ti_82), (83, ti_83), (85, ti_85), (87, ti_87), (89, ti_89), (90, ti_90), (91, ti_91), (92, ti_92), (93, ti_93), (94, ti_94), (95, ti_95), (96, ti_96), (97, ti_97), (98, ti_98), (99, ti_99), (100, ti_100), (101, ti_101), (102, ti_102), (103, ti_103), (104, ti_104), (105, ti_105), (106, ti_106), (107, ti_107), (108, ti_108), (109, ti_109), (110, ti_110), (111, ti_111), (112, ti_112), (113, ti_113), (114, ti_114), (115, ti_115), (116, ti_116), (117, ti_117), (118, ti_118), (119, ti_119), (120, ti_120), (121, ti_121), (122, ti_122), (123, ti_123), (124, ti_124), (125, ti_125), (126, ti_126), (127, ti_127), (128, ti_128), (129, ti_129), (130, ti_130), (131, ti_131), (132, ti_132), (133, ti_133), (134, ti_134), (135, ti_135), (136, ti_136), (137, ti_137), (138, ti_138), (139, ti_139), (140, ti_140), (141, ti_141), (142, ti_142), (143, ti_143), (144, ti_144), (145, ti_145)]
theorem tcok : TCok Tryd.prog tc := ⟨ok_1, ⟨ok_2, ⟨ok_3, ⟨ok_4, ⟨ok_5, ⟨ok_6, ⟨ok_7, ⟨ok_8, ⟨ok_9, ⟨ok_10, ⟨ok_11, ⟨ok_12, ⟨ok_13, ⟨ok_14, ⟨ok_15, ⟨ok_16, ⟨ok_17, ⟨ok_18, ⟨ok_19, ⟨ok_21, ⟨ok_22, ⟨ok_23, ⟨ok_24, ⟨ok_25, ⟨ok_26, ⟨ok_27, ⟨ok_28, ⟨ok_29, ⟨ok_31, ⟨ok_32, ⟨ok_33, ⟨ok_34, ⟨ok_35, ⟨ok_36, ⟨ok_37, ⟨ok_39, ⟨ok_41, ⟨ok_42, ⟨ok_43, ⟨ok_44, ⟨ok_45, ⟨ok_46, ⟨ok_47, ⟨ok_48, ⟨ok_49, ⟨ok_50, ⟨ok_51, ⟨ok_52, ⟨ok_53, ⟨ok_55, ⟨ok_56, ⟨ok_58, ⟨ok_59, ⟨ok_60, ⟨ok_61, ⟨ok_62, ⟨ok_63, ⟨ok_64, ⟨ok_65, ⟨ok_66, ⟨ok_68, ⟨ok_69, ⟨ok_71, ⟨ok_72, ⟨ok_73, ⟨ok_75, ⟨ok_76, ⟨ok_77, ⟨ok_78, ⟨ok_79, ⟨ok_80, ⟨ok_81, ⟨ok_82, ⟨ok_83, ⟨ok_85, ⟨ok_87, ⟨ok_89, ⟨ok_90, ⟨ok_91, ⟨ok_92, ⟨ok_93, ⟨ok_94, ⟨ok_95, ⟨ok_96, ⟨ok_97, ⟨ok_98, ⟨ok_99, ⟨ok_100, ⟨ok_101, ⟨ok_102, ⟨ok_103, ⟨ok_104, ⟨ok_105, ⟨ok_106, ⟨ok_107, ⟨ok_108, ⟨ok_109, ⟨ok_110, ⟨ok_111, ⟨ok_112, ⟨ok_113, ⟨ok_114, ⟨ok_115, ⟨ok_116, ⟨ok_117, ⟨ok_118, ⟨ok_119, ⟨ok_120, ⟨ok_121, ⟨ok_122, ⟨ok_123, ⟨ok_124, ⟨ok_125, ⟨ok_126, ⟨ok_127, ⟨ok_128, ⟨ok_129, ⟨ok_130, ⟨ok_131, ⟨ok_132, ⟨ok_133, ⟨ok_134, ⟨ok_135, ⟨ok_136, ⟨ok_137, ⟨ok_138, ⟨ok_139, ⟨ok_140, ⟨ok_141, ⟨ok_142, ⟨ok_143, ⟨ok_144, ⟨ok_145, trivial⟩⟩⟩⟩⟩⟩⟩⟩⟩⟩⟩⟩⟩⟩⟩⟩⟩⟩⟩⟩⟩⟩⟩⟩⟩⟩⟩⟩⟩⟩⟩⟩⟩⟩⟩⟩⟩⟩⟩⟩⟩⟩⟩⟩⟩⟩⟩⟩⟩⟩⟩⟩⟩⟩⟩⟩⟩⟩⟩⟩⟩⟩⟩⟩⟩⟩⟩⟩⟩⟩⟩⟩⟩⟩⟩⟩⟩⟩⟩⟩⟩⟩⟩⟩⟩⟩⟩⟩⟩⟩⟩⟩⟩⟩⟩⟩⟩⟩⟩⟩⟩⟩⟩⟩⟩⟩⟩⟩⟩⟩⟩⟩⟩⟩⟩⟩⟩⟩⟩⟩⟩⟩⟩⟩⟩⟩⟩⟩⟩⟩⟩⟩⟩
theorem hmix : Tryd.prog.follows .mixedOrders = true := by kernel_rfl
end Go.Proofs.YtklbonfbiakebaaDoor
