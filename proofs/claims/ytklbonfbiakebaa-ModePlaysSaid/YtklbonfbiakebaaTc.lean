/- The types of this seat's program, as a table, and that they are the program's. Written by a program of mine. -/
import Derived.Test.YtklbonfbiakebaaProg
import Derived.Test.YtklbonfbiakebaaAb22
import Derived.KernelRfl
namespace Go.Proofs.Ytklbonfbiakebaa
open Go.Ab
def ti_1 : TI := ⟨.func #[] #[] false, 1, 8, [.nilFunc], false⟩
theorem ok_1 : TIok Try.prog 1 ti_1 := ⟨by kernel_rfl, ⟨Try.t1, by kernel_rfl, by kernel_rfl, by kernel_rfl, _, rfl, by kernel_rfl⟩, fun h => by cases h⟩
def ti_2 : TI := ⟨.int .i64, 1, 8, [.int .i64 0], false⟩
theorem ok_2 : TIok Try.prog 2 ti_2 := ⟨by kernel_rfl, ⟨Try.t2, by kernel_rfl, by kernel_rfl, by kernel_rfl, _, rfl, by kernel_rfl⟩, fun h => by cases h⟩
def ti_3 : TI := ⟨.int .i64, 1, 8, [.int .i64 0], false⟩
theorem ok_3 : TIok Try.prog 3 ti_3 := ⟨by kernel_rfl, ⟨Try.t3, by kernel_rfl, by kernel_rfl, by kernel_rfl, _, rfl, by kernel_rfl⟩, fun h => by cases h⟩
def ti_4 : TI := ⟨.bool, 1, 1, [.bool false], false⟩
theorem ok_4 : TIok Try.prog 4 ti_4 := ⟨by kernel_rfl, ⟨Try.t4, by kernel_rfl, by kernel_rfl, by kernel_rfl, _, rfl, by kernel_rfl⟩, fun h => by cases h⟩
def ti_5 : TI := ⟨.int .u8, 1, 1, [.int .u8 0], false⟩
theorem ok_5 : TIok Try.prog 5 ti_5 := ⟨by kernel_rfl, ⟨Try.t5, by kernel_rfl, by kernel_rfl, by kernel_rfl, _, rfl, by kernel_rfl⟩, fun h => by cases h⟩
def ti_6 : TI := ⟨.int .u8, 1, 1, [.int .u8 0], false⟩
theorem ok_6 : TIok Try.prog 6 ti_6 := ⟨by kernel_rfl, ⟨Try.t6, by kernel_rfl, by kernel_rfl, by kernel_rfl, _, rfl, by kernel_rfl⟩, fun h => by cases h⟩
def ti_7 : TI := ⟨.struct #[{ name := "x", type := 2, offset := 0, embedded := false, tag := "", pkgPath := "runtime", byteOffset := 0 }, { name := "y", type := 3, offset := 1, embedded := false, tag := "", pkgPath := "runtime", byteOffset := 8 }, { name := "signed", type := 4, offset := 2, embedded := false, tag := "", pkgPath := "runtime", byteOffset := 16 }, { name := "code", type := 6, offset := 3, embedded := false, tag := "", pkgPath := "runtime", byteOffset := 17 }], 4, 24, [.int .i64 0, .int .i64 0, .bool false, .int .u8 0], true⟩
theorem ok_7 : TIok Try.prog 7 ti_7 := ⟨by kernel_rfl, ⟨Try.t7, by kernel_rfl, by kernel_rfl, by kernel_rfl, _, rfl, by kernel_rfl⟩, fun _ => ⟨by kernel_rfl, by kernel_rfl⟩⟩
def ti_8 : TI := ⟨.struct #[{ name := "x", type := 2, offset := 0, embedded := false, tag := "", pkgPath := "runtime", byteOffset := 0 }, { name := "y", type := 3, offset := 1, embedded := false, tag := "", pkgPath := "runtime", byteOffset := 8 }, { name := "signed", type := 4, offset := 2, embedded := false, tag := "", pkgPath := "runtime", byteOffset := 16 }, { name := "code", type := 6, offset := 3, embedded := false, tag := "", pkgPath := "runtime", byteOffset := 17 }], 4, 24, [.int .i64 0, .int .i64 0, .bool false, .int .u8 0], true⟩
theorem ok_8 : TIok Try.prog 8 ti_8 := ⟨by kernel_rfl, ⟨Try.t8, by kernel_rfl, by kernel_rfl, by kernel_rfl, _, rfl, by kernel_rfl⟩, fun _ => ⟨by kernel_rfl, by kernel_rfl⟩⟩
def ti_9 : TI := ⟨.string, 1, 16, [.string { data := { toList := [] } }], false⟩
theorem ok_9 : TIok Try.prog 9 ti_9 := ⟨by kernel_rfl, ⟨Try.t9, by kernel_rfl, by kernel_rfl, by kernel_rfl, _, rfl, by kernel_rfl⟩, fun h => by cases h⟩
def ti_10 : TI := ⟨.string, 1, 16, [.string { data := { toList := [] } }], false⟩
theorem ok_10 : TIok Try.prog 10 ti_10 := ⟨by kernel_rfl, ⟨Try.t10, by kernel_rfl, by kernel_rfl, by kernel_rfl, _, rfl, by kernel_rfl⟩, fun h => by cases h⟩
def ti_11 : TI := ⟨.string, 1, 16, [.string { data := { toList := [] } }], false⟩
theorem ok_11 : TIok Try.prog 11 ti_11 := ⟨by kernel_rfl, ⟨Try.t11, by kernel_rfl, by kernel_rfl, by kernel_rfl, _, rfl, by kernel_rfl⟩, fun h => by cases h⟩
def ti_12 : TI := ⟨.int .u64, 1, 8, [.int .u64 0], false⟩
theorem ok_12 : TIok Try.prog 12 ti_12 := ⟨by kernel_rfl, ⟨Try.t12, by kernel_rfl, by kernel_rfl, by kernel_rfl, _, rfl, by kernel_rfl⟩, fun h => by cases h⟩
def ti_13 : TI := ⟨.struct #[{ name := "msg", type := 9, offset := 0, embedded := false, tag := "", pkgPath := "runtime", byteOffset := 0 }, { name := "addr", type := 12, offset := 1, embedded := false, tag := "", pkgPath := "runtime", byteOffset := 16 }], 2, 24, [.string { data := { toList := [] } }, .int .u64 0], false⟩
theorem ok_13 : TIok Try.prog 13 ti_13 := ⟨by kernel_rfl, ⟨Try.t13, by kernel_rfl, by kernel_rfl, by kernel_rfl, _, rfl, by kernel_rfl⟩, fun h => by cases h⟩
def ti_14 : TI := ⟨.struct #[{ name := "msg", type := 9, offset := 0, embedded := false, tag := "", pkgPath := "runtime", byteOffset := 0 }, { name := "addr", type := 12, offset := 1, embedded := false, tag := "", pkgPath := "runtime", byteOffset := 16 }], 2, 24, [.string { data := { toList := [] } }, .int .u64 0], false⟩
theorem ok_14 : TIok Try.prog 14 ti_14 := ⟨by kernel_rfl, ⟨Try.t14, by kernel_rfl, by kernel_rfl, by kernel_rfl, _, rfl, by kernel_rfl⟩, fun h => by cases h⟩
def ti_15 : TI := ⟨.pointer 55, 1, 8, [.pointer none], false⟩
theorem ok_15 : TIok Try.prog 15 ti_15 := ⟨by kernel_rfl, ⟨Try.t15, by kernel_rfl, by kernel_rfl, by kernel_rfl, _, rfl, by kernel_rfl⟩, fun h => by cases h⟩
def ti_16 : TI := ⟨.pointer 58, 1, 8, [.pointer none], false⟩
theorem ok_16 : TIok Try.prog 16 ti_16 := ⟨by kernel_rfl, ⟨Try.t16, by kernel_rfl, by kernel_rfl, by kernel_rfl, _, rfl, by kernel_rfl⟩, fun h => by cases h⟩
def ti_17 : TI := ⟨.pointer 68, 1, 8, [.pointer none], false⟩
theorem ok_17 : TIok Try.prog 17 ti_17 := ⟨by kernel_rfl, ⟨Try.t17, by kernel_rfl, by kernel_rfl, by kernel_rfl, _, rfl, by kernel_rfl⟩, fun h => by cases h⟩
def ti_18 : TI := ⟨.struct #[{ name := "typ", type := 17, offset := 0, embedded := false, tag := "", pkgPath := "internal/runtime/maps", byteOffset := 0 }], 1, 8, [.pointer none], false⟩
theorem ok_18 : TIok Try.prog 18 ti_18 := ⟨by kernel_rfl, ⟨Try.t18, by kernel_rfl, by kernel_rfl, by kernel_rfl, _, rfl, by kernel_rfl⟩, fun h => by cases h⟩
def ti_19 : TI := ⟨.struct #[{ name := "typ", type := 17, offset := 0, embedded := false, tag := "", pkgPath := "internal/runtime/maps", byteOffset := 0 }], 1, 8, [.pointer none], false⟩
theorem ok_19 : TIok Try.prog 19 ti_19 := ⟨by kernel_rfl, ⟨Try.t19, by kernel_rfl, by kernel_rfl, by kernel_rfl, _, rfl, by kernel_rfl⟩, fun h => by cases h⟩
def ti_21 : TI := ⟨.int .i32, 1, 4, [.int .i32 0], false⟩
theorem ok_21 : TIok Try.prog 21 ti_21 := ⟨by kernel_rfl, ⟨Try.t21, by kernel_rfl, by kernel_rfl, by kernel_rfl, _, rfl, by kernel_rfl⟩, fun h => by cases h⟩
def ti_22 : TI := ⟨.int .u16, 1, 2, [.int .u16 0], false⟩
theorem ok_22 : TIok Try.prog 22 ti_22 := ⟨by kernel_rfl, ⟨Try.t22, by kernel_rfl, by kernel_rfl, by kernel_rfl, _, rfl, by kernel_rfl⟩, fun h => by cases h⟩
def ti_23 : TI := ⟨.array 4 22, 4, 8, [.int .u16 0, .int .u16 0, .int .u16 0, .int .u16 0], true⟩
theorem ok_23 : TIok Try.prog 23 ti_23 := ⟨by kernel_rfl, ⟨Try.t23, by kernel_rfl, by kernel_rfl, by kernel_rfl, _, rfl, by kernel_rfl⟩, fun _ => ⟨by kernel_rfl, by kernel_rfl⟩⟩
def ti_24 : TI := ⟨.struct #[{ name := "Calm", type := 5, offset := 0, embedded := false, tag := "", pkgPath := "", byteOffset := 0 }, { name := "Seen", type := 5, offset := 1, embedded := false, tag := "", pkgPath := "", byteOffset := 1 }, { name := "Lost", type := 5, offset := 2, embedded := false, tag := "", pkgPath := "", byteOffset := 2 }, { name := "Timeout", type := 23, offset := 3, embedded := false, tag := "", pkgPath := "", byteOffset := 4 }], 7, 12, [.int .u8 0, .int .u8 0, .int .u8 0, .int .u16 0, .int .u16 0, .int .u16 0, .int .u16 0], true⟩
theorem ok_24 : TIok Try.prog 24 ti_24 := ⟨by kernel_rfl, ⟨Try.t24, by kernel_rfl, by kernel_rfl, by kernel_rfl, _, rfl, by kernel_rfl⟩, fun _ => ⟨by kernel_rfl, by kernel_rfl⟩⟩
def ti_25 : TI := ⟨.struct #[{ name := "Calm", type := 5, offset := 0, embedded := false, tag := "", pkgPath := "", byteOffset := 0 }, { name := "Seen", type := 5, offset := 1, embedded := false, tag := "", pkgPath := "", byteOffset := 1 }, { name := "Lost", type := 5, offset := 2, embedded := false, tag := "", pkgPath := "", byteOffset := 2 }, { name := "Timeout", type := 23, offset := 3, embedded := false, tag := "", pkgPath := "", byteOffset := 4 }], 7, 12, [.int .u8 0, .int .u8 0, .int .u8 0, .int .u16 0, .int .u16 0, .int .u16 0, .int .u16 0], true⟩
theorem ok_25 : TIok Try.prog 25 ti_25 := ⟨by kernel_rfl, ⟨Try.t25, by kernel_rfl, by kernel_rfl, by kernel_rfl, _, rfl, by kernel_rfl⟩, fun _ => ⟨by kernel_rfl, by kernel_rfl⟩⟩
def ti_26 : TI := ⟨.slice 32, 1, 24, [.slice none 0 0], false⟩
theorem ok_26 : TIok Try.prog 26 ti_26 := ⟨by kernel_rfl, ⟨Try.t26, by kernel_rfl, by kernel_rfl, by kernel_rfl, _, rfl, by kernel_rfl⟩, fun h => by cases h⟩
def ti_27 : TI := ⟨.func #[] #[4] false, 1, 8, [.nilFunc], false⟩
theorem ok_27 : TIok Try.prog 27 ti_27 := ⟨by kernel_rfl, ⟨Try.t27, by kernel_rfl, by kernel_rfl, by kernel_rfl, _, rfl, by kernel_rfl⟩, fun h => by cases h⟩
def ti_28 : TI := ⟨.struct #[{ name := "Mode", type := 5, offset := 0, embedded := false, tag := "", pkgPath := "", byteOffset := 0 }, { name := "Since", type := 22, offset := 1, embedded := false, tag := "", pkgPath := "", byteOffset := 2 }, { name := "Calm", type := 5, offset := 2, embedded := false, tag := "", pkgPath := "", byteOffset := 4 }, { name := "Seen", type := 5, offset := 3, embedded := false, tag := "", pkgPath := "", byteOffset := 5 }, { name := "Dark", type := 5, offset := 4, embedded := false, tag := "", pkgPath := "", byteOffset := 6 }], 5, 8, [.int .u8 0, .int .u16 0, .int .u8 0, .int .u8 0, .int .u8 0], true⟩
theorem ok_28 : TIok Try.prog 28 ti_28 := ⟨by kernel_rfl, ⟨Try.t28, by kernel_rfl, by kernel_rfl, by kernel_rfl, _, rfl, by kernel_rfl⟩, fun _ => ⟨by kernel_rfl, by kernel_rfl⟩⟩
def ti_29 : TI := ⟨.struct #[{ name := "Mode", type := 5, offset := 0, embedded := false, tag := "", pkgPath := "", byteOffset := 0 }, { name := "Since", type := 22, offset := 1, embedded := false, tag := "", pkgPath := "", byteOffset := 2 }, { name := "Calm", type := 5, offset := 2, embedded := false, tag := "", pkgPath := "", byteOffset := 4 }, { name := "Seen", type := 5, offset := 3, embedded := false, tag := "", pkgPath := "", byteOffset := 5 }, { name := "Dark", type := 5, offset := 4, embedded := false, tag := "", pkgPath := "", byteOffset := 6 }], 5, 8, [.int .u8 0, .int .u16 0, .int .u8 0, .int .u8 0, .int .u8 0], true⟩
theorem ok_29 : TIok Try.prog 29 ti_29 := ⟨by kernel_rfl, ⟨Try.t29, by kernel_rfl, by kernel_rfl, by kernel_rfl, _, rfl, by kernel_rfl⟩, fun _ => ⟨by kernel_rfl, by kernel_rfl⟩⟩
def ti_30 : TI := ⟨.struct #[{ name := "Mode", type := 5, offset := 0, embedded := false, tag := "", pkgPath := "", byteOffset := 0 }, { name := "Since", type := 22, offset := 1, embedded := false, tag := "", pkgPath := "", byteOffset := 2 }, { name := "Calm", type := 5, offset := 2, embedded := false, tag := "", pkgPath := "", byteOffset := 4 }, { name := "Seen", type := 5, offset := 3, embedded := false, tag := "", pkgPath := "", byteOffset := 5 }, { name := "Dark", type := 5, offset := 4, embedded := false, tag := "", pkgPath := "", byteOffset := 6 }], 5, 8, [.int .u8 0, .int .u16 0, .int .u8 0, .int .u8 0, .int .u8 0], true⟩
theorem ok_30 : TIok Try.prog 30 ti_30 := ⟨by kernel_rfl, ⟨Try.t30, by kernel_rfl, by kernel_rfl, by kernel_rfl, _, rfl, by kernel_rfl⟩, fun _ => ⟨by kernel_rfl, by kernel_rfl⟩⟩
def ti_31 : TI := ⟨.struct #[{ name := "Ask", type := 5, offset := 0, embedded := false, tag := "", pkgPath := "", byteOffset := 0 }, { name := "Calm", type := 4, offset := 1, embedded := false, tag := "", pkgPath := "", byteOffset := 1 }, { name := "Seen", type := 4, offset := 2, embedded := false, tag := "", pkgPath := "", byteOffset := 2 }, { name := "Safe", type := 4, offset := 3, embedded := false, tag := "", pkgPath := "", byteOffset := 3 }], 4, 4, [.int .u8 0, .bool false, .bool false, .bool false], true⟩
theorem ok_31 : TIok Try.prog 31 ti_31 := ⟨by kernel_rfl, ⟨Try.t31, by kernel_rfl, by kernel_rfl, by kernel_rfl, _, rfl, by kernel_rfl⟩, fun _ => ⟨by kernel_rfl, by kernel_rfl⟩⟩
def ti_32 : TI := ⟨.struct #[{ name := "Ask", type := 5, offset := 0, embedded := false, tag := "", pkgPath := "", byteOffset := 0 }, { name := "Calm", type := 4, offset := 1, embedded := false, tag := "", pkgPath := "", byteOffset := 1 }, { name := "Seen", type := 4, offset := 2, embedded := false, tag := "", pkgPath := "", byteOffset := 2 }, { name := "Safe", type := 4, offset := 3, embedded := false, tag := "", pkgPath := "", byteOffset := 3 }], 4, 4, [.int .u8 0, .bool false, .bool false, .bool false], true⟩
theorem ok_32 : TIok Try.prog 32 ti_32 := ⟨by kernel_rfl, ⟨Try.t32, by kernel_rfl, by kernel_rfl, by kernel_rfl, _, rfl, by kernel_rfl⟩, fun _ => ⟨by kernel_rfl, by kernel_rfl⟩⟩
def ti_33 : TI := ⟨.int .i64, 1, 8, [.int .i64 0], false⟩
theorem ok_33 : TIok Try.prog 33 ti_33 := ⟨by kernel_rfl, ⟨Try.t33, by kernel_rfl, by kernel_rfl, by kernel_rfl, _, rfl, by kernel_rfl⟩, fun h => by cases h⟩
def ti_35 : TI := ⟨.func #[25, 5] #[29, 33] false, 1, 8, [.nilFunc], false⟩
theorem ok_35 : TIok Try.prog 35 ti_35 := ⟨by kernel_rfl, ⟨Try.t35, by kernel_rfl, by kernel_rfl, by kernel_rfl, _, rfl, by kernel_rfl⟩, fun h => by cases h⟩
def ti_37 : TI := ⟨.func #[30, 38, 5] #[30, 3] false, 1, 8, [.nilFunc], false⟩
theorem ok_37 : TIok Try.prog 37 ti_37 := ⟨by kernel_rfl, ⟨Try.t37, by kernel_rfl, by kernel_rfl, by kernel_rfl, _, rfl, by kernel_rfl⟩, fun h => by cases h⟩
def ti_38 : TI := ⟨.struct #[{ name := "Calm", type := 5, offset := 0, embedded := false, tag := "", pkgPath := "", byteOffset := 0 }, { name := "Seen", type := 5, offset := 1, embedded := false, tag := "", pkgPath := "", byteOffset := 1 }, { name := "Lost", type := 5, offset := 2, embedded := false, tag := "", pkgPath := "", byteOffset := 2 }, { name := "Timeout", type := 23, offset := 3, embedded := false, tag := "", pkgPath := "", byteOffset := 4 }], 7, 12, [.int .u8 0, .int .u8 0, .int .u8 0, .int .u16 0, .int .u16 0, .int .u16 0, .int .u16 0], true⟩
theorem ok_38 : TIok Try.prog 38 ti_38 := ⟨by kernel_rfl, ⟨Try.t38, by kernel_rfl, by kernel_rfl, by kernel_rfl, _, rfl, by kernel_rfl⟩, fun _ => ⟨by kernel_rfl, by kernel_rfl⟩⟩
def ti_40 : TI := ⟨.func #[25, 4, 4, 4] #[29, 5] false, 1, 8, [.nilFunc], false⟩
theorem ok_40 : TIok Try.prog 40 ti_40 := ⟨by kernel_rfl, ⟨Try.t40, by kernel_rfl, by kernel_rfl, by kernel_rfl, _, rfl, by kernel_rfl⟩, fun h => by cases h⟩
def ti_41 : TI := ⟨.func #[30, 38, 4, 4, 4] #[30, 3] false, 1, 8, [.nilFunc], false⟩
theorem ok_41 : TIok Try.prog 41 ti_41 := ⟨by kernel_rfl, ⟨Try.t41, by kernel_rfl, by kernel_rfl, by kernel_rfl, _, rfl, by kernel_rfl⟩, fun h => by cases h⟩
def ti_42 : TI := ⟨.func #[25, 26] #[4] false, 1, 8, [.nilFunc], false⟩
theorem ok_42 : TIok Try.prog 42 ti_42 := ⟨by kernel_rfl, ⟨Try.t42, by kernel_rfl, by kernel_rfl, by kernel_rfl, _, rfl, by kernel_rfl⟩, fun h => by cases h⟩
def ti_43 : TI := ⟨.slice 4, 1, 24, [.slice none 0 0], false⟩
theorem ok_43 : TIok Try.prog 43 ti_43 := ⟨by kernel_rfl, ⟨Try.t43, by kernel_rfl, by kernel_rfl, by kernel_rfl, _, rfl, by kernel_rfl⟩, fun h => by cases h⟩
def ti_44 : TI := ⟨.func #[25, 43, 43] #[4] false, 1, 8, [.nilFunc], false⟩
theorem ok_44 : TIok Try.prog 44 ti_44 := ⟨by kernel_rfl, ⟨Try.t44, by kernel_rfl, by kernel_rfl, by kernel_rfl, _, rfl, by kernel_rfl⟩, fun h => by cases h⟩
def ti_45 : TI := ⟨.func #[29, 25] #[4] false, 1, 8, [.nilFunc], false⟩
theorem ok_45 : TIok Try.prog 45 ti_45 := ⟨by kernel_rfl, ⟨Try.t45, by kernel_rfl, by kernel_rfl, by kernel_rfl, _, rfl, by kernel_rfl⟩, fun h => by cases h⟩
def ti_46 : TI := ⟨.func #[] #[29] false, 1, 8, [.nilFunc], false⟩
theorem ok_46 : TIok Try.prog 46 ti_46 := ⟨by kernel_rfl, ⟨Try.t46, by kernel_rfl, by kernel_rfl, by kernel_rfl, _, rfl, by kernel_rfl⟩, fun h => by cases h⟩
def ti_47 : TI := ⟨.slice 9, 1, 24, [.slice none 0 0], false⟩
theorem ok_47 : TIok Try.prog 47 ti_47 := ⟨by kernel_rfl, ⟨Try.t47, by kernel_rfl, by kernel_rfl, by kernel_rfl, _, rfl, by kernel_rfl⟩, fun h => by cases h⟩
def ti_48 : TI := ⟨.func #[4, 4] #[29] false, 1, 8, [.nilFunc], false⟩
theorem ok_48 : TIok Try.prog 48 ti_48 := ⟨by kernel_rfl, ⟨Try.t48, by kernel_rfl, by kernel_rfl, by kernel_rfl, _, rfl, by kernel_rfl⟩, fun h => by cases h⟩
def ti_49 : TI := ⟨.func #[5, 5] #[4] false, 1, 8, [.nilFunc], false⟩
theorem ok_49 : TIok Try.prog 49 ti_49 := ⟨by kernel_rfl, ⟨Try.t49, by kernel_rfl, by kernel_rfl, by kernel_rfl, _, rfl, by kernel_rfl⟩, fun h => by cases h⟩
def ti_50 : TI := ⟨.func #[25] #[4] false, 1, 8, [.nilFunc], false⟩
theorem ok_50 : TIok Try.prog 50 ti_50 := ⟨by kernel_rfl, ⟨Try.t50, by kernel_rfl, by kernel_rfl, by kernel_rfl, _, rfl, by kernel_rfl⟩, fun h => by cases h⟩
def ti_51 : TI := ⟨.func #[3, 3] #[3] false, 1, 8, [.nilFunc], false⟩
theorem ok_51 : TIok Try.prog 51 ti_51 := ⟨by kernel_rfl, ⟨Try.t51, by kernel_rfl, by kernel_rfl, by kernel_rfl, _, rfl, by kernel_rfl⟩, fun h => by cases h⟩
def ti_52 : TI := ⟨.func #[5, 4] #[5] false, 1, 8, [.nilFunc], false⟩
theorem ok_52 : TIok Try.prog 52 ti_52 := ⟨by kernel_rfl, ⟨Try.t52, by kernel_rfl, by kernel_rfl, by kernel_rfl, _, rfl, by kernel_rfl⟩, fun h => by cases h⟩
def ti_53 : TI := ⟨.func #[] #[9] false, 1, 8, [.nilFunc], false⟩
theorem ok_53 : TIok Try.prog 53 ti_53 := ⟨by kernel_rfl, ⟨Try.t53, by kernel_rfl, by kernel_rfl, by kernel_rfl, _, rfl, by kernel_rfl⟩, fun h => by cases h⟩
def ti_54 : TI := ⟨.struct #[{ name := "_interface", type := 17, offset := 0, embedded := false, tag := "", pkgPath := "runtime", byteOffset := 0 }, { name := "concrete", type := 17, offset := 1, embedded := false, tag := "", pkgPath := "runtime", byteOffset := 8 }, { name := "asserted", type := 17, offset := 2, embedded := false, tag := "", pkgPath := "runtime", byteOffset := 16 }, { name := "missingMethod", type := 9, offset := 3, embedded := false, tag := "", pkgPath := "runtime", byteOffset := 24 }], 4, 40, [.pointer none, .pointer none, .pointer none, .string { data := { toList := [] } }], false⟩
theorem ok_54 : TIok Try.prog 54 ti_54 := ⟨by kernel_rfl, ⟨Try.t54, by kernel_rfl, by kernel_rfl, by kernel_rfl, _, rfl, by kernel_rfl⟩, fun h => by cases h⟩
def ti_55 : TI := ⟨.struct #[{ name := "_interface", type := 17, offset := 0, embedded := false, tag := "", pkgPath := "runtime", byteOffset := 0 }, { name := "concrete", type := 17, offset := 1, embedded := false, tag := "", pkgPath := "runtime", byteOffset := 8 }, { name := "asserted", type := 17, offset := 2, embedded := false, tag := "", pkgPath := "runtime", byteOffset := 16 }, { name := "missingMethod", type := 9, offset := 3, embedded := false, tag := "", pkgPath := "runtime", byteOffset := 24 }], 4, 40, [.pointer none, .pointer none, .pointer none, .string { data := { toList := [] } }], false⟩
theorem ok_55 : TIok Try.prog 55 ti_55 := ⟨by kernel_rfl, ⟨Try.t55, by kernel_rfl, by kernel_rfl, by kernel_rfl, _, rfl, by kernel_rfl⟩, fun h => by cases h⟩
def ti_56 : TI := ⟨.array 0 16, 0, 0, [], true⟩
theorem ok_56 : TIok Try.prog 56 ti_56 := ⟨by kernel_rfl, ⟨Try.t56, by kernel_rfl, by kernel_rfl, by kernel_rfl, _, rfl, by kernel_rfl⟩, fun _ => ⟨by kernel_rfl, by kernel_rfl⟩⟩
def ti_57 : TI := ⟨.struct #[{ name := "_", type := 56, offset := 0, embedded := false, tag := "", pkgPath := "runtime", byteOffset := 0 }], 0, 0, [], false⟩
theorem ok_57 : TIok Try.prog 57 ti_57 := ⟨by kernel_rfl, ⟨Try.t57, by kernel_rfl, by kernel_rfl, by kernel_rfl, _, rfl, by kernel_rfl⟩, fun h => by cases h⟩
def ti_58 : TI := ⟨.struct #[{ name := "_", type := 56, offset := 0, embedded := false, tag := "", pkgPath := "runtime", byteOffset := 0 }], 0, 0, [], false⟩
theorem ok_58 : TIok Try.prog 58 ti_58 := ⟨by kernel_rfl, ⟨Try.t58, by kernel_rfl, by kernel_rfl, by kernel_rfl, _, rfl, by kernel_rfl⟩, fun h => by cases h⟩
def ti_59 : TI := ⟨.func #[] #[3] false, 1, 8, [.nilFunc], false⟩
theorem ok_59 : TIok Try.prog 59 ti_59 := ⟨by kernel_rfl, ⟨Try.t59, by kernel_rfl, by kernel_rfl, by kernel_rfl, _, rfl, by kernel_rfl⟩, fun h => by cases h⟩
def ti_60 : TI := ⟨.int .u32, 1, 4, [.int .u32 0], false⟩
theorem ok_60 : TIok Try.prog 60 ti_60 := ⟨by kernel_rfl, ⟨Try.t60, by kernel_rfl, by kernel_rfl, by kernel_rfl, _, rfl, by kernel_rfl⟩, fun h => by cases h⟩
def ti_61 : TI := ⟨.int .u8, 1, 1, [.int .u8 0], false⟩
theorem ok_61 : TIok Try.prog 61 ti_61 := ⟨by kernel_rfl, ⟨Try.t61, by kernel_rfl, by kernel_rfl, by kernel_rfl, _, rfl, by kernel_rfl⟩, fun h => by cases h⟩
def ti_62 : TI := ⟨.int .u8, 1, 1, [.int .u8 0], false⟩
theorem ok_62 : TIok Try.prog 62 ti_62 := ⟨by kernel_rfl, ⟨Try.t62, by kernel_rfl, by kernel_rfl, by kernel_rfl, _, rfl, by kernel_rfl⟩, fun h => by cases h⟩
def ti_63 : TI := ⟨.func #[69, 69] #[4] false, 1, 8, [.nilFunc], false⟩
theorem ok_63 : TIok Try.prog 63 ti_63 := ⟨by kernel_rfl, ⟨Try.t63, by kernel_rfl, by kernel_rfl, by kernel_rfl, _, rfl, by kernel_rfl⟩, fun h => by cases h⟩
def ti_64 : TI := ⟨.pointer 5, 1, 8, [.pointer none], false⟩
theorem ok_64 : TIok Try.prog 64 ti_64 := ⟨by kernel_rfl, ⟨Try.t64, by kernel_rfl, by kernel_rfl, by kernel_rfl, _, rfl, by kernel_rfl⟩, fun h => by cases h⟩
def ti_65 : TI := ⟨.int .i32, 1, 4, [.int .i32 0], false⟩
theorem ok_65 : TIok Try.prog 65 ti_65 := ⟨by kernel_rfl, ⟨Try.t65, by kernel_rfl, by kernel_rfl, by kernel_rfl, _, rfl, by kernel_rfl⟩, fun h => by cases h⟩
def ti_66 : TI := ⟨.int .i32, 1, 4, [.int .i32 0], false⟩
theorem ok_66 : TIok Try.prog 66 ti_66 := ⟨by kernel_rfl, ⟨Try.t66, by kernel_rfl, by kernel_rfl, by kernel_rfl, _, rfl, by kernel_rfl⟩, fun h => by cases h⟩
def ti_67 : TI := ⟨.struct #[{ name := "Size_", type := 12, offset := 0, embedded := false, tag := "", pkgPath := "", byteOffset := 0 }, { name := "PtrBytes", type := 12, offset := 1, embedded := false, tag := "", pkgPath := "", byteOffset := 8 }, { name := "Hash", type := 60, offset := 2, embedded := false, tag := "", pkgPath := "", byteOffset := 16 }, { name := "TFlag", type := 61, offset := 3, embedded := false, tag := "", pkgPath := "", byteOffset := 20 }, { name := "Align_", type := 5, offset := 4, embedded := false, tag := "", pkgPath := "", byteOffset := 21 }, { name := "FieldAlign_", type := 5, offset := 5, embedded := false, tag := "", pkgPath := "", byteOffset := 22 }, { name := "Kind_", type := 62, offset := 6, embedded := false, tag := "", pkgPath := "", byteOffset := 23 }, { name := "Equal", type := 63, offset := 7, embedded := false, tag := "", pkgPath := "", byteOffset := 24 }, { name := "GCData", type := 64, offset := 8, embedded := false, tag := "", pkgPath := "", byteOffset := 32 }, { name := "Str", type := 65, offset := 9, embedded := false, tag := "", pkgPath := "", byteOffset := 40 }, { name := "PtrToThis", type := 66, offset := 10, embedded := false, tag := "", pkgPath := "", byteOffset := 44 }], 11, 48, [.int .u64 0, .int .u64 0, .int .u32 0, .int .u8 0, .int .u8 0, .int .u8 0, .int .u8 0, .nilFunc, .pointer none, .int .i32 0, .int .i32 0], false⟩
theorem ok_67 : TIok Try.prog 67 ti_67 := ⟨by kernel_rfl, ⟨Try.t67, by kernel_rfl, by kernel_rfl, by kernel_rfl, _, rfl, by kernel_rfl⟩, fun h => by cases h⟩
def ti_68 : TI := ⟨.struct #[{ name := "Size_", type := 12, offset := 0, embedded := false, tag := "", pkgPath := "", byteOffset := 0 }, { name := "PtrBytes", type := 12, offset := 1, embedded := false, tag := "", pkgPath := "", byteOffset := 8 }, { name := "Hash", type := 60, offset := 2, embedded := false, tag := "", pkgPath := "", byteOffset := 16 }, { name := "TFlag", type := 61, offset := 3, embedded := false, tag := "", pkgPath := "", byteOffset := 20 }, { name := "Align_", type := 5, offset := 4, embedded := false, tag := "", pkgPath := "", byteOffset := 21 }, { name := "FieldAlign_", type := 5, offset := 5, embedded := false, tag := "", pkgPath := "", byteOffset := 22 }, { name := "Kind_", type := 62, offset := 6, embedded := false, tag := "", pkgPath := "", byteOffset := 23 }, { name := "Equal", type := 63, offset := 7, embedded := false, tag := "", pkgPath := "", byteOffset := 24 }, { name := "GCData", type := 64, offset := 8, embedded := false, tag := "", pkgPath := "", byteOffset := 32 }, { name := "Str", type := 65, offset := 9, embedded := false, tag := "", pkgPath := "", byteOffset := 40 }, { name := "PtrToThis", type := 66, offset := 10, embedded := false, tag := "", pkgPath := "", byteOffset := 44 }], 11, 48, [.int .u64 0, .int .u64 0, .int .u32 0, .int .u8 0, .int .u8 0, .int .u8 0, .int .u8 0, .nilFunc, .pointer none, .int .i32 0, .int .i32 0], false⟩
theorem ok_68 : TIok Try.prog 68 ti_68 := ⟨by kernel_rfl, ⟨Try.t68, by kernel_rfl, by kernel_rfl, by kernel_rfl, _, rfl, by kernel_rfl⟩, fun h => by cases h⟩
def tc : List (Nat × TI) := [(1, ti_1), (2, ti_2), (3, ti_3), (4, ti_4), (5, ti_5), (6, ti_6), (7, ti_7), (8, ti_8), (9, ti_9), (10, ti_10), (11, ti_11), (12, ti_12), (13, ti_13), (14, ti_14), (15, ti_15), (16, ti_16), (17, ti_17), (18, ti_18), (19, ti_19), (21, ti_21), (22, ti_22), (23, ti_23), (24, ti_24), (25, ti_25), (26, ti_26), (27, ti_27), (28, ti_28), (29, ti_29), (30, ti_30), (31, ti_31), (32, ti_32), (33, ti_33), (35, ti_35), (37, ti_37), (38, ti_38), (40, ti_40), (41, ti_41), (42, ti_42), (43, ti_43), (44, ti_44), (45, ti_45), (46, ti_46), (47, ti_47), (48, ti_48), (49, ti_49), (50, ti_50), (51, ti_51), (52, ti_52), (53, ti_53), (54, ti_54), (55, ti_55), (56, ti_56), (57, ti_57), (58, ti_58), (59, ti_59), (60, ti_60), (61, ti_61), (62, ti_62), (63, ti_63), (64, ti_64), (65, ti_65), (66, ti_66), (67, ti_67), (68, ti_68)]
theorem tcok : TCok Try.prog tc := ⟨ok_1, ⟨ok_2, ⟨ok_3, ⟨ok_4, ⟨ok_5, ⟨ok_6, ⟨ok_7, ⟨ok_8, ⟨ok_9, ⟨ok_10, ⟨ok_11, ⟨ok_12, ⟨ok_13, ⟨ok_14, ⟨ok_15, ⟨ok_16, ⟨ok_17, ⟨ok_18, ⟨ok_19, ⟨ok_21, ⟨ok_22, ⟨ok_23, ⟨ok_24, ⟨ok_25, ⟨ok_26, ⟨ok_27, ⟨ok_28, ⟨ok_29, ⟨ok_30, ⟨ok_31, ⟨ok_32, ⟨ok_33, ⟨ok_35, ⟨ok_37, ⟨ok_38, ⟨ok_40, ⟨ok_41, ⟨ok_42, ⟨ok_43, ⟨ok_44, ⟨ok_45, ⟨ok_46, ⟨ok_47, ⟨ok_48, ⟨ok_49, ⟨ok_50, ⟨ok_51, ⟨ok_52, ⟨ok_53, ⟨ok_54, ⟨ok_55, ⟨ok_56, ⟨ok_57, ⟨ok_58, ⟨ok_59, ⟨ok_60, ⟨ok_61, ⟨ok_62, ⟨ok_63, ⟨ok_64, ⟨ok_65, ⟨ok_66, ⟨ok_67, ⟨ok_68, trivial⟩⟩⟩⟩⟩⟩⟩⟩⟩⟩⟩⟩⟩⟩⟩⟩⟩⟩⟩⟩⟩⟩⟩⟩⟩⟩⟩⟩⟩⟩⟩⟩⟩⟩⟩⟩⟩⟩⟩⟩⟩⟩⟩⟩⟩⟩⟩⟩⟩⟩⟩⟩⟩⟩⟩⟩⟩⟩⟩⟩⟩⟩⟩⟩
theorem hmix : Try.prog.follows .mixedOrders = true := by kernel_rfl
end Go.Proofs.Ytklbonfbiakebaa
