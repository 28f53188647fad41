/- The tables of this seat: what each type of the program is, proved one by one. No conditions. -/
import Derived.Test.YtlpmhafjekiojaaE5
import Derived.Test.YtlpmhafjekiojaaProg
open Go Eng Go.Proofs
set_option maxRecDepth 100000
namespace Tab
noncomputable def t1 : TI := ⟨Go.TypeDesc.func #[] #[] false, 1, false, [.nilf], 8, true⟩
theorem ty1 : TyR Try.prog 1 t1 := TyR.of (by kernel_rfl) (by kernel_rfl) (by kernel_rfl) (by kernel_rfl) (by kernel_rfl) (by kernel_rfl) (fun _ => by kernel_rfl)
noncomputable def t2 : TI := ⟨Go.TypeDesc.int (Go.IntKind.i64), 1, false, [.int .i64 0], 8, true⟩
theorem ty2 : TyR Try.prog 2 t2 := TyR.of (by kernel_rfl) (by kernel_rfl) (by kernel_rfl) (by kernel_rfl) (by kernel_rfl) (by kernel_rfl) (fun _ => by kernel_rfl)
noncomputable def t3 : TI := ⟨Go.TypeDesc.int (Go.IntKind.i64), 1, false, [.int .i64 0], 8, true⟩
theorem ty3 : TyR Try.prog 3 t3 := TyR.of (by kernel_rfl) (by kernel_rfl) (by kernel_rfl) (by kernel_rfl) (by kernel_rfl) (by kernel_rfl) (fun _ => by kernel_rfl)
noncomputable def t4 : TI := ⟨Go.TypeDesc.bool, 1, false, [.bool false], 1, true⟩
theorem ty4 : TyR Try.prog 4 t4 := TyR.of (by kernel_rfl) (by kernel_rfl) (by kernel_rfl) (by kernel_rfl) (by kernel_rfl) (by kernel_rfl) (fun _ => by kernel_rfl)
noncomputable def t5 : TI := ⟨Go.TypeDesc.int (Go.IntKind.u8), 1, false, [.int .u8 0], 1, true⟩
theorem ty5 : TyR Try.prog 5 t5 := TyR.of (by kernel_rfl) (by kernel_rfl) (by kernel_rfl) (by kernel_rfl) (by kernel_rfl) (by kernel_rfl) (fun _ => by kernel_rfl)
noncomputable def t6 : TI := ⟨Go.TypeDesc.int (Go.IntKind.u8), 1, false, [.int .u8 0], 1, true⟩
theorem ty6 : TyR Try.prog 6 t6 := TyR.of (by kernel_rfl) (by kernel_rfl) (by kernel_rfl) (by kernel_rfl) (by kernel_rfl) (by kernel_rfl) (fun _ => by kernel_rfl)
noncomputable def t7 : TI := ⟨Go.TypeDesc.struct #[{ name := "x", type := 2, offset := 0, embedded := false, tag := "", pkgPath := "runtime", byteOffset := 0 }, { name := "y", type := 3, offset := 1, embedded := false, tag := "", pkgPath := "runtime", byteOffset := 8 }, { name := "signed", type := 4, offset := 2, embedded := false, tag := "", pkgPath := "runtime", byteOffset := 16 }, { name := "code", type := 6, offset := 3, embedded := false, tag := "", pkgPath := "runtime", byteOffset := 17 }], 4, true, [.int .i64 0, .int .i64 0, .bool false, .int .u8 0], 24, true⟩
theorem ty7 : TyR Try.prog 7 t7 := TyR.of (by kernel_rfl) (by kernel_rfl) (by kernel_rfl) (by kernel_rfl) (by kernel_rfl) (by kernel_rfl) (fun _ => by kernel_rfl)
noncomputable def t8 : TI := ⟨Go.TypeDesc.struct #[{ name := "x", type := 2, offset := 0, embedded := false, tag := "", pkgPath := "runtime", byteOffset := 0 }, { name := "y", type := 3, offset := 1, embedded := false, tag := "", pkgPath := "runtime", byteOffset := 8 }, { name := "signed", type := 4, offset := 2, embedded := false, tag := "", pkgPath := "runtime", byteOffset := 16 }, { name := "code", type := 6, offset := 3, embedded := false, tag := "", pkgPath := "runtime", byteOffset := 17 }], 4, true, [.int .i64 0, .int .i64 0, .bool false, .int .u8 0], 24, true⟩
theorem ty8 : TyR Try.prog 8 t8 := TyR.of (by kernel_rfl) (by kernel_rfl) (by kernel_rfl) (by kernel_rfl) (by kernel_rfl) (by kernel_rfl) (fun _ => by kernel_rfl)
noncomputable def t9 : TI := ⟨Go.TypeDesc.string, 1, false, [.str ByteArray.empty], 16, true⟩
theorem ty9 : TyR Try.prog 9 t9 := TyR.of (by kernel_rfl) (by kernel_rfl) (by kernel_rfl) (by kernel_rfl) (by kernel_rfl) (by kernel_rfl) (fun _ => by kernel_rfl)
noncomputable def t10 : TI := ⟨Go.TypeDesc.string, 1, false, [.str ByteArray.empty], 16, true⟩
theorem ty10 : TyR Try.prog 10 t10 := TyR.of (by kernel_rfl) (by kernel_rfl) (by kernel_rfl) (by kernel_rfl) (by kernel_rfl) (by kernel_rfl) (fun _ => by kernel_rfl)
noncomputable def t11 : TI := ⟨Go.TypeDesc.string, 1, false, [.str ByteArray.empty], 16, true⟩
theorem ty11 : TyR Try.prog 11 t11 := TyR.of (by kernel_rfl) (by kernel_rfl) (by kernel_rfl) (by kernel_rfl) (by kernel_rfl) (by kernel_rfl) (fun _ => by kernel_rfl)
noncomputable def t12 : TI := ⟨Go.TypeDesc.int (Go.IntKind.u64), 1, false, [.int .u64 0], 8, true⟩
theorem ty12 : TyR Try.prog 12 t12 := TyR.of (by kernel_rfl) (by kernel_rfl) (by kernel_rfl) (by kernel_rfl) (by kernel_rfl) (by kernel_rfl) (fun _ => by kernel_rfl)
noncomputable def t13 : TI := ⟨Go.TypeDesc.struct #[{ name := "msg", type := 9, offset := 0, embedded := false, tag := "", pkgPath := "runtime", byteOffset := 0 }, { name := "addr", type := 12, offset := 1, embedded := false, tag := "", pkgPath := "runtime", byteOffset := 16 }], 2, true, [.str ByteArray.empty, .int .u64 0], 24, false⟩
theorem ty13 : TyR Try.prog 13 t13 := TyR.of (by kernel_rfl) (by kernel_rfl) (by kernel_rfl) (by kernel_rfl) (by kernel_rfl) (by kernel_rfl) (fun h => nomatch h)
noncomputable def t14 : TI := ⟨Go.TypeDesc.struct #[{ name := "msg", type := 9, offset := 0, embedded := false, tag := "", pkgPath := "runtime", byteOffset := 0 }, { name := "addr", type := 12, offset := 1, embedded := false, tag := "", pkgPath := "runtime", byteOffset := 16 }], 2, true, [.str ByteArray.empty, .int .u64 0], 24, false⟩
theorem ty14 : TyR Try.prog 14 t14 := TyR.of (by kernel_rfl) (by kernel_rfl) (by kernel_rfl) (by kernel_rfl) (by kernel_rfl) (by kernel_rfl) (fun h => nomatch h)
noncomputable def t15 : TI := ⟨Go.TypeDesc.pointer 43, 1, false, [.nilp], 8, true⟩
theorem ty15 : TyR Try.prog 15 t15 := TyR.of (by kernel_rfl) (by kernel_rfl) (by kernel_rfl) (by kernel_rfl) (by kernel_rfl) (by kernel_rfl) (fun _ => by kernel_rfl)
noncomputable def t16 : TI := ⟨Go.TypeDesc.pointer 46, 1, false, [.nilp], 8, true⟩
theorem ty16 : TyR Try.prog 16 t16 := TyR.of (by kernel_rfl) (by kernel_rfl) (by kernel_rfl) (by kernel_rfl) (by kernel_rfl) (by kernel_rfl) (fun _ => by kernel_rfl)
noncomputable def t17 : TI := ⟨Go.TypeDesc.pointer 56, 1, false, [.nilp], 8, true⟩
theorem ty17 : TyR Try.prog 17 t17 := TyR.of (by kernel_rfl) (by kernel_rfl) (by kernel_rfl) (by kernel_rfl) (by kernel_rfl) (by kernel_rfl) (fun _ => by kernel_rfl)
noncomputable def t18 : TI := ⟨Go.TypeDesc.struct #[{ name := "typ", type := 17, offset := 0, embedded := false, tag := "", pkgPath := "internal/runtime/maps", byteOffset := 0 }], 1, true, [.nilp], 8, false⟩
theorem ty18 : TyR Try.prog 18 t18 := TyR.of (by kernel_rfl) (by kernel_rfl) (by kernel_rfl) (by kernel_rfl) (by kernel_rfl) (by kernel_rfl) (fun h => nomatch h)
noncomputable def t19 : TI := ⟨Go.TypeDesc.struct #[{ name := "typ", type := 17, offset := 0, embedded := false, tag := "", pkgPath := "internal/runtime/maps", byteOffset := 0 }], 1, true, [.nilp], 8, false⟩
theorem ty19 : TyR Try.prog 19 t19 := TyR.of (by kernel_rfl) (by kernel_rfl) (by kernel_rfl) (by kernel_rfl) (by kernel_rfl) (by kernel_rfl) (fun h => nomatch h)
noncomputable def t21 : TI := ⟨Go.TypeDesc.int (Go.IntKind.i32), 1, false, [.int .i32 0], 4, true⟩
theorem ty21 : TyR Try.prog 21 t21 := TyR.of (by kernel_rfl) (by kernel_rfl) (by kernel_rfl) (by kernel_rfl) (by kernel_rfl) (by kernel_rfl) (fun _ => by kernel_rfl)
noncomputable def t22 : TI := ⟨Go.TypeDesc.slice 3, 1, false, [.nils], 24, true⟩
theorem ty22 : TyR Try.prog 22 t22 := TyR.of (by kernel_rfl) (by kernel_rfl) (by kernel_rfl) (by kernel_rfl) (by kernel_rfl) (by kernel_rfl) (fun _ => by kernel_rfl)
noncomputable def t23 : TI := ⟨Go.TypeDesc.int (Go.IntKind.i64), 1, false, [.int .i64 0], 8, true⟩
theorem ty23 : TyR Try.prog 23 t23 := TyR.of (by kernel_rfl) (by kernel_rfl) (by kernel_rfl) (by kernel_rfl) (by kernel_rfl) (by kernel_rfl) (fun _ => by kernel_rfl)
noncomputable def t25 : TI := ⟨Go.TypeDesc.func #[3, 3, 3, 3] #[22, 3, 23] false, 1, false, [.nilf], 8, true⟩
theorem ty25 : TyR Try.prog 25 t25 := TyR.of (by kernel_rfl) (by kernel_rfl) (by kernel_rfl) (by kernel_rfl) (by kernel_rfl) (by kernel_rfl) (fun _ => by kernel_rfl)
noncomputable def t27 : TI := ⟨Go.TypeDesc.func #[3, 3, 3, 3] #[22, 3, 3] false, 1, false, [.nilf], 8, true⟩
theorem ty27 : TyR Try.prog 27 t27 := TyR.of (by kernel_rfl) (by kernel_rfl) (by kernel_rfl) (by kernel_rfl) (by kernel_rfl) (by kernel_rfl) (fun _ => by kernel_rfl)
noncomputable def t28 : TI := ⟨Go.TypeDesc.func #[22, 22] #[4] false, 1, false, [.nilf], 8, true⟩
theorem ty28 : TyR Try.prog 28 t28 := TyR.of (by kernel_rfl) (by kernel_rfl) (by kernel_rfl) (by kernel_rfl) (by kernel_rfl) (by kernel_rfl) (fun _ => by kernel_rfl)
noncomputable def t29 : TI := ⟨Go.TypeDesc.func #[23] #[3] false, 1, false, [.nilf], 8, true⟩
theorem ty29 : TyR Try.prog 29 t29 := TyR.of (by kernel_rfl) (by kernel_rfl) (by kernel_rfl) (by kernel_rfl) (by kernel_rfl) (by kernel_rfl) (fun _ => by kernel_rfl)
noncomputable def t30 : TI := ⟨Go.TypeDesc.func #[22] #[] false, 1, false, [.nilf], 8, true⟩
theorem ty30 : TyR Try.prog 30 t30 := TyR.of (by kernel_rfl) (by kernel_rfl) (by kernel_rfl) (by kernel_rfl) (by kernel_rfl) (by kernel_rfl) (fun _ => by kernel_rfl)
noncomputable def t31 : TI := ⟨Go.TypeDesc.func #[] #[4] false, 1, false, [.nilf], 8, true⟩
theorem ty31 : TyR Try.prog 31 t31 := TyR.of (by kernel_rfl) (by kernel_rfl) (by kernel_rfl) (by kernel_rfl) (by kernel_rfl) (by kernel_rfl) (fun _ => by kernel_rfl)
noncomputable def t32 : TI := ⟨Go.TypeDesc.func #[3, 3, 3, 3] #[4] false, 1, false, [.nilf], 8, true⟩
theorem ty32 : TyR Try.prog 32 t32 := TyR.of (by kernel_rfl) (by kernel_rfl) (by kernel_rfl) (by kernel_rfl) (by kernel_rfl) (by kernel_rfl) (fun _ => by kernel_rfl)
noncomputable def t33 : TI := ⟨Go.TypeDesc.func #[3, 3] #[3] false, 1, false, [.nilf], 8, true⟩
theorem ty33 : TyR Try.prog 33 t33 := TyR.of (by kernel_rfl) (by kernel_rfl) (by kernel_rfl) (by kernel_rfl) (by kernel_rfl) (by kernel_rfl) (fun _ => by kernel_rfl)
noncomputable def t34 : TI := ⟨Go.TypeDesc.func #[40] #[] false, 1, false, [.nilf], 8, true⟩
theorem ty34 : TyR Try.prog 34 t34 := TyR.of (by kernel_rfl) (by kernel_rfl) (by kernel_rfl) (by kernel_rfl) (by kernel_rfl) (by kernel_rfl) (fun _ => by kernel_rfl)
noncomputable def t35 : TI := ⟨Go.TypeDesc.func #[40] #[] false, 1, false, [.nilf], 8, true⟩
theorem ty35 : TyR Try.prog 35 t35 := TyR.of (by kernel_rfl) (by kernel_rfl) (by kernel_rfl) (by kernel_rfl) (by kernel_rfl) (by kernel_rfl) (fun _ => by kernel_rfl)
noncomputable def t36 : TI := ⟨Go.TypeDesc.func #[3, 3, 3] #[35] false, 1, false, [.nilf], 8, true⟩
theorem ty36 : TyR Try.prog 36 t36 := TyR.of (by kernel_rfl) (by kernel_rfl) (by kernel_rfl) (by kernel_rfl) (by kernel_rfl) (by kernel_rfl) (fun _ => by kernel_rfl)
noncomputable def t37 : TI := ⟨Go.TypeDesc.func #[22] #[4] true, 1, false, [.nilf], 8, true⟩
theorem ty37 : TyR Try.prog 37 t37 := TyR.of (by kernel_rfl) (by kernel_rfl) (by kernel_rfl) (by kernel_rfl) (by kernel_rfl) (by kernel_rfl) (fun _ => by kernel_rfl)
noncomputable def t38 : TI := ⟨Go.TypeDesc.func #[3] #[4] false, 1, false, [.nilf], 8, true⟩
theorem ty38 : TyR Try.prog 38 t38 := TyR.of (by kernel_rfl) (by kernel_rfl) (by kernel_rfl) (by kernel_rfl) (by kernel_rfl) (by kernel_rfl) (fun _ => by kernel_rfl)
noncomputable def t39 : TI := ⟨Go.TypeDesc.int (Go.IntKind.u64), 1, false, [.int .u64 0], 8, true⟩
theorem ty39 : TyR Try.prog 39 t39 := TyR.of (by kernel_rfl) (by kernel_rfl) (by kernel_rfl) (by kernel_rfl) (by kernel_rfl) (by kernel_rfl) (fun _ => by kernel_rfl)
noncomputable def t40 : TI := ⟨Go.TypeDesc.func #[3, 3] #[4] false, 1, false, [.nilf], 8, true⟩
theorem ty40 : TyR Try.prog 40 t40 := TyR.of (by kernel_rfl) (by kernel_rfl) (by kernel_rfl) (by kernel_rfl) (by kernel_rfl) (by kernel_rfl) (fun _ => by kernel_rfl)
noncomputable def t41 : TI := ⟨Go.TypeDesc.func #[] #[9] false, 1, false, [.nilf], 8, true⟩
theorem ty41 : TyR Try.prog 41 t41 := TyR.of (by kernel_rfl) (by kernel_rfl) (by kernel_rfl) (by kernel_rfl) (by kernel_rfl) (by kernel_rfl) (fun _ => by kernel_rfl)
noncomputable def t42 : TI := ⟨Go.TypeDesc.struct #[{ name := "_interface", type := 17, offset := 0, embedded := false, tag := "", pkgPath := "runtime", byteOffset := 0 }, { name := "concrete", type := 17, offset := 1, embedded := false, tag := "", pkgPath := "runtime", byteOffset := 8 }, { name := "asserted", type := 17, offset := 2, embedded := false, tag := "", pkgPath := "runtime", byteOffset := 16 }, { name := "missingMethod", type := 9, offset := 3, embedded := false, tag := "", pkgPath := "runtime", byteOffset := 24 }], 4, true, [.nilp, .nilp, .nilp, .str ByteArray.empty], 40, false⟩
theorem ty42 : TyR Try.prog 42 t42 := TyR.of (by kernel_rfl) (by kernel_rfl) (by kernel_rfl) (by kernel_rfl) (by kernel_rfl) (by kernel_rfl) (fun h => nomatch h)
noncomputable def t43 : TI := ⟨Go.TypeDesc.struct #[{ name := "_interface", type := 17, offset := 0, embedded := false, tag := "", pkgPath := "runtime", byteOffset := 0 }, { name := "concrete", type := 17, offset := 1, embedded := false, tag := "", pkgPath := "runtime", byteOffset := 8 }, { name := "asserted", type := 17, offset := 2, embedded := false, tag := "", pkgPath := "runtime", byteOffset := 16 }, { name := "missingMethod", type := 9, offset := 3, embedded := false, tag := "", pkgPath := "runtime", byteOffset := 24 }], 4, true, [.nilp, .nilp, .nilp, .str ByteArray.empty], 40, false⟩
theorem ty43 : TyR Try.prog 43 t43 := TyR.of (by kernel_rfl) (by kernel_rfl) (by kernel_rfl) (by kernel_rfl) (by kernel_rfl) (by kernel_rfl) (fun h => nomatch h)
noncomputable def t44 : TI := ⟨Go.TypeDesc.array 0 16, 0, true, [], 0, true⟩
theorem ty44 : TyR Try.prog 44 t44 := TyR.of (by kernel_rfl) (by kernel_rfl) (by kernel_rfl) (by kernel_rfl) (by kernel_rfl) (by kernel_rfl) (fun _ => by kernel_rfl)
noncomputable def t45 : TI := ⟨Go.TypeDesc.struct #[{ name := "_", type := 44, offset := 0, embedded := false, tag := "", pkgPath := "runtime", byteOffset := 0 }], 0, true, [], 0, false⟩
theorem ty45 : TyR Try.prog 45 t45 := TyR.of (by kernel_rfl) (by kernel_rfl) (by kernel_rfl) (by kernel_rfl) (by kernel_rfl) (by kernel_rfl) (fun h => nomatch h)
noncomputable def t46 : TI := ⟨Go.TypeDesc.struct #[{ name := "_", type := 44, offset := 0, embedded := false, tag := "", pkgPath := "runtime", byteOffset := 0 }], 0, true, [], 0, false⟩
theorem ty46 : TyR Try.prog 46 t46 := TyR.of (by kernel_rfl) (by kernel_rfl) (by kernel_rfl) (by kernel_rfl) (by kernel_rfl) (by kernel_rfl) (fun h => nomatch h)
noncomputable def t47 : TI := ⟨Go.TypeDesc.func #[] #[3] false, 1, false, [.nilf], 8, true⟩
theorem ty47 : TyR Try.prog 47 t47 := TyR.of (by kernel_rfl) (by kernel_rfl) (by kernel_rfl) (by kernel_rfl) (by kernel_rfl) (by kernel_rfl) (fun _ => by kernel_rfl)
noncomputable def t48 : TI := ⟨Go.TypeDesc.int (Go.IntKind.u32), 1, false, [.int .u32 0], 4, true⟩
theorem ty48 : TyR Try.prog 48 t48 := TyR.of (by kernel_rfl) (by kernel_rfl) (by kernel_rfl) (by kernel_rfl) (by kernel_rfl) (by kernel_rfl) (fun _ => by kernel_rfl)
noncomputable def t49 : TI := ⟨Go.TypeDesc.int (Go.IntKind.u8), 1, false, [.int .u8 0], 1, true⟩
theorem ty49 : TyR Try.prog 49 t49 := TyR.of (by kernel_rfl) (by kernel_rfl) (by kernel_rfl) (by kernel_rfl) (by kernel_rfl) (by kernel_rfl) (fun _ => by kernel_rfl)
noncomputable def t50 : TI := ⟨Go.TypeDesc.int (Go.IntKind.u8), 1, false, [.int .u8 0], 1, true⟩
theorem ty50 : TyR Try.prog 50 t50 := TyR.of (by kernel_rfl) (by kernel_rfl) (by kernel_rfl) (by kernel_rfl) (by kernel_rfl) (by kernel_rfl) (fun _ => by kernel_rfl)
noncomputable def t51 : TI := ⟨Go.TypeDesc.func #[57, 57] #[4] false, 1, false, [.nilf], 8, true⟩
theorem ty51 : TyR Try.prog 51 t51 := TyR.of (by kernel_rfl) (by kernel_rfl) (by kernel_rfl) (by kernel_rfl) (by kernel_rfl) (by kernel_rfl) (fun _ => by kernel_rfl)
noncomputable def t52 : TI := ⟨Go.TypeDesc.pointer 5, 1, false, [.nilp], 8, true⟩
theorem ty52 : TyR Try.prog 52 t52 := TyR.of (by kernel_rfl) (by kernel_rfl) (by kernel_rfl) (by kernel_rfl) (by kernel_rfl) (by kernel_rfl) (fun _ => by kernel_rfl)
noncomputable def t53 : TI := ⟨Go.TypeDesc.int (Go.IntKind.i32), 1, false, [.int .i32 0], 4, true⟩
theorem ty53 : TyR Try.prog 53 t53 := TyR.of (by kernel_rfl) (by kernel_rfl) (by kernel_rfl) (by kernel_rfl) (by kernel_rfl) (by kernel_rfl) (fun _ => by kernel_rfl)
noncomputable def t54 : TI := ⟨Go.TypeDesc.int (Go.IntKind.i32), 1, false, [.int .i32 0], 4, true⟩
theorem ty54 : TyR Try.prog 54 t54 := TyR.of (by kernel_rfl) (by kernel_rfl) (by kernel_rfl) (by kernel_rfl) (by kernel_rfl) (by kernel_rfl) (fun _ => by kernel_rfl)
noncomputable def t55 : TI := ⟨Go.TypeDesc.struct #[{ name := "Size_", type := 12, offset := 0, embedded := false, tag := "", pkgPath := "", byteOffset := 0 }, { name := "PtrBytes", type := 12, offset := 1, embedded := false, tag := "", pkgPath := "", byteOffset := 8 }, { name := "Hash", type := 48, offset := 2, embedded := false, tag := "", pkgPath := "", byteOffset := 16 }, { name := "TFlag", type := 49, offset := 3, embedded := false, tag := "", pkgPath := "", byteOffset := 20 }, { name := "Align_", type := 5, offset := 4, embedded := false, tag := "", pkgPath := "", byteOffset := 21 }, { name := "FieldAlign_", type := 5, offset := 5, embedded := false, tag := "", pkgPath := "", byteOffset := 22 }, { name := "Kind_", type := 50, offset := 6, embedded := false, tag := "", pkgPath := "", byteOffset := 23 }, { name := "Equal", type := 51, offset := 7, embedded := false, tag := "", pkgPath := "", byteOffset := 24 }, { name := "GCData", type := 52, offset := 8, embedded := false, tag := "", pkgPath := "", byteOffset := 32 }, { name := "Str", type := 53, offset := 9, embedded := false, tag := "", pkgPath := "", byteOffset := 40 }, { name := "PtrToThis", type := 54, offset := 10, embedded := false, tag := "", pkgPath := "", byteOffset := 44 }], 11, true, [.int .u64 0, .int .u64 0, .int .u32 0, .int .u8 0, .int .u8 0, .int .u8 0, .int .u8 0, .nilf, .nilp, .int .i32 0, .int .i32 0], 48, false⟩
theorem ty55 : TyR Try.prog 55 t55 := TyR.of (by kernel_rfl) (by kernel_rfl) (by kernel_rfl) (by kernel_rfl) (by kernel_rfl) (by kernel_rfl) (fun h => nomatch h)
noncomputable def t56 : TI := ⟨Go.TypeDesc.struct #[{ name := "Size_", type := 12, offset := 0, embedded := false, tag := "", pkgPath := "", byteOffset := 0 }, { name := "PtrBytes", type := 12, offset := 1, embedded := false, tag := "", pkgPath := "", byteOffset := 8 }, { name := "Hash", type := 48, offset := 2, embedded := false, tag := "", pkgPath := "", byteOffset := 16 }, { name := "TFlag", type := 49, offset := 3, embedded := false, tag := "", pkgPath := "", byteOffset := 20 }, { name := "Align_", type := 5, offset := 4, embedded := false, tag := "", pkgPath := "", byteOffset := 21 }, { name := "FieldAlign_", type := 5, offset := 5, embedded := false, tag := "", pkgPath := "", byteOffset := 22 }, { name := "Kind_", type := 50, offset := 6, embedded := false, tag := "", pkgPath := "", byteOffset := 23 }, { name := "Equal", type := 51, offset := 7, embedded := false, tag := "", pkgPath := "", byteOffset := 24 }, { name := "GCData", type := 52, offset := 8, embedded := false, tag := "", pkgPath := "", byteOffset := 32 }, { name := "Str", type := 53, offset := 9, embedded := false, tag := "", pkgPath := "", byteOffset := 40 }, { name := "PtrToThis", type := 54, offset := 10, embedded := false, tag := "", pkgPath := "", byteOffset := 44 }], 11, true, [.int .u64 0, .int .u64 0, .int .u32 0, .int .u8 0, .int .u8 0, .int .u8 0, .int .u8 0, .nilf, .nilp, .int .i32 0, .int .i32 0], 48, false⟩
theorem ty56 : TyR Try.prog 56 t56 := TyR.of (by kernel_rfl) (by kernel_rfl) (by kernel_rfl) (by kernel_rfl) (by kernel_rfl) (by kernel_rfl) (fun h => nomatch h)
noncomputable def t57 : TI := ⟨Go.TypeDesc.unsafePointer, 1, false, [.nilp], 8, true⟩
theorem ty57 : TyR Try.prog 57 t57 := TyR.of (by kernel_rfl) (by kernel_rfl) (by kernel_rfl) (by kernel_rfl) (by kernel_rfl) (by kernel_rfl) (fun _ => by kernel_rfl)
noncomputable def tyL : List (Nat × TI) := [(1, t1), (2, t2), (3, t3), (4, t4), (5, t5), (6, t6), (7, t7), (8, t8), (9, t9), (10, t10), (11, t11), (12, t12), (13, t13), (14, t14), (15, t15), (16, t16), (17, t17), (18, t18), (19, t19), (21, t21), (22, t22), (23, t23), (25, t25), (27, t27), (28, t28), (29, t29), (30, t30), (31, t31), (32, t32), (33, t33), (34, t34), (35, t35), (36, t36), (37, t37), (38, t38), (39, t39), (40, t40), (41, t41), (42, t42), (43, t43), (44, t44), (45, t45), (46, t46), (47, t47), (48, t48), (49, t49), (50, t50), (51, t51), (52, t52), (53, t53), (54, t54), (55, t55), (56, t56), (57, t57)]
theorem tys : Al (fun p => TyR Try.prog p.1 p.2) tyL := .cons ty1 (.cons ty2 (.cons ty3 (.cons ty4 (.cons ty5 (.cons ty6 (.cons ty7 (.cons ty8 (.cons ty9 (.cons ty10 (.cons ty11 (.cons ty12 (.cons ty13 (.cons ty14 (.cons ty15 (.cons ty16 (.cons ty17 (.cons ty18 (.cons ty19 (.cons ty21 (.cons ty22 (.cons ty23 (.cons ty25 (.cons ty27 (.cons ty28 (.cons ty29 (.cons ty30 (.cons ty31 (.cons ty32 (.cons ty33 (.cons ty34 (.cons ty35 (.cons ty36 (.cons ty37 (.cons ty38 (.cons ty39 (.cons ty40 (.cons ty41 (.cons ty42 (.cons ty43 (.cons ty44 (.cons ty45 (.cons ty46 (.cons ty47 (.cons ty48 (.cons ty49 (.cons ty50 (.cons ty51 (.cons ty52 (.cons ty53 (.cons ty54 (.cons ty55 (.cons ty56 (.cons ty57 (.nil))))))))))))))))))))))))))))))))))))))))))))))))))))))
noncomputable def tyT : T TI := (.node none (.node (some t1) (.node (some t3) (.node (some t7) (.node (some t15) (.node (some t31) .nil .nil) (.node (some t47) .nil .nil)) (.node (some t23) (.node (some t39) .nil .nil) (.node (some t55) .nil .nil))) (.node (some t11) (.node (some t19) (.node (some t35) .nil .nil) (.node (some t51) .nil .nil)) (.node (some t27) (.node (some t43) .nil .nil) .nil))) (.node (some t5) (.node (some t9) (.node (some t17) (.node (some t33) .nil .nil) (.node (some t49) .nil .nil)) (.node (some t25) (.node (some t41) .nil .nil) (.node (some t57) .nil .nil))) (.node (some t13) (.node (some t21) (.node (some t37) .nil .nil) (.node (some t53) .nil .nil)) (.node (some t29) (.node (some t45) .nil .nil) .nil)))) (.node (some t2) (.node (some t4) (.node (some t8) (.node (some t16) (.node (some t32) .nil .nil) (.node (some t48) .nil .nil)) (.node none (.node (some t40) .nil .nil) (.node (some t56) .nil .nil))) (.node (some t12) (.node none (.node (some t36) .nil .nil) (.node (some t52) .nil .nil)) (.node (some t28) (.node (some t44) .nil .nil) .nil))) (.node (some t6) (.node (some t10) (.node (some t18) (.node (some t34) .nil .nil) (.node (some t50) .nil .nil)) (.node none (.node (some t42) .nil .nil) .nil)) (.node (some t14) (.node (some t22) (.node (some t38) .nil .nil) (.node (some t54) .nil .nil)) (.node (some t30) (.node (some t46) .nil .nil) .nil)))))
theorem tyT_eq : tableOf tyL = tyT := by kernel_rfl
theorem mixed : Try.prog.follows .mixedOrders = true := by kernel_rfl
end Tab
