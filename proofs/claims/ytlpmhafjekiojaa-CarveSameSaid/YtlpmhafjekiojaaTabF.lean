/- The tables of this seat: what each function of the program is, proved one by one. No conditions. -/
import Derived.Test.YtlpmhafjekiojaaTabT
open Go Eng Go.Proofs
set_option maxRecDepth 100000
namespace Tab
noncomputable def u2 : FI := ⟨1, 1, Try.f2.body.getD .skip, Try.f2.results.toList⟩
theorem fu2 : FuR Try.prog 2 u2 := ⟨Try.f2, Try.func2, by kernel_rfl, rfl, rfl, by decide +kernel⟩
noncomputable def u3 : FI := ⟨71, 17, Try.f3.body.getD .skip, Try.f3.results.toList⟩
theorem fu3 : FuR Try.prog 3 u3 := ⟨Try.f3, Try.func3, by kernel_rfl, rfl, rfl, by decide +kernel⟩
noncomputable def u4 : FI := ⟨36, 9, Try.f4.body.getD .skip, Try.f4.results.toList⟩
theorem fu4 : FuR Try.prog 4 u4 := ⟨Try.f4, Try.func4, by kernel_rfl, rfl, rfl, by decide +kernel⟩
noncomputable def u5 : FI := ⟨120, 14, Try.f5.body.getD .skip, Try.f5.results.toList⟩
theorem fu5 : FuR Try.prog 5 u5 := ⟨Try.f5, Try.func5, by kernel_rfl, rfl, rfl, by decide +kernel⟩
noncomputable def u6 : FI := ⟨82, 11, Try.f6.body.getD .skip, Try.f6.results.toList⟩
theorem fu6 : FuR Try.prog 6 u6 := ⟨Try.f6, Try.func6, by kernel_rfl, rfl, rfl, by decide +kernel⟩
noncomputable def u7 : FI := ⟨69, 62, Try.f7.body.getD .skip, Try.f7.results.toList⟩
theorem fu7 : FuR Try.prog 7 u7 := ⟨Try.f7, Try.func7, by kernel_rfl, rfl, rfl, by decide +kernel⟩
noncomputable def u8 : FI := ⟨65, 14, Try.f8.body.getD .skip, Try.f8.results.toList⟩
theorem fu8 : FuR Try.prog 8 u8 := ⟨Try.f8, Try.func8, by kernel_rfl, rfl, rfl, by decide +kernel⟩
noncomputable def u9 : FI := ⟨26, 6, Try.f9.body.getD .skip, Try.f9.results.toList⟩
theorem fu9 : FuR Try.prog 9 u9 := ⟨Try.f9, Try.func9, by kernel_rfl, rfl, rfl, by decide +kernel⟩
noncomputable def u10 : FI := ⟨4, 3, Try.f10.body.getD .skip, Try.f10.results.toList⟩
theorem fu10 : FuR Try.prog 10 u10 := ⟨Try.f10, Try.func10, by kernel_rfl, rfl, rfl, by decide +kernel⟩
noncomputable def u11 : FI := ⟨15, 3, Try.f11.body.getD .skip, Try.f11.results.toList⟩
theorem fu11 : FuR Try.prog 11 u11 := ⟨Try.f11, Try.func11, by kernel_rfl, rfl, rfl, by decide +kernel⟩
noncomputable def u12 : FI := ⟨27, 4, Try.f12.body.getD .skip, Try.f12.results.toList⟩
theorem fu12 : FuR Try.prog 12 u12 := ⟨Try.f12, Try.func12, by kernel_rfl, rfl, rfl, by decide +kernel⟩
noncomputable def u13 : FI := ⟨37, 9, Try.f13.body.getD .skip, Try.f13.results.toList⟩
theorem fu13 : FuR Try.prog 13 u13 := ⟨Try.f13, Try.func13, by kernel_rfl, rfl, rfl, by decide +kernel⟩
noncomputable def u14 : FI := ⟨46, 9, Try.f14.body.getD .skip, Try.f14.results.toList⟩
theorem fu14 : FuR Try.prog 14 u14 := ⟨Try.f14, Try.func14, by kernel_rfl, rfl, rfl, by decide +kernel⟩
noncomputable def u15 : FI := ⟨33, 9, Try.f15.body.getD .skip, Try.f15.results.toList⟩
theorem fu15 : FuR Try.prog 15 u15 := ⟨Try.f15, Try.func15, by kernel_rfl, rfl, rfl, by decide +kernel⟩
noncomputable def u16 : FI := ⟨43, 9, Try.f16.body.getD .skip, Try.f16.results.toList⟩
theorem fu16 : FuR Try.prog 16 u16 := ⟨Try.f16, Try.func16, by kernel_rfl, rfl, rfl, by decide +kernel⟩
noncomputable def u17 : FI := ⟨11, 5, Try.f17.body.getD .skip, Try.f17.results.toList⟩
theorem fu17 : FuR Try.prog 17 u17 := ⟨Try.f17, Try.func17, by kernel_rfl, rfl, rfl, by decide +kernel⟩
noncomputable def u18 : FI := ⟨8, 7, Try.f18.body.getD .skip, Try.f18.results.toList⟩
theorem fu18 : FuR Try.prog 18 u18 := ⟨Try.f18, Try.func18, by kernel_rfl, rfl, rfl, by decide +kernel⟩
noncomputable def u19 : FI := ⟨18, 8, Try.f19.body.getD .skip, Try.f19.results.toList⟩
theorem fu19 : FuR Try.prog 19 u19 := ⟨Try.f19, Try.func19, by kernel_rfl, rfl, rfl, by decide +kernel⟩
noncomputable def u20 : FI := ⟨9, 3, Try.f20.body.getD .skip, Try.f20.results.toList⟩
theorem fu20 : FuR Try.prog 20 u20 := ⟨Try.f20, Try.func20, by kernel_rfl, rfl, rfl, by decide +kernel⟩
noncomputable def u21 : FI := ⟨26, 8, Try.f21.body.getD .skip, Try.f21.results.toList⟩
theorem fu21 : FuR Try.prog 21 u21 := ⟨Try.f21, Try.func21, by kernel_rfl, rfl, rfl, by decide +kernel⟩
noncomputable def fuL : List (Nat × FI) := [(2, u2), (3, u3), (4, u4), (5, u5), (6, u6), (7, u7), (8, u8), (9, u9), (10, u10), (11, u11), (12, u12), (13, u13), (14, u14), (15, u15), (16, u16), (17, u17), (18, u18), (19, u19), (20, u20), (21, u21)]
theorem fus : Al (fun p => FuR Try.prog p.1 p.2) fuL := .cons fu2 (.cons fu3 (.cons fu4 (.cons fu5 (.cons fu6 (.cons fu7 (.cons fu8 (.cons fu9 (.cons fu10 (.cons fu11 (.cons fu12 (.cons fu13 (.cons fu14 (.cons fu15 (.cons fu16 (.cons fu17 (.cons fu18 (.cons fu19 (.cons fu20 (.cons fu21 (.nil))))))))))))))))))))
noncomputable def fuT : T FI := (.node none (.node none (.node (some u3) (.node (some u7) (.node (some u15) .nil .nil) .nil) (.node (some u11) (.node (some u19) .nil .nil) .nil)) (.node (some u5) (.node (some u9) (.node (some u17) .nil .nil) .nil) (.node (some u13) (.node (some u21) .nil .nil) .nil))) (.node (some u2) (.node (some u4) (.node (some u8) (.node (some u16) .nil .nil) .nil) (.node (some u12) (.node (some u20) .nil .nil) .nil)) (.node (some u6) (.node (some u10) (.node (some u18) .nil .nil) .nil) (.node (some u14) .nil .nil))))
theorem fuT_eq : tableOf fuL = fuT := by kernel_rfl
end Tab
