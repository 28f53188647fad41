/- VspaceOthers: answers of calls of which all arguments are numbers. No conditions beside those in its theorems. -/
import Derived.Test.YtpiicallicgdkaaGreatPU
open Go Eng Go.Proofs Go.RowKit
namespace VO
open Base
noncomputable def pu0 : SumE := ⟨188, [.agg [.bool true, .bool false, .bool false, .bool false, .int .i64 24]], .one (.int .u64 6145)⟩
theorem qu0 : isV pu0.v (eval cfg0 300 X0 (.call pu0.f pu0.args) ⟨.nil, 0⟩) = true := by decide +kernel
noncomputable def pu1 : SumE := ⟨188, [.agg [.bool true, .bool false, .bool false, .bool false, .int .i64 25]], .one (.int .u64 6401)⟩
theorem qu1 : isV pu1.v (eval cfg0 300 X0 (.call pu1.f pu1.args) ⟨.nil, 0⟩) = true := by decide +kernel
noncomputable def pu2 : SumE := ⟨188, [.agg [.bool true, .bool false, .bool false, .bool false, .int .i64 26]], .one (.int .u64 6657)⟩
theorem qu2 : isV pu2.v (eval cfg0 300 X0 (.call pu2.f pu2.args) ⟨.nil, 0⟩) = true := by decide +kernel
noncomputable def pu3 : SumE := ⟨188, [.agg [.bool true, .bool true, .bool true, .bool true, .int .i64 28]], .one (.int .u64 7183)⟩
theorem qu3 : isV pu3.v (eval cfg0 300 X0 (.call pu3.f pu3.args) ⟨.nil, 0⟩) = true := by decide +kernel
noncomputable def pu4 : SumE := ⟨206, [.one (.int .u64 0)], .tup [.agg [.bool false, .bool false, .bool false, .bool false, .int .i64 0], .one (.int .i64 0)]⟩
theorem qu4 : isV pu4.v (eval cfg0 300 X0 (.call pu4.f pu4.args) ⟨.nil, 0⟩) = true := by decide +kernel
noncomputable def pu5 : SumE := ⟨206, [.one (.int .u64 6145)], .tup [.agg [.bool true, .bool false, .bool false, .bool false, .int .i64 24], .one (.int .i64 0)]⟩
theorem qu5 : isV pu5.v (eval cfg0 300 X0 (.call pu5.f pu5.args) ⟨.nil, 0⟩) = true := by decide +kernel
noncomputable def pu6 : SumE := ⟨206, [.one (.int .u64 6401)], .tup [.agg [.bool true, .bool false, .bool false, .bool false, .int .i64 25], .one (.int .i64 0)]⟩
theorem qu6 : isV pu6.v (eval cfg0 300 X0 (.call pu6.f pu6.args) ⟨.nil, 0⟩) = true := by decide +kernel
noncomputable def pu7 : SumE := ⟨206, [.one (.int .u64 6657)], .tup [.agg [.bool true, .bool false, .bool false, .bool false, .int .i64 26], .one (.int .i64 0)]⟩
theorem qu7 : isV pu7.v (eval cfg0 300 X0 (.call pu7.f pu7.args) ⟨.nil, 0⟩) = true := by decide +kernel
noncomputable def pu8 : SumE := ⟨206, [.one (.int .u64 7183)], .tup [.agg [.bool true, .bool true, .bool true, .bool true, .int .i64 28], .one (.int .i64 0)]⟩
theorem qu8 : isV pu8.v (eval cfg0 300 X0 (.call pu8.f pu8.args) ⟨.nil, 0⟩) = true := by decide +kernel
noncomputable def pu9 : SumE := ⟨278, [.one (.int .u64 0)], .tup [.agg [.bool false, .bool false, .bool false, .bool false, .int .i64 0], .one (.int .i64 0)]⟩
theorem qu9 : isV pu9.v (eval cfg0 300 X0 (.call pu9.f pu9.args) ⟨.nil, 0⟩) = true := by decide +kernel
noncomputable def pu10 : SumE := ⟨278, [.one (.int .u64 6145)], .tup [.agg [.bool true, .bool false, .bool false, .bool false, .int .i64 24], .one (.int .i64 0)]⟩
theorem qu10 : isV pu10.v (eval cfg0 300 X0 (.call pu10.f pu10.args) ⟨.nil, 0⟩) = true := by decide +kernel
noncomputable def pu11 : SumE := ⟨278, [.one (.int .u64 6401)], .tup [.agg [.bool true, .bool false, .bool false, .bool false, .int .i64 25], .one (.int .i64 0)]⟩
theorem qu11 : isV pu11.v (eval cfg0 300 X0 (.call pu11.f pu11.args) ⟨.nil, 0⟩) = true := by decide +kernel
noncomputable def pu12 : SumE := ⟨278, [.one (.int .u64 6657)], .tup [.agg [.bool true, .bool false, .bool false, .bool false, .int .i64 26], .one (.int .i64 0)]⟩
theorem qu12 : isV pu12.v (eval cfg0 300 X0 (.call pu12.f pu12.args) ⟨.nil, 0⟩) = true := by decide +kernel
noncomputable def pu13 : SumE := ⟨93, [.agg [.bool true, .bool false, .bool false, .bool false, .int .i64 24]], .tup [.one (.int .u64 6145), .one (.int .i64 0)]⟩
theorem qu13 : isV pu13.v (eval cfg0 300 X0 (.call pu13.f pu13.args) ⟨.nil, 0⟩) = true := by decide +kernel
noncomputable def pu14 : SumE := ⟨93, [.agg [.bool true, .bool false, .bool false, .bool false, .int .i64 25]], .tup [.one (.int .u64 6401), .one (.int .i64 0)]⟩
theorem qu14 : isV pu14.v (eval cfg0 300 X0 (.call pu14.f pu14.args) ⟨.nil, 0⟩) = true := by decide +kernel
noncomputable def pu15 : SumE := ⟨93, [.agg [.bool true, .bool false, .bool false, .bool false, .int .i64 26]], .tup [.one (.int .u64 6657), .one (.int .i64 0)]⟩
theorem qu15 : isV pu15.v (eval cfg0 300 X0 (.call pu15.f pu15.args) ⟨.nil, 0⟩) = true := by decide +kernel
noncomputable def pu16 : SumE := ⟨93, [.agg [.bool true, .bool true, .bool true, .bool true, .int .i64 28]], .tup [.one (.int .u64 7183), .one (.int .i64 0)]⟩
theorem qu16 : isV pu16.v (eval cfg0 300 X0 (.call pu16.f pu16.args) ⟨.nil, 0⟩) = true := by decide +kernel
noncomputable def puV : List SumE := [pu0, pu1, pu2, pu3, pu4, pu5, pu6, pu7, pu8, pu9, pu10, pu11, pu12, pu13, pu14, pu15, pu16]
theorem puVOK (σ : Sig) (C : Cfg) (hC : C.fu = Tab.fuT.get) : Al (Summ Tryz.prog σ C) puV := (.cons (summV C hC σ pu0 qu0 rfl rfl) (.cons (summV C hC σ pu1 qu1 rfl rfl) (.cons (summV C hC σ pu2 qu2 rfl rfl) (.cons (summV C hC σ pu3 qu3 rfl rfl) (.cons (summV C hC σ pu4 qu4 rfl rfl) (.cons (summV C hC σ pu5 qu5 rfl rfl) (.cons (summV C hC σ pu6 qu6 rfl rfl) (.cons (summV C hC σ pu7 qu7 rfl rfl) (.cons (summV C hC σ pu8 qu8 rfl rfl) (.cons (summV C hC σ pu9 qu9 rfl rfl) (.cons (summV C hC σ pu10 qu10 rfl rfl) (.cons (summV C hC σ pu11 qu11 rfl rfl) (.cons (summV C hC σ pu12 qu12 rfl rfl) (.cons (summV C hC σ pu13 qu13 rfl rfl) (.cons (summV C hC σ pu14 qu14 rfl rfl) (.cons (summV C hC σ pu15 qu15 rfl rfl) (.cons (summV C hC σ pu16 qu16 rfl rfl) .nil)))))))))))))))))
end VO
