/- Answers of calls of which all arguments are numbers. No conditions beside those in its theorems. -/
import Derived.Test.YtpiicallicgdkaaGreatB
open Go Eng Go.Proofs Go.RowKit
namespace Base
noncomputable def isV (v : AV) (r : OR) : Bool := match r with | some (.val x _) => AV.eqb x v | _ => false
theorem isV_some {v : AV} {r : OR} (h : isV v r = true) : ∃ h', r = some (.val v h') := by
  unfold isV at h
  split at h
  · rename_i x h'; exact ⟨h', by rw [AV.eqb_eq h]⟩
  · cases h
theorem summV (C : Cfg) (hC : C.fu = Tab.fuT.get) (σ : Sig) (s : SumE) (hk : isV s.v (eval cfg0 300 X0 (.call s.f s.args) ⟨.nil, 0⟩) = true) (hp : plainAV s.v = true) (ha : s.args.all plainAV = true) : Summ Tryz.prog σ C s := by
  obtain ⟨h', hk'⟩ := isV_some hk
  exact Summ.of (C := cfg0) hC.symm (ok0 σ) (ext0 σ) hk' hp ha
noncomputable def p0 : SumE := ⟨206, [.one (.int .u64 6145)], .tup [.agg [.bool true, .bool false, .bool false, .bool false, .int .i64 24], .one (.int .i64 0)]⟩
theorem q0 : isV p0.v (eval cfg0 300 X0 (.call p0.f p0.args) ⟨.nil, 0⟩) = true := by decide +kernel
noncomputable def p1 : SumE := ⟨206, [.one (.int .u64 6401)], .tup [.agg [.bool true, .bool false, .bool false, .bool false, .int .i64 25], .one (.int .i64 0)]⟩
theorem q1 : isV p1.v (eval cfg0 300 X0 (.call p1.f p1.args) ⟨.nil, 0⟩) = true := by decide +kernel
noncomputable def p2 : SumE := ⟨206, [.one (.int .u64 0)], .tup [.agg [.bool false, .bool false, .bool false, .bool false, .int .i64 0], .one (.int .i64 0)]⟩
theorem q2 : isV p2.v (eval cfg0 300 X0 (.call p2.f p2.args) ⟨.nil, 0⟩) = true := by decide +kernel
noncomputable def p3 : SumE := ⟨206, [.one (.int .u64 6919)], .tup [.agg [.bool true, .bool true, .bool true, .bool false, .int .i64 27], .one (.int .i64 0)]⟩
theorem q3 : isV p3.v (eval cfg0 300 X0 (.call p3.f p3.args) ⟨.nil, 0⟩) = true := by decide +kernel
noncomputable def p4 : SumE := ⟨206, [.one (.int .u64 6923)], .tup [.agg [.bool true, .bool true, .bool false, .bool true, .int .i64 27], .one (.int .i64 0)]⟩
theorem q4 : isV p4.v (eval cfg0 300 X0 (.call p4.f p4.args) ⟨.nil, 0⟩) = true := by decide +kernel
noncomputable def p5 : SumE := ⟨206, [.one (.int .u64 6927)], .tup [.agg [.bool true, .bool true, .bool true, .bool true, .int .i64 27], .one (.int .i64 0)]⟩
theorem q5 : isV p5.v (eval cfg0 300 X0 (.call p5.f p5.args) ⟨.nil, 0⟩) = true := by decide +kernel
noncomputable def p6 : SumE := ⟨206, [.one (.int .u64 7183)], .tup [.agg [.bool true, .bool true, .bool true, .bool true, .int .i64 28], .one (.int .i64 0)]⟩
theorem q6 : isV p6.v (eval cfg0 300 X0 (.call p6.f p6.args) ⟨.nil, 0⟩) = true := by decide +kernel
noncomputable def p7 : SumE := ⟨93, [.agg [.bool true, .bool true, .bool true, .bool true, .int .i64 28]], .tup [.one (.int .u64 7183), .one (.int .i64 0)]⟩
theorem q7 : isV p7.v (eval cfg0 300 X0 (.call p7.f p7.args) ⟨.nil, 0⟩) = true := by decide +kernel
noncomputable def p8 : SumE := ⟨93, [.agg [.bool true, .bool true, .bool true, .bool true, .int .i64 27]], .tup [.one (.int .u64 6927), .one (.int .i64 0)]⟩
theorem q8 : isV p8.v (eval cfg0 300 X0 (.call p8.f p8.args) ⟨.nil, 0⟩) = true := by decide +kernel
noncomputable def p9 : SumE := ⟨93, [.agg [.bool true, .bool true, .bool true, .bool false, .int .i64 27]], .tup [.one (.int .u64 6919), .one (.int .i64 0)]⟩
theorem q9 : isV p9.v (eval cfg0 300 X0 (.call p9.f p9.args) ⟨.nil, 0⟩) = true := by decide +kernel
noncomputable def p10 : SumE := ⟨93, [.agg [.bool true, .bool true, .bool false, .bool true, .int .i64 27]], .tup [.one (.int .u64 6923), .one (.int .i64 0)]⟩
theorem q10 : isV p10.v (eval cfg0 300 X0 (.call p10.f p10.args) ⟨.nil, 0⟩) = true := by decide +kernel
noncomputable def p11 : SumE := ⟨215, [.one (.int .u64 0), .one (.int .i64 8)], .one (.bool true)⟩
theorem q11 : isV p11.v (eval cfg0 300 X0 (.call p11.f p11.args) ⟨.nil, 0⟩) = true := by decide +kernel
noncomputable def p12 : SumE := ⟨215, [.one (.int .u64 0), .one (.int .i64 12)], .one (.bool true)⟩
theorem q12 : isV p12.v (eval cfg0 300 X0 (.call p12.f p12.args) ⟨.nil, 0⟩) = true := by decide +kernel
noncomputable def p13 : SumE := ⟨215, [.one (.int .u64 1), .one (.int .i64 12)], .one (.bool true)⟩
theorem q13 : isV p13.v (eval cfg0 300 X0 (.call p13.f p13.args) ⟨.nil, 0⟩) = true := by decide +kernel
noncomputable def p14 : SumE := ⟨215, [.one (.int .u64 2), .one (.int .i64 12)], .one (.bool true)⟩
theorem q14 : isV p14.v (eval cfg0 300 X0 (.call p14.f p14.args) ⟨.nil, 0⟩) = true := by decide +kernel
noncomputable def p15 : SumE := ⟨215, [.one (.int .u64 3), .one (.int .i64 12)], .one (.bool true)⟩
theorem q15 : isV p15.v (eval cfg0 300 X0 (.call p15.f p15.args) ⟨.nil, 0⟩) = true := by decide +kernel
noncomputable def p16 : SumE := ⟨215, [.one (.int .u64 4), .one (.int .i64 12)], .one (.bool true)⟩
theorem q16 : isV p16.v (eval cfg0 300 X0 (.call p16.f p16.args) ⟨.nil, 0⟩) = true := by decide +kernel
noncomputable def p17 : SumE := ⟨215, [.one (.int .u64 5), .one (.int .i64 12)], .one (.bool true)⟩
theorem q17 : isV p17.v (eval cfg0 300 X0 (.call p17.f p17.args) ⟨.nil, 0⟩) = true := by decide +kernel
noncomputable def p18 : SumE := ⟨215, [.one (.int .u64 6), .one (.int .i64 12)], .one (.bool true)⟩
theorem q18 : isV p18.v (eval cfg0 300 X0 (.call p18.f p18.args) ⟨.nil, 0⟩) = true := by decide +kernel
noncomputable def p19 : SumE := ⟨215, [.one (.int .u64 7), .one (.int .i64 12)], .one (.bool true)⟩
theorem q19 : isV p19.v (eval cfg0 300 X0 (.call p19.f p19.args) ⟨.nil, 0⟩) = true := by decide +kernel
noncomputable def p20 : SumE := ⟨215, [.one (.int .u64 8), .one (.int .i64 12)], .one (.bool true)⟩
theorem q20 : isV p20.v (eval cfg0 300 X0 (.call p20.f p20.args) ⟨.nil, 0⟩) = true := by decide +kernel
noncomputable def p21 : SumE := ⟨215, [.one (.int .u64 9), .one (.int .i64 12)], .one (.bool true)⟩
theorem q21 : isV p21.v (eval cfg0 300 X0 (.call p21.f p21.args) ⟨.nil, 0⟩) = true := by decide +kernel
noncomputable def p22 : SumE := ⟨215, [.one (.int .u64 10), .one (.int .i64 12)], .one (.bool true)⟩
theorem q22 : isV p22.v (eval cfg0 300 X0 (.call p22.f p22.args) ⟨.nil, 0⟩) = true := by decide +kernel
noncomputable def p23 : SumE := ⟨215, [.one (.int .u64 11), .one (.int .i64 12)], .one (.bool true)⟩
theorem q23 : isV p23.v (eval cfg0 300 X0 (.call p23.f p23.args) ⟨.nil, 0⟩) = true := by decide +kernel
noncomputable def p24 : SumE := ⟨215, [.one (.int .u64 12), .one (.int .i64 12)], .one (.bool true)⟩
theorem q24 : isV p24.v (eval cfg0 300 X0 (.call p24.f p24.args) ⟨.nil, 0⟩) = true := by decide +kernel
noncomputable def p25 : SumE := ⟨215, [.one (.int .u64 13), .one (.int .i64 12)], .one (.bool true)⟩
theorem q25 : isV p25.v (eval cfg0 300 X0 (.call p25.f p25.args) ⟨.nil, 0⟩) = true := by decide +kernel
noncomputable def p26 : SumE := ⟨215, [.one (.int .u64 14), .one (.int .i64 12)], .one (.bool true)⟩
theorem q26 : isV p26.v (eval cfg0 300 X0 (.call p26.f p26.args) ⟨.nil, 0⟩) = true := by decide +kernel
noncomputable def p27 : SumE := ⟨215, [.one (.int .u64 15), .one (.int .i64 12)], .one (.bool true)⟩
theorem q27 : isV p27.v (eval cfg0 300 X0 (.call p27.f p27.args) ⟨.nil, 0⟩) = true := by decide +kernel
noncomputable def pures : List SumE := [p0, p1, p2, p3, p4, p5, p6, p7, p8, p9, p10, p11, p12, p13, p14, p15, p16, p17, p18, p19, p20, p21, p22, p23, p24, p25, p26, p27]
theorem puresOK (σ : Sig) (C : Cfg) (hC : C.fu = Tab.fuT.get) : Al (Summ Tryz.prog σ C) pures := (.cons (summV C hC σ p0 q0 rfl rfl) (.cons (summV C hC σ p1 q1 rfl rfl) (.cons (summV C hC σ p2 q2 rfl rfl) (.cons (summV C hC σ p3 q3 rfl rfl) (.cons (summV C hC σ p4 q4 rfl rfl) (.cons (summV C hC σ p5 q5 rfl rfl) (.cons (summV C hC σ p6 q6 rfl rfl) (.cons (summV C hC σ p7 q7 rfl rfl) (.cons (summV C hC σ p8 q8 rfl rfl) (.cons (summV C hC σ p9 q9 rfl rfl) (.cons (summV C hC σ p10 q10 rfl rfl) (.cons (summV C hC σ p11 q11 rfl rfl) (.cons (summV C hC σ p12 q12 rfl rfl) (.cons (summV C hC σ p13 q13 rfl rfl) (.cons (summV C hC σ p14 q14 rfl rfl) (.cons (summV C hC σ p15 q15 rfl rfl) (.cons (summV C hC σ p16 q16 rfl rfl) (.cons (summV C hC σ p17 q17 rfl rfl) (.cons (summV C hC σ p18 q18 rfl rfl) (.cons (summV C hC σ p19 q19 rfl rfl) (.cons (summV C hC σ p20 q20 rfl rfl) (.cons (summV C hC σ p21 q21 rfl rfl) (.cons (summV C hC σ p22 q22 rfl rfl) (.cons (summV C hC σ p23 q23 rfl rfl) (.cons (summV C hC σ p24 q24 rfl rfl) (.cons (summV C hC σ p25 q25 rfl rfl) (.cons (summV C hC σ p26 q26 rfl rfl) (.cons (summV C hC σ p27 q27 rfl rfl) .nil))))))))))))))))))))))))))))
end Base
