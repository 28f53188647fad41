/- TopAlias: answers of calls of which all arguments are numbers. No conditions beside those in its theorems. -/
import Derived.Test.YtkcnnmpiochaaaaGreatB
import Derived.Test.YtkcnnmpiochaaaaGreatE10
set_option linter.unusedVariables false
open Go Eng Go.Proofs Go.RowKit
namespace TopA
open Base
noncomputable def isV (v : AV) (r : OR) : Bool := match r with | some (.val x _) => AV.eqb x v | _ => false
theorem isV_some {v : AV} {r : OR} (h : isV v r = true) : ∃ h', r = some (.val v h') := by
  unfold isV at h
  split at h
  · rename_i x h'; exact ⟨h', by rw [AV.eqb_eq h]⟩
  · cases h
theorem summV (C : Cfg) (hC : C.fu = Tab.fuT.get) (σ : Sig) (s : SumE) (hk : isV s.v (eval cfg0 300 X0 (.call s.f s.args) ⟨.nil, 0⟩) = true) (hp : plainAV s.v = true) (ha : s.args.all plainAV = true) : Summ Tryz.prog σ C s := by
  obtain ⟨h', hk'⟩ := isV_some hk
  exact Summ.of (C := cfg0) hC.symm (ok0 σ) (ext0 σ) hk' hp ha
noncomputable def pu0 : SumE := ⟨121, [.agg [.int .i64 1, .int .i64 3, .int .i64 1, .int .i64 0, .int .i64 3, .int .i64 0, .int .i64 27, .int .u64 0, .int .u64 0, .int .u64 0, .int .u64 0, .int .u64 0]], .tup [.agg [.int .u64 1, .int .u64 3, .int .u64 3, .int .u64 0, .int .u64 1, .int .u64 11, .int .u64 1], .one (.int .i64 0)]⟩
theorem qu0 : isV pu0.v (eval cfg0 300 X0 (.call pu0.f pu0.args) ⟨.nil, 0⟩) = true := by decide +kernel
noncomputable def pu1 : SumE := ⟨121, [.agg [.int .i64 1, .int .i64 3, .int .i64 1, .int .i64 0, .int .i64 4, .int .i64 0, .int .i64 26, .int .u64 0, .int .u64 0, .int .u64 0, .int .u64 0, .int .u64 0]], .tup [.agg [.int .u64 1, .int .u64 3, .int .u64 4, .int .u64 0, .int .u64 1, .int .u64 10, .int .u64 1], .one (.int .i64 0)]⟩
theorem qu1 : isV pu1.v (eval cfg0 300 X0 (.call pu1.f pu1.args) ⟨.nil, 0⟩) = true := by decide +kernel
noncomputable def pu2 : SumE := ⟨121, [.agg [.int .i64 1, .int .i64 3, .int .i64 1, .int .i64 0, .int .i64 4, .int .i64 0, .int .i64 40, .int .u64 0, .int .u64 0, .int .u64 0, .int .u64 0, .int .u64 0]], .tup [.agg [.int .u64 1, .int .u64 3, .int .u64 4, .int .u64 0, .int .u64 1, .int .u64 8, .int .u64 2], .one (.int .i64 0)]⟩
theorem qu2 : isV pu2.v (eval cfg0 300 X0 (.call pu2.f pu2.args) ⟨.nil, 0⟩) = true := by decide +kernel
noncomputable def pu3 : SumE := ⟨121, [.agg [.int .i64 2, .int .i64 11, .int .i64 12, .int .i64 0, .int .i64 1, .int .i64 0, .int .i64 0, .int .u64 0, .int .u64 0, .int .u64 0, .int .u64 0, .int .u64 0]], .tup [.agg [.int .u64 2, .int .u64 11, .int .u64 12, .int .u64 1, .int .u64 0, .int .u64 0, .int .u64 0], .one (.int .i64 0)]⟩
theorem qu3 : isV pu3.v (eval cfg0 300 X0 (.call pu3.f pu3.args) ⟨.nil, 0⟩) = true := by decide +kernel
noncomputable def pu4 : SumE := ⟨121, [.agg [.int .i64 2, .int .i64 11, .int .i64 12, .int .i64 0, .int .i64 2, .int .i64 0, .int .i64 0, .int .u64 0, .int .u64 0, .int .u64 0, .int .u64 0, .int .u64 0]], .tup [.agg [.int .u64 2, .int .u64 11, .int .u64 12, .int .u64 2, .int .u64 0, .int .u64 0, .int .u64 0], .one (.int .i64 0)]⟩
theorem qu4 : isV pu4.v (eval cfg0 300 X0 (.call pu4.f pu4.args) ⟨.nil, 0⟩) = true := by decide +kernel
noncomputable def pu5 : SumE := ⟨121, [.agg [.int .i64 2, .int .i64 11, .int .i64 12, .int .i64 0, .int .i64 3, .int .i64 0, .int .i64 0, .int .u64 0, .int .u64 0, .int .u64 0, .int .u64 0, .int .u64 0]], .tup [.agg [.int .u64 2, .int .u64 11, .int .u64 12, .int .u64 3, .int .u64 0, .int .u64 0, .int .u64 0], .one (.int .i64 0)]⟩
theorem qu5 : isV pu5.v (eval cfg0 300 X0 (.call pu5.f pu5.args) ⟨.nil, 0⟩) = true := by decide +kernel
noncomputable def pu6 : SumE := ⟨121, [.agg [.int .i64 6, .int .i64 11, .int .i64 0, .int .i64 0, .int .i64 0, .int .i64 0, .int .i64 0, .int .u64 0, .int .u64 0, .int .u64 0, .int .u64 0, .int .u64 0]], .tup [.agg [.int .u64 6, .int .u64 11, .int .u64 0, .int .u64 0, .int .u64 0, .int .u64 0, .int .u64 0], .one (.int .i64 0)]⟩
theorem qu6 : isV pu6.v (eval cfg0 300 X0 (.call pu6.f pu6.args) ⟨.nil, 0⟩) = true := by decide +kernel
noncomputable def pu7 : SumE := ⟨121, [.agg [.int .i64 6, .int .i64 12, .int .i64 0, .int .i64 0, .int .i64 0, .int .i64 0, .int .i64 0, .int .u64 0, .int .u64 0, .int .u64 0, .int .u64 0, .int .u64 0]], .tup [.agg [.int .u64 6, .int .u64 12, .int .u64 0, .int .u64 0, .int .u64 0, .int .u64 0, .int .u64 0], .one (.int .i64 0)]⟩
theorem qu7 : isV pu7.v (eval cfg0 300 X0 (.call pu7.f pu7.args) ⟨.nil, 0⟩) = true := by decide +kernel
noncomputable def pu8 : SumE := ⟨121, [.agg [.int .i64 9, .int .i64 9, .int .i64 0, .int .i64 0, .int .i64 0, .int .i64 0, .int .i64 0, .int .u64 0, .int .u64 0, .int .u64 0, .int .u64 0, .int .u64 0]], .tup [.agg [.int .u64 9, .int .u64 9, .int .u64 0, .int .u64 0, .int .u64 0, .int .u64 0, .int .u64 0], .one (.int .i64 0)]⟩
theorem qu8 : isV pu8.v (eval cfg0 300 X0 (.call pu8.f pu8.args) ⟨.nil, 0⟩) = true := by decide +kernel
noncomputable def pu9 : SumE := ⟨149, [.agg [.int .i64 0, .int .i64 0, .int .i64 0, .int .u64 0, .int .i64 0, .int .i64 0, .int .i64 0, .int .i64 0]], .one (.bool true)⟩
theorem qu9 : isV pu9.v (eval cfg0 300 X0 (.call pu9.f pu9.args) ⟨.nil, 0⟩) = true := by decide +kernel
noncomputable def pu10 : SumE := ⟨149, [.agg [.int .i64 1, .int .i64 8, .int .i64 0, .int .u64 0, .int .i64 0, .int .i64 0, .int .i64 0, .int .i64 0]], .one (.bool true)⟩
theorem qu10 : isV pu10.v (eval cfg0 300 X0 (.call pu10.f pu10.args) ⟨.nil, 0⟩) = true := by decide +kernel
noncomputable def pu11 : SumE := ⟨149, [.agg [.int .i64 2, .int .i64 2, .int .i64 0, .int .u64 0, .int .i64 0, .int .i64 8, .int .i64 0, .int .i64 0]], .one (.bool true)⟩
theorem qu11 : isV pu11.v (eval cfg0 300 X0 (.call pu11.f pu11.args) ⟨.nil, 0⟩) = true := by decide +kernel
noncomputable def pu12 : SumE := ⟨149, [.agg [.int .i64 3, .int .i64 11, .int .i64 1, .int .u64 0, .int .i64 0, .int .i64 0, .int .i64 0, .int .i64 0]], .one (.bool true)⟩
theorem qu12 : isV pu12.v (eval cfg0 300 X0 (.call pu12.f pu12.args) ⟨.nil, 0⟩) = true := by decide +kernel
noncomputable def pu13 : SumE := ⟨149, [.agg [.int .i64 3, .int .i64 11, .int .i64 2, .int .u64 0, .int .i64 0, .int .i64 0, .int .i64 0, .int .i64 0]], .one (.bool true)⟩
theorem qu13 : isV pu13.v (eval cfg0 300 X0 (.call pu13.f pu13.args) ⟨.nil, 0⟩) = true := by decide +kernel
noncomputable def pu14 : SumE := ⟨149, [.agg [.int .i64 3, .int .i64 11, .int .i64 3, .int .u64 0, .int .i64 0, .int .i64 0, .int .i64 0, .int .i64 0]], .one (.bool true)⟩
theorem qu14 : isV pu14.v (eval cfg0 300 X0 (.call pu14.f pu14.args) ⟨.nil, 0⟩) = true := by decide +kernel
noncomputable def pu15 : SumE := ⟨149, [.agg [.int .i64 4, .int .i64 10, .int .i64 0, .int .u64 0, .int .i64 0, .int .i64 0, .int .i64 0, .int .i64 0]], .one (.bool true)⟩
theorem qu15 : isV pu15.v (eval cfg0 300 X0 (.call pu15.f pu15.args) ⟨.nil, 0⟩) = true := by decide +kernel
noncomputable def pu16 : SumE := ⟨149, [.agg [.int .i64 4, .int .i64 72, .int .i64 0, .int .u64 0, .int .i64 0, .int .i64 0, .int .i64 0, .int .i64 0]], .one (.bool true)⟩
theorem qu16 : isV pu16.v (eval cfg0 300 X0 (.call pu16.f pu16.args) ⟨.nil, 0⟩) = true := by decide +kernel
noncomputable def pu17 : SumE := ⟨149, [.agg [.int .i64 4, .int .i64 9, .int .i64 0, .int .u64 0, .int .i64 0, .int .i64 0, .int .i64 0, .int .i64 0]], .one (.bool true)⟩
theorem qu17 : isV pu17.v (eval cfg0 300 X0 (.call pu17.f pu17.args) ⟨.nil, 0⟩) = true := by decide +kernel
noncomputable def pu18 : SumE := ⟨149, [.agg [.int .i64 5, .int .i64 6, .int .i64 0, .int .u64 0, .int .i64 0, .int .i64 0, .int .i64 0, .int .i64 0]], .one (.bool true)⟩
theorem qu18 : isV pu18.v (eval cfg0 300 X0 (.call pu18.f pu18.args) ⟨.nil, 0⟩) = true := by decide +kernel
noncomputable def pu19 : SumE := ⟨149, [.agg [.int .i64 6, .int .i64 7, .int .i64 0, .int .u64 0, .int .i64 0, .int .i64 0, .int .i64 0, .int .i64 0]], .one (.bool true)⟩
theorem qu19 : isV pu19.v (eval cfg0 300 X0 (.call pu19.f pu19.args) ⟨.nil, 0⟩) = true := by decide +kernel
noncomputable def pu20 : SumE := ⟨149, [.agg [.int .i64 7, .int .i64 0, .int .i64 0, .int .u64 0, .int .i64 0, .int .i64 0, .int .i64 0, .int .i64 0]], .one (.bool true)⟩
theorem qu20 : isV pu20.v (eval cfg0 300 X0 (.call pu20.f pu20.args) ⟨.nil, 0⟩) = true := by decide +kernel
noncomputable def pu21 : SumE := ⟨149, [.agg [.int .i64 9, .int .i64 1, .int .i64 0, .int .u64 0, .int .i64 0, .int .i64 0, .int .i64 0, .int .i64 0]], .one (.bool true)⟩
theorem qu21 : isV pu21.v (eval cfg0 300 X0 (.call pu21.f pu21.args) ⟨.nil, 0⟩) = true := by decide +kernel
noncomputable def pu22 : SumE := ⟨213, [.one (.int .u64 1), .one (.int .i64 12)], .one (.bool true)⟩
theorem qu22 : isV pu22.v (eval cfg0 300 X0 (.call pu22.f pu22.args) ⟨.nil, 0⟩) = true := by decide +kernel
noncomputable def pu23 : SumE := ⟨213, [.one (.int .u64 10), .one (.int .i64 12)], .one (.bool true)⟩
theorem qu23 : isV pu23.v (eval cfg0 300 X0 (.call pu23.f pu23.args) ⟨.nil, 0⟩) = true := by decide +kernel
noncomputable def pu24 : SumE := ⟨213, [.one (.int .u64 11), .one (.int .i64 12)], .one (.bool true)⟩
theorem qu24 : isV pu24.v (eval cfg0 300 X0 (.call pu24.f pu24.args) ⟨.nil, 0⟩) = true := by decide +kernel
noncomputable def pu25 : SumE := ⟨213, [.one (.int .u64 12), .one (.int .i64 12)], .one (.bool true)⟩
theorem qu25 : isV pu25.v (eval cfg0 300 X0 (.call pu25.f pu25.args) ⟨.nil, 0⟩) = true := by decide +kernel
noncomputable def pu26 : SumE := ⟨213, [.one (.int .u64 3), .one (.int .i64 12)], .one (.bool true)⟩
theorem qu26 : isV pu26.v (eval cfg0 300 X0 (.call pu26.f pu26.args) ⟨.nil, 0⟩) = true := by decide +kernel
noncomputable def pu27 : SumE := ⟨213, [.one (.int .u64 4), .one (.int .i64 12)], .one (.bool true)⟩
theorem qu27 : isV pu27.v (eval cfg0 300 X0 (.call pu27.f pu27.args) ⟨.nil, 0⟩) = true := by decide +kernel
noncomputable def pu28 : SumE := ⟨213, [.one (.int .u64 8), .one (.int .i64 12)], .one (.bool true)⟩
theorem qu28 : isV pu28.v (eval cfg0 300 X0 (.call pu28.f pu28.args) ⟨.nil, 0⟩) = true := by decide +kernel
noncomputable def pu29 : SumE := ⟨213, [.one (.int .u64 9), .one (.int .i64 12)], .one (.bool true)⟩
theorem qu29 : isV pu29.v (eval cfg0 300 X0 (.call pu29.f pu29.args) ⟨.nil, 0⟩) = true := by decide +kernel
noncomputable def pu30 : SumE := ⟨263, [.agg [.bool true, .bool false, .bool false, .bool false, .int .i64 7]], .tup [.one (.int .u64 1793), .one (.int .i64 0)]⟩
theorem qu30 : isV pu30.v (eval cfg0 300 X0 (.call pu30.f pu30.args) ⟨.nil, 0⟩) = true := by decide +kernel
noncomputable def pu31 : SumE := ⟨263, [.agg [.bool true, .bool false, .bool false, .bool false, .int .i64 8]], .tup [.one (.int .u64 2049), .one (.int .i64 0)]⟩
theorem qu31 : isV pu31.v (eval cfg0 300 X0 (.call pu31.f pu31.args) ⟨.nil, 0⟩) = true := by decide +kernel
noncomputable def pu32 : SumE := ⟨263, [.agg [.bool true, .bool false, .bool false, .bool false, .int .i64 9]], .tup [.one (.int .u64 2305), .one (.int .i64 0)]⟩
theorem qu32 : isV pu32.v (eval cfg0 300 X0 (.call pu32.f pu32.args) ⟨.nil, 0⟩) = true := by decide +kernel
noncomputable def pu33 : SumE := ⟨263, [.agg [.bool true, .bool true, .bool false, .bool true, .int .i64 10]], .tup [.one (.int .u64 2571), .one (.int .i64 0)]⟩
theorem qu33 : isV pu33.v (eval cfg0 300 X0 (.call pu33.f pu33.args) ⟨.nil, 0⟩) = true := by decide +kernel
noncomputable def pu34 : SumE := ⟨263, [.agg [.bool true, .bool true, .bool true, .bool false, .int .i64 10]], .tup [.one (.int .u64 2567), .one (.int .i64 0)]⟩
theorem qu34 : isV pu34.v (eval cfg0 300 X0 (.call pu34.f pu34.args) ⟨.nil, 0⟩) = true := by decide +kernel
noncomputable def pu35 : SumE := ⟨263, [.agg [.bool true, .bool true, .bool true, .bool true, .int .i64 10]], .tup [.one (.int .u64 2575), .one (.int .i64 0)]⟩
theorem qu35 : isV pu35.v (eval cfg0 300 X0 (.call pu35.f pu35.args) ⟨.nil, 0⟩) = true := by decide +kernel
noncomputable def pu36 : SumE := ⟨310, [.one (.int .u64 0)], .tup [.agg [.bool false, .bool false, .bool false, .bool false, .int .i64 0], .one (.int .i64 0)]⟩
theorem qu36 : isV pu36.v (eval cfg0 300 X0 (.call pu36.f pu36.args) ⟨.nil, 0⟩) = true := by decide +kernel
noncomputable def pu37 : SumE := ⟨310, [.one (.int .u64 1793)], .tup [.agg [.bool true, .bool false, .bool false, .bool false, .int .i64 7], .one (.int .i64 0)]⟩
theorem qu37 : isV pu37.v (eval cfg0 300 X0 (.call pu37.f pu37.args) ⟨.nil, 0⟩) = true := by decide +kernel
noncomputable def pu38 : SumE := ⟨310, [.one (.int .u64 2049)], .tup [.agg [.bool true, .bool false, .bool false, .bool false, .int .i64 8], .one (.int .i64 0)]⟩
theorem qu38 : isV pu38.v (eval cfg0 300 X0 (.call pu38.f pu38.args) ⟨.nil, 0⟩) = true := by decide +kernel
noncomputable def pu39 : SumE := ⟨310, [.one (.int .u64 2305)], .tup [.agg [.bool true, .bool false, .bool false, .bool false, .int .i64 9], .one (.int .i64 0)]⟩
theorem qu39 : isV pu39.v (eval cfg0 300 X0 (.call pu39.f pu39.args) ⟨.nil, 0⟩) = true := by decide +kernel
noncomputable def pu40 : SumE := ⟨310, [.one (.int .u64 2567)], .tup [.agg [.bool true, .bool true, .bool true, .bool false, .int .i64 10], .one (.int .i64 0)]⟩
theorem qu40 : isV pu40.v (eval cfg0 300 X0 (.call pu40.f pu40.args) ⟨.nil, 0⟩) = true := by decide +kernel
noncomputable def pu41 : SumE := ⟨310, [.one (.int .u64 2571)], .tup [.agg [.bool true, .bool true, .bool false, .bool true, .int .i64 10], .one (.int .i64 0)]⟩
theorem qu41 : isV pu41.v (eval cfg0 300 X0 (.call pu41.f pu41.args) ⟨.nil, 0⟩) = true := by decide +kernel
noncomputable def pu42 : SumE := ⟨310, [.one (.int .u64 2575)], .tup [.agg [.bool true, .bool true, .bool true, .bool true, .int .i64 10], .one (.int .i64 0)]⟩
theorem qu42 : isV pu42.v (eval cfg0 300 X0 (.call pu42.f pu42.args) ⟨.nil, 0⟩) = true := by decide +kernel
noncomputable def pu43 : SumE := ⟨70, [.agg [.int .u64 1, .int .u64 3, .int .u64 3, .int .u64 0, .int .u64 1, .int .u64 11, .int .u64 1]], .tup [.agg [.int .i64 1, .int .i64 3, .int .i64 1, .int .i64 0, .int .i64 3, .int .i64 0, .int .i64 27, .int .u64 0, .int .u64 0, .int .u64 0, .int .u64 0, .int .u64 0], .one (.int .i64 0)]⟩
theorem qu43 : isV pu43.v (eval cfg0 300 X0 (.call pu43.f pu43.args) ⟨.nil, 0⟩) = true := by decide +kernel
noncomputable def pu44 : SumE := ⟨70, [.agg [.int .u64 1, .int .u64 3, .int .u64 4, .int .u64 0, .int .u64 1, .int .u64 10, .int .u64 1]], .tup [.agg [.int .i64 1, .int .i64 3, .int .i64 1, .int .i64 0, .int .i64 4, .int .i64 0, .int .i64 26, .int .u64 0, .int .u64 0, .int .u64 0, .int .u64 0, .int .u64 0], .one (.int .i64 0)]⟩
theorem qu44 : isV pu44.v (eval cfg0 300 X0 (.call pu44.f pu44.args) ⟨.nil, 0⟩) = true := by decide +kernel
noncomputable def pu45 : SumE := ⟨70, [.agg [.int .u64 1, .int .u64 3, .int .u64 4, .int .u64 0, .int .u64 1, .int .u64 8, .int .u64 2]], .tup [.agg [.int .i64 1, .int .i64 3, .int .i64 1, .int .i64 0, .int .i64 4, .int .i64 0, .int .i64 40, .int .u64 0, .int .u64 0, .int .u64 0, .int .u64 0, .int .u64 0], .one (.int .i64 0)]⟩
theorem qu45 : isV pu45.v (eval cfg0 300 X0 (.call pu45.f pu45.args) ⟨.nil, 0⟩) = true := by decide +kernel
noncomputable def pu46 : SumE := ⟨70, [.agg [.int .u64 2, .int .u64 11, .int .u64 12, .int .u64 1, .int .u64 0, .int .u64 0, .int .u64 0]], .tup [.agg [.int .i64 2, .int .i64 11, .int .i64 12, .int .i64 0, .int .i64 1, .int .i64 0, .int .i64 0, .int .u64 0, .int .u64 0, .int .u64 0, .int .u64 0, .int .u64 0], .one (.int .i64 0)]⟩
theorem qu46 : isV pu46.v (eval cfg0 300 X0 (.call pu46.f pu46.args) ⟨.nil, 0⟩) = true := by decide +kernel
noncomputable def pu47 : SumE := ⟨70, [.agg [.int .u64 2, .int .u64 11, .int .u64 12, .int .u64 2, .int .u64 0, .int .u64 0, .int .u64 0]], .tup [.agg [.int .i64 2, .int .i64 11, .int .i64 12, .int .i64 0, .int .i64 2, .int .i64 0, .int .i64 0, .int .u64 0, .int .u64 0, .int .u64 0, .int .u64 0, .int .u64 0], .one (.int .i64 0)]⟩
theorem qu47 : isV pu47.v (eval cfg0 300 X0 (.call pu47.f pu47.args) ⟨.nil, 0⟩) = true := by decide +kernel
noncomputable def pu48 : SumE := ⟨70, [.agg [.int .u64 2, .int .u64 11, .int .u64 12, .int .u64 3, .int .u64 0, .int .u64 0, .int .u64 0]], .tup [.agg [.int .i64 2, .int .i64 11, .int .i64 12, .int .i64 0, .int .i64 3, .int .i64 0, .int .i64 0, .int .u64 0, .int .u64 0, .int .u64 0, .int .u64 0, .int .u64 0], .one (.int .i64 0)]⟩
theorem qu48 : isV pu48.v (eval cfg0 300 X0 (.call pu48.f pu48.args) ⟨.nil, 0⟩) = true := by decide +kernel
noncomputable def pu49 : SumE := ⟨70, [.agg [.int .u64 6, .int .u64 11, .int .u64 0, .int .u64 0, .int .u64 0, .int .u64 0, .int .u64 0]], .tup [.agg [.int .i64 6, .int .i64 11, .int .i64 0, .int .i64 0, .int .i64 0, .int .i64 0, .int .i64 0, .int .u64 0, .int .u64 0, .int .u64 0, .int .u64 0, .int .u64 0], .one (.int .i64 0)]⟩
theorem qu49 : isV pu49.v (eval cfg0 300 X0 (.call pu49.f pu49.args) ⟨.nil, 0⟩) = true := by decide +kernel
noncomputable def pu50 : SumE := ⟨70, [.agg [.int .u64 6, .int .u64 12, .int .u64 0, .int .u64 0, .int .u64 0, .int .u64 0, .int .u64 0]], .tup [.agg [.int .i64 6, .int .i64 12, .int .i64 0, .int .i64 0, .int .i64 0, .int .i64 0, .int .i64 0, .int .u64 0, .int .u64 0, .int .u64 0, .int .u64 0, .int .u64 0], .one (.int .i64 0)]⟩
theorem qu50 : isV pu50.v (eval cfg0 300 X0 (.call pu50.f pu50.args) ⟨.nil, 0⟩) = true := by decide +kernel
noncomputable def pu51 : SumE := ⟨70, [.agg [.int .u64 9, .int .u64 9, .int .u64 0, .int .u64 0, .int .u64 0, .int .u64 0, .int .u64 0]], .tup [.agg [.int .i64 9, .int .i64 9, .int .i64 0, .int .i64 0, .int .i64 0, .int .i64 0, .int .i64 0, .int .u64 0, .int .u64 0, .int .u64 0, .int .u64 0, .int .u64 0], .one (.int .i64 0)]⟩
theorem qu51 : isV pu51.v (eval cfg0 300 X0 (.call pu51.f pu51.args) ⟨.nil, 0⟩) = true := by decide +kernel
noncomputable def pus : List SumE := [pu0, pu1, pu2, pu3, pu4, pu5, pu6, pu7, pu8, pu9, pu10, pu11, pu12, pu13, pu14, pu15, pu16, pu17, pu18, pu19, pu20, pu21, pu22, pu23, pu24, pu25, pu26, pu27, pu28, pu29, pu30, pu31, pu32, pu33, pu34, pu35, pu36, pu37, pu38, pu39, pu40, pu41, pu42, pu43, pu44, pu45, pu46, pu47, pu48, pu49, pu50, pu51]
theorem pusOK (σ : Sig) (C : Cfg) (hC : C.fu = Tab.fuT.get) : Al (Summ Tryz.prog σ C) pus := (.cons (summV C hC σ pu0 qu0 rfl rfl) (.cons (summV C hC σ pu1 qu1 rfl rfl) (.cons (summV C hC σ pu2 qu2 rfl rfl) (.cons (summV C hC σ pu3 qu3 rfl rfl) (.cons (summV C hC σ pu4 qu4 rfl rfl) (.cons (summV C hC σ pu5 qu5 rfl rfl) (.cons (summV C hC σ pu6 qu6 rfl rfl) (.cons (summV C hC σ pu7 qu7 rfl rfl) (.cons (summV C hC σ pu8 qu8 rfl rfl) (.cons (summV C hC σ pu9 qu9 rfl rfl) (.cons (summV C hC σ pu10 qu10 rfl rfl) (.cons (summV C hC σ pu11 qu11 rfl rfl) (.cons (summV C hC σ pu12 qu12 rfl rfl) (.cons (summV C hC σ pu13 qu13 rfl rfl) (.cons (summV C hC σ pu14 qu14 rfl rfl) (.cons (summV C hC σ pu15 qu15 rfl rfl) (.cons (summV C hC σ pu16 qu16 rfl rfl) (.cons (summV C hC σ pu17 qu17 rfl rfl) (.cons (summV C hC σ pu18 qu18 rfl rfl) (.cons (summV C hC σ pu19 qu19 rfl rfl) (.cons (summV C hC σ pu20 qu20 rfl rfl) (.cons (summV C hC σ pu21 qu21 rfl rfl) (.cons (summV C hC σ pu22 qu22 rfl rfl) (.cons (summV C hC σ pu23 qu23 rfl rfl) (.cons (summV C hC σ pu24 qu24 rfl rfl) (.cons (summV C hC σ pu25 qu25 rfl rfl) (.cons (summV C hC σ pu26 qu26 rfl rfl) (.cons (summV C hC σ pu27 qu27 rfl rfl) (.cons (summV C hC σ pu28 qu28 rfl rfl) (.cons (summV C hC σ pu29 qu29 rfl rfl) (.cons (summV C hC σ pu30 qu30 rfl rfl) (.cons (summV C hC σ pu31 qu31 rfl rfl) (.cons (summV C hC σ pu32 qu32 rfl rfl) (.cons (summV C hC σ pu33 qu33 rfl rfl) (.cons (summV C hC σ pu34 qu34 rfl rfl) (.cons (summV C hC σ pu35 qu35 rfl rfl) (.cons (summV C hC σ pu36 qu36 rfl rfl) (.cons (summV C hC σ pu37 qu37 rfl rfl) (.cons (summV C hC σ pu38 qu38 rfl rfl) (.cons (summV C hC σ pu39 qu39 rfl rfl) (.cons (summV C hC σ pu40 qu40 rfl rfl) (.cons (summV C hC σ pu41 qu41 rfl rfl) (.cons (summV C hC σ pu42 qu42 rfl rfl) (.cons (summV C hC σ pu43 qu43 rfl rfl) (.cons (summV C hC σ pu44 qu44 rfl rfl) (.cons (summV C hC σ pu45 qu45 rfl rfl) (.cons (summV C hC σ pu46 qu46 rfl rfl) (.cons (summV C hC σ pu47 qu47 rfl rfl) (.cons (summV C hC σ pu48 qu48 rfl rfl) (.cons (summV C hC σ pu49 qu49 rfl rfl) (.cons (summV C hC σ pu50 qu50 rfl rfl) (.cons (summV C hC σ pu51 qu51 rfl rfl) .nil))))))))))))))))))))))))))))))))))))))))))))))))))))
end TopA
