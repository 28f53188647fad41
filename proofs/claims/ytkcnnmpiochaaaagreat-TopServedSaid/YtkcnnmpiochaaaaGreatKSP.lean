/- TopServed: answers of calls of which all arguments are numbers, known or not. No conditions beside those in its theorems. -/
import Derived.Test.YtkcnnmpiochaaaaGreatKSF
set_option linter.unusedVariables false
open Go Eng Go.Proofs Go.RowKit
namespace TopS
open Base
noncomputable def cfgQ : Cfg := { ty := Tab.tyT.get, fu := Tab.fuT.get, cmp := cmpT lC, norm := normT lN, ext := fun _ _ _ => none, pa := fun f => Nat.beq f 172 }
theorem okQ {a0 a1 a2 v x0 x1 x2 x3 x4 x5 x6 n o : Int} (h : Is v n o) : CfgOK Tryz.prog cfgQ (sg a0 a1 a2 v x0 x1 x2 x3 x4 x5 x6 n o) :=
  have k := ok (cmpT lC) (fun _ _ _ => none) (normT lN) (sg a0 a1 a2 v x0 x1 x2 x3 x4 x5 x6 n o) (cmpT_ok (okC h)) (normT_ok (okN h))
  ⟨k.ty, k.fu, k.cmp, k.norm, k.mixed⟩
noncomputable def isV (v : AV) (r : OR) : Bool := match r with | some (.val x _) => AV.eqb x v | _ => false
theorem isV_some {v : AV} {r : OR} (h : isV v r = true) : ∃ h', r = some (.val v h') := by
  unfold isV at h
  split at h
  · rename_i x h'; exact ⟨h', by rw [AV.eqb_eq h]⟩
  · cases h
theorem summV {a0 a1 a2 v x0 x1 x2 x3 x4 x5 x6 n o : Int} (h : Is v n o) (C : Cfg) (hC : C.fu = Tab.fuT.get) (s : SumE) (hk : isV s.v (eval cfgQ 300 X0 (.call s.f s.args) ⟨.nil, 0⟩) = true) (hp : plainAV s.v = true) (ha : s.args.all plainAV = true) : Summ Tryz.prog (sg a0 a1 a2 v x0 x1 x2 x3 x4 x5 x6 n o) C s := by
  obtain ⟨h', hk'⟩ := isV_some hk
  exact Summ.of (C := cfgQ) hC.symm (okQ h) (fun _ _ _ _ _ h => nomatch h) hk' hp ha
noncomputable def pu0 : SumE := ⟨121, [.agg [.int .i64 1, .int .i64 3, .int .i64 1, .int .i64 0, .int .i64 3, .int .i64 0, .int .i64 28, .int .u64 0, .int .u64 0, .int .u64 0, .int .u64 0, .int .u64 0]], .tup [.agg [.int .u64 1, .int .u64 3, .int .u64 3, .int .u64 0, .int .u64 1, .int .u64 12, .int .u64 1], .one (.int .i64 0)]⟩
theorem qu0 : isV pu0.v (eval cfgQ 300 X0 (.call pu0.f pu0.args) ⟨.nil, 0⟩) = true := by decide +kernel
noncomputable def pu1 : SumE := ⟨121, [.agg [.int .i64 1, .int .i64 3, .int .i64 1, .int .i64 0, .int .i64 4, .int .i64 0, .int .i64 42, .int .u64 0, .int .u64 0, .int .u64 0, .int .u64 0, .int .u64 0]], .tup [.agg [.int .u64 1, .int .u64 3, .int .u64 4, .int .u64 0, .int .u64 1, .int .u64 10, .int .u64 2], .one (.int .i64 0)]⟩
theorem qu1 : isV pu1.v (eval cfgQ 300 X0 (.call pu1.f pu1.args) ⟨.nil, 0⟩) = true := by decide +kernel
noncomputable def pu2 : SumE := ⟨121, [.agg [.int .i64 10, .int .i64 12, .int .i64 9, .int .i64 0, .int .i64 1, .int .i64 0, .int .i64 0, .sym .u64 (.conv .u64 (.bin .mul .i64 (.lit 64) (.var 10))), .int .u64 0, .int .u64 0, .int .u64 0, .int .u64 0]], .tup [.agg [.int .u64 10, .int .u64 12, .int .u64 9, .sym .u64 (.conv .u64 (.bin .mul .i64 (.lit 64) (.var 10))), .int .u64 1, .int .u64 0, .int .u64 0], .one (.int .i64 0)]⟩
theorem qu2 : isV pu2.v (eval cfgQ 300 X0 (.call pu2.f pu2.args) ⟨.nil, 0⟩) = true := by decide +kernel
noncomputable def pu3 : SumE := ⟨121, [.agg [.int .i64 10, .int .i64 12, .int .i64 9, .int .i64 0, .int .i64 2, .int .i64 0, .int .i64 0, .sym .u64 (.conv .u64 (.bin .mul .i64 (.lit 64) (.var 10))), .int .u64 0, .int .u64 0, .int .u64 0, .int .u64 0]], .tup [.agg [.int .u64 10, .int .u64 12, .int .u64 9, .sym .u64 (.conv .u64 (.bin .mul .i64 (.lit 64) (.var 10))), .int .u64 2, .int .u64 0, .int .u64 0], .one (.int .i64 0)]⟩
theorem qu3 : isV pu3.v (eval cfgQ 300 X0 (.call pu3.f pu3.args) ⟨.nil, 0⟩) = true := by decide +kernel
noncomputable def pu4 : SumE := ⟨121, [.agg [.int .i64 10, .int .i64 12, .int .i64 9, .int .i64 0, .int .i64 3, .int .i64 0, .int .i64 0, .sym .u64 (.conv .u64 (.bin .mul .i64 (.lit 64) (.var 10))), .int .u64 0, .int .u64 0, .int .u64 0, .int .u64 0]], .tup [.agg [.int .u64 10, .int .u64 12, .int .u64 9, .sym .u64 (.conv .u64 (.bin .mul .i64 (.lit 64) (.var 10))), .int .u64 3, .int .u64 0, .int .u64 0], .one (.int .i64 0)]⟩
theorem qu4 : isV pu4.v (eval cfgQ 300 X0 (.call pu4.f pu4.args) ⟨.nil, 0⟩) = true := by decide +kernel
noncomputable def pu5 : SumE := ⟨121, [.agg [.int .i64 16, .int .i64 7, .int .i64 0, .int .i64 0, .int .i64 4096, .int .i64 0, .int .i64 0, .int .u64 0, .int .u64 0, .int .u64 0, .int .u64 0, .int .u64 0]], .tup [.agg [.int .u64 16, .int .u64 7, .int .u64 4096, .int .u64 0, .int .u64 0, .int .u64 0, .int .u64 0], .one (.int .i64 0)]⟩
theorem qu5 : isV pu5.v (eval cfgQ 300 X0 (.call pu5.f pu5.args) ⟨.nil, 0⟩) = true := by decide +kernel
noncomputable def pu6 : SumE := ⟨121, [.agg [.int .i64 16, .int .i64 7, .int .i64 0, .int .i64 0, .int .i64 9, .int .i64 0, .int .i64 0, .int .u64 0, .int .u64 0, .int .u64 0, .int .u64 0, .int .u64 0]], .tup [.agg [.int .u64 16, .int .u64 7, .int .u64 9, .int .u64 0, .int .u64 0, .int .u64 0, .int .u64 0], .one (.int .i64 0)]⟩
theorem qu6 : isV pu6.v (eval cfgQ 300 X0 (.call pu6.f pu6.args) ⟨.nil, 0⟩) = true := by decide +kernel
noncomputable def pu7 : SumE := ⟨121, [.agg [.int .i64 17, .int .i64 0, .int .i64 0, .int .i64 0, .int .i64 0, .int .i64 0, .int .i64 0, .int .u64 0, .sym .u64 (.var 4), .int .u64 0, .int .u64 0, .int .u64 0]], .tup [.agg [.int .u64 17, .sym .u64 (.var 4), .int .u64 0, .int .u64 0, .int .u64 0, .int .u64 0, .int .u64 0], .one (.int .i64 0)]⟩
theorem qu7 : isV pu7.v (eval cfgQ 300 X0 (.call pu7.f pu7.args) ⟨.nil, 0⟩) = true := by decide +kernel
noncomputable def pu8 : SumE := ⟨121, [.agg [.int .i64 8, .int .i64 10, .int .i64 9, .int .i64 0, .int .i64 0, .int .i64 0, .int .i64 0, .sym .u64 (.conv .u64 (.bin .mul .i64 (.lit 64) (.var 10))), .int .u64 0, .int .u64 0, .int .u64 0, .int .u64 0]], .tup [.agg [.int .u64 8, .int .u64 10, .int .u64 9, .sym .u64 (.conv .u64 (.bin .mul .i64 (.lit 64) (.var 10))), .int .u64 0, .int .u64 0, .int .u64 0], .one (.int .i64 0)]⟩
theorem qu8 : isV pu8.v (eval cfgQ 300 X0 (.call pu8.f pu8.args) ⟨.nil, 0⟩) = true := by decide +kernel
noncomputable def pu9 : SumE := ⟨121, [.agg [.int .i64 8, .int .i64 11, .int .i64 9, .int .i64 0, .int .i64 0, .int .i64 0, .int .i64 0, .sym .u64 (.conv .u64 (.bin .mul .i64 (.lit 64) (.var 10))), .int .u64 0, .int .u64 0, .int .u64 0, .int .u64 0]], .tup [.agg [.int .u64 8, .int .u64 11, .int .u64 9, .sym .u64 (.conv .u64 (.bin .mul .i64 (.lit 64) (.var 10))), .int .u64 0, .int .u64 0, .int .u64 0], .one (.int .i64 0)]⟩
theorem qu9 : isV pu9.v (eval cfgQ 300 X0 (.call pu9.f pu9.args) ⟨.nil, 0⟩) = true := by decide +kernel
noncomputable def pu10 : SumE := ⟨149, [.agg [.int .i64 2, .int .i64 2, .int .i64 0, .int .u64 0, .int .i64 0, .int .i64 8, .int .i64 0, .int .i64 0]], .one (.bool true)⟩
theorem qu10 : isV pu10.v (eval cfgQ 300 X0 (.call pu10.f pu10.args) ⟨.nil, 0⟩) = true := by decide +kernel
noncomputable def pu11 : SumE := ⟨149, [.agg [.int .i64 2, .int .i64 9, .int .i64 0, .int .u64 0, .int .i64 0, .int .i64 8, .int .i64 0, .int .i64 0]], .one (.bool true)⟩
theorem qu11 : isV pu11.v (eval cfgQ 300 X0 (.call pu11.f pu11.args) ⟨.nil, 0⟩) = true := by decide +kernel
noncomputable def pu12 : SumE := ⟨149, [.agg [.int .i64 3, .int .i64 18, .int .i64 3, .int .u64 0, .int .i64 0, .int .i64 0, .int .i64 0, .int .i64 0]], .one (.bool true)⟩
theorem qu12 : isV pu12.v (eval cfgQ 300 X0 (.call pu12.f pu12.args) ⟨.nil, 0⟩) = true := by decide +kernel
noncomputable def pu13 : SumE := ⟨149, [.agg [.int .i64 3, .int .i64 18, .int .i64 3, .int .u64 0, .int .i64 0, .int .i64 0, .int .i64 4, .sym .i64 (.conv .i64 (.bin .quo .u64 (.conv .u64 (.bin .mul .i64 (.lit 64) (.var 10))) (.lit 64)))]], .one (.bool true)⟩
theorem qu13 : isV pu13.v (eval cfgQ 300 X0 (.call pu13.f pu13.args) ⟨.nil, 0⟩) = true := by decide +kernel
noncomputable def pu14 : SumE := ⟨149, [.agg [.int .i64 4, .int .i64 17, .int .i64 0, .int .u64 0, .int .i64 0, .int .i64 0, .int .i64 0, .int .i64 0]], .one (.bool true)⟩
theorem qu14 : isV pu14.v (eval cfgQ 300 X0 (.call pu14.f pu14.args) ⟨.nil, 0⟩) = true := by decide +kernel
noncomputable def pu15 : SumE := ⟨149, [.agg [.int .i64 4, .int .i64 80, .int .i64 0, .int .u64 0, .int .i64 0, .int .i64 0, .int .i64 0, .int .i64 0]], .one (.bool true)⟩
theorem qu15 : isV pu15.v (eval cfgQ 300 X0 (.call pu15.f pu15.args) ⟨.nil, 0⟩) = true := by decide +kernel
noncomputable def pu16 : SumE := ⟨149, [.agg [.int .i64 5, .int .i64 13, .int .i64 0, .int .u64 0, .int .i64 0, .int .i64 0, .int .i64 0, .int .i64 0]], .one (.bool true)⟩
theorem qu16 : isV pu16.v (eval cfgQ 300 X0 (.call pu16.f pu16.args) ⟨.nil, 0⟩) = true := by decide +kernel
noncomputable def pu17 : SumE := ⟨207, [.one (.int .i64 15), .one (.int .i64 1), .one (.int .i64 0), .one (.int .i64 1)], .one (.bool false)⟩
theorem qu17 : isV pu17.v (eval cfgQ 300 X0 (.call pu17.f pu17.args) ⟨.nil, 0⟩) = true := by decide +kernel
noncomputable def pu18 : SumE := ⟨207, [.one (.int .i64 15), .one (.int .i64 1), .one (.int .i64 1), .one (.int .i64 4)], .one (.bool false)⟩
theorem qu18 : isV pu18.v (eval cfgQ 300 X0 (.call pu18.f pu18.args) ⟨.nil, 0⟩) = true := by decide +kernel
noncomputable def pu19 : SumE := ⟨207, [.one (.int .i64 15), .one (.int .i64 1), .one (.int .i64 12), .one (.int .i64 1)], .one (.bool false)⟩
theorem qu19 : isV pu19.v (eval cfgQ 300 X0 (.call pu19.f pu19.args) ⟨.nil, 0⟩) = true := by decide +kernel
noncomputable def pu20 : SumE := ⟨207, [.one (.int .i64 15), .one (.int .i64 1), .one (.int .i64 13), .one (.int .i64 1)], .one (.bool false)⟩
theorem qu20 : isV pu20.v (eval cfgQ 300 X0 (.call pu20.f pu20.args) ⟨.nil, 0⟩) = true := by decide +kernel
noncomputable def pu21 : SumE := ⟨207, [.one (.int .i64 15), .one (.int .i64 1), .one (.int .i64 14), .one (.int .i64 1)], .one (.bool false)⟩
theorem qu21 : isV pu21.v (eval cfgQ 300 X0 (.call pu21.f pu21.args) ⟨.nil, 0⟩) = true := by decide +kernel
noncomputable def pu22 : SumE := ⟨207, [.one (.int .i64 15), .one (.int .i64 1), .one (.int .i64 15), .one (.int .i64 24)], .one (.bool true)⟩
theorem qu22 : isV pu22.v (eval cfgQ 300 X0 (.call pu22.f pu22.args) ⟨.nil, 0⟩) = true := by decide +kernel
noncomputable def pu23 : SumE := ⟨207, [.one (.int .i64 15), .one (.int .i64 1), .one (.int .i64 39), .one (.int .i64 24)], .one (.bool false)⟩
theorem qu23 : isV pu23.v (eval cfgQ 300 X0 (.call pu23.f pu23.args) ⟨.nil, 0⟩) = true := by decide +kernel
noncomputable def pu24 : SumE := ⟨207, [.one (.int .i64 15), .one (.int .i64 1), .one (.int .i64 5), .one (.int .i64 1)], .one (.bool false)⟩
theorem qu24 : isV pu24.v (eval cfgQ 300 X0 (.call pu24.f pu24.args) ⟨.nil, 0⟩) = true := by decide +kernel
noncomputable def pu25 : SumE := ⟨207, [.one (.int .i64 15), .one (.int .i64 1), .one (.int .i64 6), .one (.int .i64 1)], .one (.bool false)⟩
theorem qu25 : isV pu25.v (eval cfgQ 300 X0 (.call pu25.f pu25.args) ⟨.nil, 0⟩) = true := by decide +kernel
noncomputable def pu26 : SumE := ⟨207, [.one (.int .i64 15), .one (.int .i64 1), .one (.int .i64 7), .one (.int .i64 1)], .one (.bool false)⟩
theorem qu26 : isV pu26.v (eval cfgQ 300 X0 (.call pu26.f pu26.args) ⟨.nil, 0⟩) = true := by decide +kernel
noncomputable def pu27 : SumE := ⟨207, [.one (.int .i64 15), .one (.int .i64 1), .one (.int .i64 8), .one (.int .i64 4)], .one (.bool false)⟩
theorem qu27 : isV pu27.v (eval cfgQ 300 X0 (.call pu27.f pu27.args) ⟨.nil, 0⟩) = true := by decide +kernel
noncomputable def pu28 : SumE := ⟨207, [.one (.int .i64 16), .one (.int .i64 1), .one (.int .i64 0), .one (.int .i64 1)], .one (.bool false)⟩
theorem qu28 : isV pu28.v (eval cfgQ 300 X0 (.call pu28.f pu28.args) ⟨.nil, 0⟩) = true := by decide +kernel
noncomputable def pu29 : SumE := ⟨207, [.one (.int .i64 16), .one (.int .i64 1), .one (.int .i64 1), .one (.int .i64 4)], .one (.bool false)⟩
theorem qu29 : isV pu29.v (eval cfgQ 300 X0 (.call pu29.f pu29.args) ⟨.nil, 0⟩) = true := by decide +kernel
noncomputable def pu30 : SumE := ⟨207, [.one (.int .i64 16), .one (.int .i64 1), .one (.int .i64 12), .one (.int .i64 1)], .one (.bool false)⟩
theorem qu30 : isV pu30.v (eval cfgQ 300 X0 (.call pu30.f pu30.args) ⟨.nil, 0⟩) = true := by decide +kernel
noncomputable def pu31 : SumE := ⟨207, [.one (.int .i64 16), .one (.int .i64 1), .one (.int .i64 13), .one (.int .i64 1)], .one (.bool false)⟩
theorem qu31 : isV pu31.v (eval cfgQ 300 X0 (.call pu31.f pu31.args) ⟨.nil, 0⟩) = true := by decide +kernel
noncomputable def pu32 : SumE := ⟨207, [.one (.int .i64 16), .one (.int .i64 1), .one (.int .i64 14), .one (.int .i64 1)], .one (.bool false)⟩
theorem qu32 : isV pu32.v (eval cfgQ 300 X0 (.call pu32.f pu32.args) ⟨.nil, 0⟩) = true := by decide +kernel
noncomputable def pu33 : SumE := ⟨207, [.one (.int .i64 16), .one (.int .i64 1), .one (.int .i64 15), .one (.int .i64 1)], .one (.bool false)⟩
theorem qu33 : isV pu33.v (eval cfgQ 300 X0 (.call pu33.f pu33.args) ⟨.nil, 0⟩) = true := by decide +kernel
noncomputable def pu34 : SumE := ⟨207, [.one (.int .i64 16), .one (.int .i64 1), .one (.int .i64 15), .one (.int .i64 24)], .one (.bool true)⟩
theorem qu34 : isV pu34.v (eval cfgQ 300 X0 (.call pu34.f pu34.args) ⟨.nil, 0⟩) = true := by decide +kernel
noncomputable def pu35 : SumE := ⟨207, [.one (.int .i64 16), .one (.int .i64 1), .one (.int .i64 39), .one (.int .i64 24)], .one (.bool false)⟩
theorem qu35 : isV pu35.v (eval cfgQ 300 X0 (.call pu35.f pu35.args) ⟨.nil, 0⟩) = true := by decide +kernel
noncomputable def pu36 : SumE := ⟨207, [.one (.int .i64 16), .one (.int .i64 1), .one (.int .i64 5), .one (.int .i64 1)], .one (.bool false)⟩
theorem qu36 : isV pu36.v (eval cfgQ 300 X0 (.call pu36.f pu36.args) ⟨.nil, 0⟩) = true := by decide +kernel
noncomputable def pu37 : SumE := ⟨207, [.one (.int .i64 16), .one (.int .i64 1), .one (.int .i64 6), .one (.int .i64 1)], .one (.bool false)⟩
theorem qu37 : isV pu37.v (eval cfgQ 300 X0 (.call pu37.f pu37.args) ⟨.nil, 0⟩) = true := by decide +kernel
noncomputable def pu38 : SumE := ⟨207, [.one (.int .i64 16), .one (.int .i64 1), .one (.int .i64 7), .one (.int .i64 1)], .one (.bool false)⟩
theorem qu38 : isV pu38.v (eval cfgQ 300 X0 (.call pu38.f pu38.args) ⟨.nil, 0⟩) = true := by decide +kernel
noncomputable def pu39 : SumE := ⟨207, [.one (.int .i64 16), .one (.int .i64 1), .one (.int .i64 8), .one (.int .i64 4)], .one (.bool false)⟩
theorem qu39 : isV pu39.v (eval cfgQ 300 X0 (.call pu39.f pu39.args) ⟨.nil, 0⟩) = true := by decide +kernel
noncomputable def pu40 : SumE := ⟨207, [.one (.int .i64 17), .one (.int .i64 1), .one (.int .i64 0), .one (.int .i64 1)], .one (.bool false)⟩
theorem qu40 : isV pu40.v (eval cfgQ 300 X0 (.call pu40.f pu40.args) ⟨.nil, 0⟩) = true := by decide +kernel
noncomputable def pu41 : SumE := ⟨207, [.one (.int .i64 17), .one (.int .i64 1), .one (.int .i64 1), .one (.int .i64 4)], .one (.bool false)⟩
theorem qu41 : isV pu41.v (eval cfgQ 300 X0 (.call pu41.f pu41.args) ⟨.nil, 0⟩) = true := by decide +kernel
noncomputable def pu42 : SumE := ⟨207, [.one (.int .i64 17), .one (.int .i64 1), .one (.int .i64 12), .one (.int .i64 1)], .one (.bool false)⟩
theorem qu42 : isV pu42.v (eval cfgQ 300 X0 (.call pu42.f pu42.args) ⟨.nil, 0⟩) = true := by decide +kernel
noncomputable def pu43 : SumE := ⟨207, [.one (.int .i64 17), .one (.int .i64 1), .one (.int .i64 13), .one (.int .i64 1)], .one (.bool false)⟩
theorem qu43 : isV pu43.v (eval cfgQ 300 X0 (.call pu43.f pu43.args) ⟨.nil, 0⟩) = true := by decide +kernel
noncomputable def pu44 : SumE := ⟨207, [.one (.int .i64 17), .one (.int .i64 1), .one (.int .i64 14), .one (.int .i64 1)], .one (.bool false)⟩
theorem qu44 : isV pu44.v (eval cfgQ 300 X0 (.call pu44.f pu44.args) ⟨.nil, 0⟩) = true := by decide +kernel
noncomputable def pu45 : SumE := ⟨207, [.one (.int .i64 17), .one (.int .i64 1), .one (.int .i64 15), .one (.int .i64 1)], .one (.bool false)⟩
theorem qu45 : isV pu45.v (eval cfgQ 300 X0 (.call pu45.f pu45.args) ⟨.nil, 0⟩) = true := by decide +kernel
noncomputable def pu46 : SumE := ⟨207, [.one (.int .i64 17), .one (.int .i64 1), .one (.int .i64 15), .one (.int .i64 24)], .one (.bool true)⟩
theorem qu46 : isV pu46.v (eval cfgQ 300 X0 (.call pu46.f pu46.args) ⟨.nil, 0⟩) = true := by decide +kernel
noncomputable def pu47 : SumE := ⟨207, [.one (.int .i64 17), .one (.int .i64 1), .one (.int .i64 16), .one (.int .i64 1)], .one (.bool false)⟩
theorem qu47 : isV pu47.v (eval cfgQ 300 X0 (.call pu47.f pu47.args) ⟨.nil, 0⟩) = true := by decide +kernel
noncomputable def pu48 : SumE := ⟨207, [.one (.int .i64 17), .one (.int .i64 1), .one (.int .i64 39), .one (.int .i64 24)], .one (.bool false)⟩
theorem qu48 : isV pu48.v (eval cfgQ 300 X0 (.call pu48.f pu48.args) ⟨.nil, 0⟩) = true := by decide +kernel
noncomputable def pu49 : SumE := ⟨207, [.one (.int .i64 17), .one (.int .i64 1), .one (.int .i64 5), .one (.int .i64 1)], .one (.bool false)⟩
theorem qu49 : isV pu49.v (eval cfgQ 300 X0 (.call pu49.f pu49.args) ⟨.nil, 0⟩) = true := by decide +kernel
noncomputable def pu50 : SumE := ⟨207, [.one (.int .i64 17), .one (.int .i64 1), .one (.int .i64 6), .one (.int .i64 1)], .one (.bool false)⟩
theorem qu50 : isV pu50.v (eval cfgQ 300 X0 (.call pu50.f pu50.args) ⟨.nil, 0⟩) = true := by decide +kernel
noncomputable def pu51 : SumE := ⟨207, [.one (.int .i64 17), .one (.int .i64 1), .one (.int .i64 7), .one (.int .i64 1)], .one (.bool false)⟩
theorem qu51 : isV pu51.v (eval cfgQ 300 X0 (.call pu51.f pu51.args) ⟨.nil, 0⟩) = true := by decide +kernel
noncomputable def pu52 : SumE := ⟨207, [.one (.int .i64 17), .one (.int .i64 1), .one (.int .i64 8), .one (.int .i64 4)], .one (.bool false)⟩
theorem qu52 : isV pu52.v (eval cfgQ 300 X0 (.call pu52.f pu52.args) ⟨.nil, 0⟩) = true := by decide +kernel
noncomputable def pu53 : SumE := ⟨208, [.one (.int .i64 15), .one (.int .i64 1), .one (.int .i64 15), .one (.int .i64 24)], .one (.bool true)⟩
theorem qu53 : isV pu53.v (eval cfgQ 300 X0 (.call pu53.f pu53.args) ⟨.nil, 0⟩) = true := by decide +kernel
noncomputable def pu54 : SumE := ⟨208, [.one (.int .i64 16), .one (.int .i64 1), .one (.int .i64 15), .one (.int .i64 24)], .one (.bool true)⟩
theorem qu54 : isV pu54.v (eval cfgQ 300 X0 (.call pu54.f pu54.args) ⟨.nil, 0⟩) = true := by decide +kernel
noncomputable def pu55 : SumE := ⟨208, [.one (.int .i64 17), .one (.int .i64 1), .one (.int .i64 15), .one (.int .i64 24)], .one (.bool true)⟩
theorem qu55 : isV pu55.v (eval cfgQ 300 X0 (.call pu55.f pu55.args) ⟨.nil, 0⟩) = true := by decide +kernel
noncomputable def pu56 : SumE := ⟨213, [.one (.int .u64 1), .one (.int .i64 12)], .one (.bool true)⟩
theorem qu56 : isV pu56.v (eval cfgQ 300 X0 (.call pu56.f pu56.args) ⟨.nil, 0⟩) = true := by decide +kernel
noncomputable def pu57 : SumE := ⟨213, [.one (.int .u64 10), .one (.int .i64 12)], .one (.bool true)⟩
theorem qu57 : isV pu57.v (eval cfgQ 300 X0 (.call pu57.f pu57.args) ⟨.nil, 0⟩) = true := by decide +kernel
noncomputable def pu58 : SumE := ⟨213, [.one (.int .u64 11), .one (.int .i64 12)], .one (.bool true)⟩
theorem qu58 : isV pu58.v (eval cfgQ 300 X0 (.call pu58.f pu58.args) ⟨.nil, 0⟩) = true := by decide +kernel
noncomputable def pu59 : SumE := ⟨213, [.one (.int .u64 12), .one (.int .i64 12)], .one (.bool true)⟩
theorem qu59 : isV pu59.v (eval cfgQ 300 X0 (.call pu59.f pu59.args) ⟨.nil, 0⟩) = true := by decide +kernel
noncomputable def pu60 : SumE := ⟨213, [.one (.int .u64 3), .one (.int .i64 12)], .one (.bool true)⟩
theorem qu60 : isV pu60.v (eval cfgQ 300 X0 (.call pu60.f pu60.args) ⟨.nil, 0⟩) = true := by decide +kernel
noncomputable def pu61 : SumE := ⟨213, [.one (.int .u64 4), .one (.int .i64 12)], .one (.bool true)⟩
theorem qu61 : isV pu61.v (eval cfgQ 300 X0 (.call pu61.f pu61.args) ⟨.nil, 0⟩) = true := by decide +kernel
noncomputable def pu62 : SumE := ⟨213, [.one (.int .u64 7), .one (.int .i64 12)], .one (.bool true)⟩
theorem qu62 : isV pu62.v (eval cfgQ 300 X0 (.call pu62.f pu62.args) ⟨.nil, 0⟩) = true := by decide +kernel
noncomputable def pu63 : SumE := ⟨213, [.one (.int .u64 9), .one (.int .i64 12)], .one (.bool true)⟩
theorem qu63 : isV pu63.v (eval cfgQ 300 X0 (.call pu63.f pu63.args) ⟨.nil, 0⟩) = true := by decide +kernel
noncomputable def pu64 : SumE := ⟨222, [.one (.int .u64 1), .one (.int .i64 0), .one (.int .i64 4)], .tup [.one (.int .u64 1), .one (.int .i64 0)]⟩
theorem qu64 : isV pu64.v (eval cfgQ 300 X0 (.call pu64.f pu64.args) ⟨.nil, 0⟩) = true := by decide +kernel
noncomputable def pu65 : SumE := ⟨222, [.one (.int .u64 1), .one (.int .i64 4), .one (.int .i64 8)], .tup [.one (.int .u64 0), .one (.int .i64 0)]⟩
theorem qu65 : isV pu65.v (eval cfgQ 300 X0 (.call pu65.f pu65.args) ⟨.nil, 0⟩) = true := by decide +kernel
noncomputable def pu66 : SumE := ⟨222, [.one (.int .u64 10), .one (.int .i64 0), .one (.int .i64 4)], .tup [.one (.int .u64 10), .one (.int .i64 0)]⟩
theorem qu66 : isV pu66.v (eval cfgQ 300 X0 (.call pu66.f pu66.args) ⟨.nil, 0⟩) = true := by decide +kernel
noncomputable def pu67 : SumE := ⟨222, [.one (.int .u64 10), .one (.int .i64 4), .one (.int .i64 8)], .tup [.one (.int .u64 0), .one (.int .i64 0)]⟩
theorem qu67 : isV pu67.v (eval cfgQ 300 X0 (.call pu67.f pu67.args) ⟨.nil, 0⟩) = true := by decide +kernel
noncomputable def pu68 : SumE := ⟨222, [.one (.int .u64 11), .one (.int .i64 0), .one (.int .i64 4)], .tup [.one (.int .u64 11), .one (.int .i64 0)]⟩
theorem qu68 : isV pu68.v (eval cfgQ 300 X0 (.call pu68.f pu68.args) ⟨.nil, 0⟩) = true := by decide +kernel
noncomputable def pu69 : SumE := ⟨222, [.one (.int .u64 11), .one (.int .i64 4), .one (.int .i64 8)], .tup [.one (.int .u64 0), .one (.int .i64 0)]⟩
theorem qu69 : isV pu69.v (eval cfgQ 300 X0 (.call pu69.f pu69.args) ⟨.nil, 0⟩) = true := by decide +kernel
noncomputable def pu70 : SumE := ⟨222, [.one (.int .u64 12), .one (.int .i64 0), .one (.int .i64 4)], .tup [.one (.int .u64 12), .one (.int .i64 0)]⟩
theorem qu70 : isV pu70.v (eval cfgQ 300 X0 (.call pu70.f pu70.args) ⟨.nil, 0⟩) = true := by decide +kernel
noncomputable def pu71 : SumE := ⟨222, [.one (.int .u64 12), .one (.int .i64 4), .one (.int .i64 8)], .tup [.one (.int .u64 0), .one (.int .i64 0)]⟩
theorem qu71 : isV pu71.v (eval cfgQ 300 X0 (.call pu71.f pu71.args) ⟨.nil, 0⟩) = true := by decide +kernel
noncomputable def pu72 : SumE := ⟨222, [.one (.int .u64 3), .one (.int .i64 0), .one (.int .i64 4)], .tup [.one (.int .u64 3), .one (.int .i64 0)]⟩
theorem qu72 : isV pu72.v (eval cfgQ 300 X0 (.call pu72.f pu72.args) ⟨.nil, 0⟩) = true := by decide +kernel
noncomputable def pu73 : SumE := ⟨222, [.one (.int .u64 3), .one (.int .i64 4), .one (.int .i64 8)], .tup [.one (.int .u64 0), .one (.int .i64 0)]⟩
theorem qu73 : isV pu73.v (eval cfgQ 300 X0 (.call pu73.f pu73.args) ⟨.nil, 0⟩) = true := by decide +kernel
noncomputable def pu74 : SumE := ⟨222, [.one (.int .u64 4), .one (.int .i64 0), .one (.int .i64 4)], .tup [.one (.int .u64 4), .one (.int .i64 0)]⟩
theorem qu74 : isV pu74.v (eval cfgQ 300 X0 (.call pu74.f pu74.args) ⟨.nil, 0⟩) = true := by decide +kernel
noncomputable def pu75 : SumE := ⟨222, [.one (.int .u64 4), .one (.int .i64 4), .one (.int .i64 8)], .tup [.one (.int .u64 0), .one (.int .i64 0)]⟩
theorem qu75 : isV pu75.v (eval cfgQ 300 X0 (.call pu75.f pu75.args) ⟨.nil, 0⟩) = true := by decide +kernel
noncomputable def pu76 : SumE := ⟨222, [.one (.int .u64 7), .one (.int .i64 0), .one (.int .i64 4)], .tup [.one (.int .u64 7), .one (.int .i64 0)]⟩
theorem qu76 : isV pu76.v (eval cfgQ 300 X0 (.call pu76.f pu76.args) ⟨.nil, 0⟩) = true := by decide +kernel
noncomputable def pu77 : SumE := ⟨222, [.one (.int .u64 7), .one (.int .i64 4), .one (.int .i64 8)], .tup [.one (.int .u64 0), .one (.int .i64 0)]⟩
theorem qu77 : isV pu77.v (eval cfgQ 300 X0 (.call pu77.f pu77.args) ⟨.nil, 0⟩) = true := by decide +kernel
noncomputable def pu78 : SumE := ⟨222, [.one (.int .u64 9), .one (.int .i64 0), .one (.int .i64 4)], .tup [.one (.int .u64 9), .one (.int .i64 0)]⟩
theorem qu78 : isV pu78.v (eval cfgQ 300 X0 (.call pu78.f pu78.args) ⟨.nil, 0⟩) = true := by decide +kernel
noncomputable def pu79 : SumE := ⟨222, [.one (.int .u64 9), .one (.int .i64 4), .one (.int .i64 8)], .tup [.one (.int .u64 0), .one (.int .i64 0)]⟩
theorem qu79 : isV pu79.v (eval cfgQ 300 X0 (.call pu79.f pu79.args) ⟨.nil, 0⟩) = true := by decide +kernel
noncomputable def pu80 : SumE := ⟨224, [.one (.sym .u64 (.conv .u64 (.bin .add .i64 (.bin .mul .i64 (.lit 64) (.var 10)) (.bin .mul .i64 (.lit 8) (.var 11)))))], .tup [.agg [.sym .i64 (.conv .i64 (.bin .and .u64 (.bin .shr .u64 (.conv .u64 (.bin .add .i64 (.bin .mul .i64 (.lit 64) (.var 10)) (.bin .mul .i64 (.lit 8) (.var 11)))) (.lit 12)) (.lit 7))), .sym .i64 (.conv .i64 (.bin .and .u64 (.bin .shr .u64 (.conv .u64 (.bin .add .i64 (.bin .mul .i64 (.lit 64) (.var 10)) (.bin .mul .i64 (.lit 8) (.var 11)))) (.lit 9)) (.lit 7))), .sym .i64 (.conv .i64 (.bin .and .u64 (.bin .shr .u64 (.conv .u64 (.bin .add .i64 (.bin .mul .i64 (.lit 64) (.var 10)) (.bin .mul .i64 (.lit 8) (.var 11)))) (.lit 6)) (.lit 7))), .sym .i64 (.conv .i64 (.bin .and .u64 (.bin .shr .u64 (.conv .u64 (.bin .add .i64 (.bin .mul .i64 (.lit 64) (.var 10)) (.bin .mul .i64 (.lit 8) (.var 11)))) (.lit 0)) (.lit 63)))], .one (.int .i64 0)]⟩
theorem qu80 : isV pu80.v (eval cfgQ 300 X0 (.call pu80.f pu80.args) ⟨.nil, 0⟩) = true := by decide +kernel
noncomputable def pu81 : SumE := ⟨226, [.one (.sym .u64 (.conv .u64 (.bin .add .i64 (.bin .mul .i64 (.lit 64) (.var 10)) (.bin .mul .i64 (.lit 8) (.var 11)))))], .tup [.one (.sym .i64 (.conv .i64 (.bin .quo .u64 (.conv .u64 (.bin .add .i64 (.bin .mul .i64 (.lit 64) (.var 10)) (.bin .mul .i64 (.lit 8) (.var 11)))) (.lit 64)))), .one (.int .i64 0)]⟩
theorem qu81 : isV pu81.v (eval cfgQ 300 X0 (.call pu81.f pu81.args) ⟨.nil, 0⟩) = true := by decide +kernel
noncomputable def pu82 : SumE := ⟨226, [.one (.sym .u64 (.conv .u64 (.bin .mul .i64 (.lit 64) (.var 10))))], .tup [.one (.sym .i64 (.conv .i64 (.bin .quo .u64 (.conv .u64 (.bin .mul .i64 (.lit 64) (.var 10))) (.lit 64)))), .one (.int .i64 0)]⟩
theorem qu82 : isV pu82.v (eval cfgQ 300 X0 (.call pu82.f pu82.args) ⟨.nil, 0⟩) = true := by decide +kernel
noncomputable def pu83 : SumE := ⟨263, [.agg [.bool true, .bool false, .bool false, .bool false, .int .i64 15]], .tup [.one (.int .u64 3841), .one (.int .i64 0)]⟩
theorem qu83 : isV pu83.v (eval cfgQ 300 X0 (.call pu83.f pu83.args) ⟨.nil, 0⟩) = true := by decide +kernel
noncomputable def pu84 : SumE := ⟨263, [.agg [.bool true, .bool false, .bool false, .bool false, .int .i64 16]], .tup [.one (.int .u64 4097), .one (.int .i64 0)]⟩
theorem qu84 : isV pu84.v (eval cfgQ 300 X0 (.call pu84.f pu84.args) ⟨.nil, 0⟩) = true := by decide +kernel
noncomputable def pu85 : SumE := ⟨263, [.agg [.bool true, .bool true, .bool false, .bool true, .int .i64 17]], .tup [.one (.int .u64 4363), .one (.int .i64 0)]⟩
theorem qu85 : isV pu85.v (eval cfgQ 300 X0 (.call pu85.f pu85.args) ⟨.nil, 0⟩) = true := by decide +kernel
noncomputable def pu86 : SumE := ⟨263, [.agg [.bool true, .bool true, .bool true, .bool false, .int .i64 17]], .tup [.one (.int .u64 4359), .one (.int .i64 0)]⟩
theorem qu86 : isV pu86.v (eval cfgQ 300 X0 (.call pu86.f pu86.args) ⟨.nil, 0⟩) = true := by decide +kernel
noncomputable def pu87 : SumE := ⟨263, [.agg [.bool true, .bool true, .bool true, .bool true, .int .i64 17]], .tup [.one (.int .u64 4367), .one (.int .i64 0)]⟩
theorem qu87 : isV pu87.v (eval cfgQ 300 X0 (.call pu87.f pu87.args) ⟨.nil, 0⟩) = true := by decide +kernel
noncomputable def pu88 : SumE := ⟨307, [.agg [.int .i64 3, .int .i64 18, .int .i64 3, .int .u64 0, .int .i64 0, .int .i64 0, .int .i64 0, .int .i64 0], .agg [.int .i64 3, .int .i64 18, .int .i64 3, .int .u64 0, .int .i64 0, .int .i64 0, .int .i64 4, .sym .i64 (.conv .i64 (.bin .quo .u64 (.conv .u64 (.bin .mul .i64 (.lit 64) (.var 10))) (.lit 64)))]], .one (.bool true)⟩
theorem qu88 : isV pu88.v (eval cfgQ 300 X0 (.call pu88.f pu88.args) ⟨.nil, 0⟩) = true := by decide +kernel
noncomputable def pu89 : SumE := ⟨310, [.one (.int .u64 0)], .tup [.agg [.bool false, .bool false, .bool false, .bool false, .int .i64 0], .one (.int .i64 0)]⟩
theorem qu89 : isV pu89.v (eval cfgQ 300 X0 (.call pu89.f pu89.args) ⟨.nil, 0⟩) = true := by decide +kernel
noncomputable def pu90 : SumE := ⟨310, [.one (.int .u64 3841)], .tup [.agg [.bool true, .bool false, .bool false, .bool false, .int .i64 15], .one (.int .i64 0)]⟩
theorem qu90 : isV pu90.v (eval cfgQ 300 X0 (.call pu90.f pu90.args) ⟨.nil, 0⟩) = true := by decide +kernel
noncomputable def pu91 : SumE := ⟨310, [.one (.int .u64 4097)], .tup [.agg [.bool true, .bool false, .bool false, .bool false, .int .i64 16], .one (.int .i64 0)]⟩
theorem qu91 : isV pu91.v (eval cfgQ 300 X0 (.call pu91.f pu91.args) ⟨.nil, 0⟩) = true := by decide +kernel
noncomputable def pu92 : SumE := ⟨310, [.one (.int .u64 4359)], .tup [.agg [.bool true, .bool true, .bool true, .bool false, .int .i64 17], .one (.int .i64 0)]⟩
theorem qu92 : isV pu92.v (eval cfgQ 300 X0 (.call pu92.f pu92.args) ⟨.nil, 0⟩) = true := by decide +kernel
noncomputable def pu93 : SumE := ⟨310, [.one (.int .u64 4363)], .tup [.agg [.bool true, .bool true, .bool false, .bool true, .int .i64 17], .one (.int .i64 0)]⟩
theorem qu93 : isV pu93.v (eval cfgQ 300 X0 (.call pu93.f pu93.args) ⟨.nil, 0⟩) = true := by decide +kernel
noncomputable def pu94 : SumE := ⟨310, [.one (.int .u64 4367)], .tup [.agg [.bool true, .bool true, .bool true, .bool true, .int .i64 17], .one (.int .i64 0)]⟩
theorem qu94 : isV pu94.v (eval cfgQ 300 X0 (.call pu94.f pu94.args) ⟨.nil, 0⟩) = true := by decide +kernel
noncomputable def pu95 : SumE := ⟨340, [.one (.sym .i64 (.conv .i64 (.bin .quo .u64 (.conv .u64 (.bin .add .i64 (.bin .mul .i64 (.lit 64) (.var 10)) (.bin .mul .i64 (.lit 8) (.var 11)))) (.lit 64)))), .one (.int .i64 1)], .one (.sym .i64 (.bin .rem .i64 (.bin .quo .i64 (.bin .quo .i64 (.conv .i64 (.bin .quo .u64 (.conv .u64 (.bin .add .i64 (.bin .mul .i64 (.lit 64) (.var 10)) (.bin .mul .i64 (.lit 8) (.var 11)))) (.lit 64))) (.lit 8)) (.lit 8)) (.lit 8)))⟩
theorem qu95 : isV pu95.v (eval cfgQ 300 X0 (.call pu95.f pu95.args) ⟨.nil, 0⟩) = true := by decide +kernel
noncomputable def pu96 : SumE := ⟨340, [.one (.sym .i64 (.conv .i64 (.bin .quo .u64 (.conv .u64 (.bin .add .i64 (.bin .mul .i64 (.lit 64) (.var 10)) (.bin .mul .i64 (.lit 8) (.var 11)))) (.lit 64)))), .one (.int .i64 2)], .one (.sym .i64 (.bin .rem .i64 (.bin .quo .i64 (.conv .i64 (.bin .quo .u64 (.conv .u64 (.bin .add .i64 (.bin .mul .i64 (.lit 64) (.var 10)) (.bin .mul .i64 (.lit 8) (.var 11)))) (.lit 64))) (.lit 8)) (.lit 8)))⟩
theorem qu96 : isV pu96.v (eval cfgQ 300 X0 (.call pu96.f pu96.args) ⟨.nil, 0⟩) = true := by decide +kernel
noncomputable def pu97 : SumE := ⟨340, [.one (.sym .i64 (.conv .i64 (.bin .quo .u64 (.conv .u64 (.bin .add .i64 (.bin .mul .i64 (.lit 64) (.var 10)) (.bin .mul .i64 (.lit 8) (.var 11)))) (.lit 64)))), .one (.int .i64 3)], .one (.sym .i64 (.bin .rem .i64 (.conv .i64 (.bin .quo .u64 (.conv .u64 (.bin .add .i64 (.bin .mul .i64 (.lit 64) (.var 10)) (.bin .mul .i64 (.lit 8) (.var 11)))) (.lit 64))) (.lit 8)))⟩
theorem qu97 : isV pu97.v (eval cfgQ 300 X0 (.call pu97.f pu97.args) ⟨.nil, 0⟩) = true := by decide +kernel
noncomputable def pu98 : SumE := ⟨340, [.one (.sym .i64 (.conv .i64 (.bin .quo .u64 (.conv .u64 (.bin .mul .i64 (.lit 64) (.var 10))) (.lit 64)))), .one (.int .i64 1)], .one (.sym .i64 (.bin .rem .i64 (.bin .quo .i64 (.bin .quo .i64 (.conv .i64 (.bin .quo .u64 (.conv .u64 (.bin .mul .i64 (.lit 64) (.var 10))) (.lit 64))) (.lit 8)) (.lit 8)) (.lit 8)))⟩
theorem qu98 : isV pu98.v (eval cfgQ 300 X0 (.call pu98.f pu98.args) ⟨.nil, 0⟩) = true := by decide +kernel
noncomputable def pu99 : SumE := ⟨340, [.one (.sym .i64 (.conv .i64 (.bin .quo .u64 (.conv .u64 (.bin .mul .i64 (.lit 64) (.var 10))) (.lit 64)))), .one (.int .i64 2)], .one (.sym .i64 (.bin .rem .i64 (.bin .quo .i64 (.conv .i64 (.bin .quo .u64 (.conv .u64 (.bin .mul .i64 (.lit 64) (.var 10))) (.lit 64))) (.lit 8)) (.lit 8)))⟩
theorem qu99 : isV pu99.v (eval cfgQ 300 X0 (.call pu99.f pu99.args) ⟨.nil, 0⟩) = true := by decide +kernel
noncomputable def pu100 : SumE := ⟨340, [.one (.sym .i64 (.conv .i64 (.bin .quo .u64 (.conv .u64 (.bin .mul .i64 (.lit 64) (.var 10))) (.lit 64)))), .one (.int .i64 3)], .one (.sym .i64 (.bin .rem .i64 (.conv .i64 (.bin .quo .u64 (.conv .u64 (.bin .mul .i64 (.lit 64) (.var 10))) (.lit 64))) (.lit 8)))⟩
theorem qu100 : isV pu100.v (eval cfgQ 300 X0 (.call pu100.f pu100.args) ⟨.nil, 0⟩) = true := by decide +kernel
noncomputable def pu101 : SumE := ⟨70, [.agg [.int .u64 1, .int .u64 3, .int .u64 3, .int .u64 0, .int .u64 1, .int .u64 12, .int .u64 1]], .tup [.agg [.int .i64 1, .int .i64 3, .int .i64 1, .int .i64 0, .int .i64 3, .int .i64 0, .int .i64 28, .int .u64 0, .int .u64 0, .int .u64 0, .int .u64 0, .int .u64 0], .one (.int .i64 0)]⟩
theorem qu101 : isV pu101.v (eval cfgQ 300 X0 (.call pu101.f pu101.args) ⟨.nil, 0⟩) = true := by decide +kernel
noncomputable def pu102 : SumE := ⟨70, [.agg [.int .u64 1, .int .u64 3, .int .u64 4, .int .u64 0, .int .u64 1, .int .u64 10, .int .u64 2]], .tup [.agg [.int .i64 1, .int .i64 3, .int .i64 1, .int .i64 0, .int .i64 4, .int .i64 0, .int .i64 42, .int .u64 0, .int .u64 0, .int .u64 0, .int .u64 0, .int .u64 0], .one (.int .i64 0)]⟩
theorem qu102 : isV pu102.v (eval cfgQ 300 X0 (.call pu102.f pu102.args) ⟨.nil, 0⟩) = true := by decide +kernel
noncomputable def pu103 : SumE := ⟨70, [.agg [.int .u64 10, .int .u64 12, .int .u64 9, .sym .u64 (.conv .u64 (.bin .mul .i64 (.lit 64) (.var 10))), .int .u64 1, .int .u64 0, .int .u64 0]], .tup [.agg [.int .i64 10, .int .i64 12, .int .i64 9, .int .i64 0, .int .i64 1, .int .i64 0, .int .i64 0, .sym .u64 (.conv .u64 (.bin .mul .i64 (.lit 64) (.var 10))), .int .u64 0, .int .u64 0, .int .u64 0, .int .u64 0], .one (.int .i64 0)]⟩
theorem qu103 : isV pu103.v (eval cfgQ 300 X0 (.call pu103.f pu103.args) ⟨.nil, 0⟩) = true := by decide +kernel
noncomputable def pu104 : SumE := ⟨70, [.agg [.int .u64 10, .int .u64 12, .int .u64 9, .sym .u64 (.conv .u64 (.bin .mul .i64 (.lit 64) (.var 10))), .int .u64 2, .int .u64 0, .int .u64 0]], .tup [.agg [.int .i64 10, .int .i64 12, .int .i64 9, .int .i64 0, .int .i64 2, .int .i64 0, .int .i64 0, .sym .u64 (.conv .u64 (.bin .mul .i64 (.lit 64) (.var 10))), .int .u64 0, .int .u64 0, .int .u64 0, .int .u64 0], .one (.int .i64 0)]⟩
theorem qu104 : isV pu104.v (eval cfgQ 300 X0 (.call pu104.f pu104.args) ⟨.nil, 0⟩) = true := by decide +kernel
noncomputable def pu105 : SumE := ⟨70, [.agg [.int .u64 10, .int .u64 12, .int .u64 9, .sym .u64 (.conv .u64 (.bin .mul .i64 (.lit 64) (.var 10))), .int .u64 3, .int .u64 0, .int .u64 0]], .tup [.agg [.int .i64 10, .int .i64 12, .int .i64 9, .int .i64 0, .int .i64 3, .int .i64 0, .int .i64 0, .sym .u64 (.conv .u64 (.bin .mul .i64 (.lit 64) (.var 10))), .int .u64 0, .int .u64 0, .int .u64 0, .int .u64 0], .one (.int .i64 0)]⟩
theorem qu105 : isV pu105.v (eval cfgQ 300 X0 (.call pu105.f pu105.args) ⟨.nil, 0⟩) = true := by decide +kernel
noncomputable def pu106 : SumE := ⟨70, [.agg [.int .u64 16, .int .u64 7, .int .u64 4096, .int .u64 0, .int .u64 0, .int .u64 0, .int .u64 0]], .tup [.agg [.int .i64 16, .int .i64 7, .int .i64 0, .int .i64 0, .int .i64 4096, .int .i64 0, .int .i64 0, .int .u64 0, .int .u64 0, .int .u64 0, .int .u64 0, .int .u64 0], .one (.int .i64 0)]⟩
theorem qu106 : isV pu106.v (eval cfgQ 300 X0 (.call pu106.f pu106.args) ⟨.nil, 0⟩) = true := by decide +kernel
noncomputable def pu107 : SumE := ⟨70, [.agg [.int .u64 16, .int .u64 7, .int .u64 9, .int .u64 0, .int .u64 0, .int .u64 0, .int .u64 0]], .tup [.agg [.int .i64 16, .int .i64 7, .int .i64 0, .int .i64 0, .int .i64 9, .int .i64 0, .int .i64 0, .int .u64 0, .int .u64 0, .int .u64 0, .int .u64 0, .int .u64 0], .one (.int .i64 0)]⟩
theorem qu107 : isV pu107.v (eval cfgQ 300 X0 (.call pu107.f pu107.args) ⟨.nil, 0⟩) = true := by decide +kernel
noncomputable def pu108 : SumE := ⟨70, [.agg [.int .u64 17, .sym .u64 (.var 4), .int .u64 0, .int .u64 0, .int .u64 0, .int .u64 0, .int .u64 0]], .tup [.agg [.int .i64 17, .int .i64 0, .int .i64 0, .int .i64 0, .int .i64 0, .int .i64 0, .int .i64 0, .int .u64 0, .sym .u64 (.var 4), .int .u64 0, .int .u64 0, .int .u64 0], .one (.int .i64 0)]⟩
theorem qu108 : isV pu108.v (eval cfgQ 300 X0 (.call pu108.f pu108.args) ⟨.nil, 0⟩) = true := by decide +kernel
noncomputable def pu109 : SumE := ⟨70, [.agg [.int .u64 8, .int .u64 10, .int .u64 9, .sym .u64 (.conv .u64 (.bin .mul .i64 (.lit 64) (.var 10))), .int .u64 0, .int .u64 0, .int .u64 0]], .tup [.agg [.int .i64 8, .int .i64 10, .int .i64 9, .int .i64 0, .int .i64 0, .int .i64 0, .int .i64 0, .sym .u64 (.conv .u64 (.bin .mul .i64 (.lit 64) (.var 10))), .int .u64 0, .int .u64 0, .int .u64 0, .int .u64 0], .one (.int .i64 0)]⟩
theorem qu109 : isV pu109.v (eval cfgQ 300 X0 (.call pu109.f pu109.args) ⟨.nil, 0⟩) = true := by decide +kernel
noncomputable def pu110 : SumE := ⟨70, [.agg [.int .u64 8, .int .u64 11, .int .u64 9, .sym .u64 (.conv .u64 (.bin .mul .i64 (.lit 64) (.var 10))), .int .u64 0, .int .u64 0, .int .u64 0]], .tup [.agg [.int .i64 8, .int .i64 11, .int .i64 9, .int .i64 0, .int .i64 0, .int .i64 0, .int .i64 0, .sym .u64 (.conv .u64 (.bin .mul .i64 (.lit 64) (.var 10))), .int .u64 0, .int .u64 0, .int .u64 0, .int .u64 0], .one (.int .i64 0)]⟩
theorem qu110 : isV pu110.v (eval cfgQ 300 X0 (.call pu110.f pu110.args) ⟨.nil, 0⟩) = true := by decide +kernel
noncomputable def pus : List SumE := [pu0, pu1, pu2, pu3, pu4, pu5, pu6, pu7, pu8, pu9, pu10, pu11, pu12, pu13, pu14, pu15, pu16, pu17, pu18, pu19, pu20, pu21, pu22, pu23, pu24, pu25, pu26, pu27, pu28, pu29, pu30, pu31, pu32, pu33, pu34, pu35, pu36, pu37, pu38, pu39, pu40, pu41, pu42, pu43, pu44, pu45, pu46, pu47, pu48, pu49, pu50, pu51, pu52, pu53, pu54, pu55, pu56, pu57, pu58, pu59, pu60, pu61, pu62, pu63, pu64, pu65, pu66, pu67, pu68, pu69, pu70, pu71, pu72, pu73, pu74, pu75, pu76, pu77, pu78, pu79, pu80, pu81, pu82, pu83, pu84, pu85, pu86, pu87, pu88, pu89, pu90, pu91, pu92, pu93, pu94, pu95, pu96, pu97, pu98, pu99, pu100, pu101, pu102, pu103, pu104, pu105, pu106, pu107, pu108, pu109, pu110]
set_option maxRecDepth 100000 in
theorem pusOK {a0 a1 a2 v x0 x1 x2 x3 x4 x5 x6 n o : Int} (h : Is v n o) (C : Cfg) (hC : C.fu = Tab.fuT.get) : Al (Summ Tryz.prog (sg a0 a1 a2 v x0 x1 x2 x3 x4 x5 x6 n o) C) pus := (.cons (summV h C hC pu0 qu0 rfl rfl) (.cons (summV h C hC pu1 qu1 rfl rfl) (.cons (summV h C hC pu2 qu2 rfl rfl) (.cons (summV h C hC pu3 qu3 rfl rfl) (.cons (summV h C hC pu4 qu4 rfl rfl) (.cons (summV h C hC pu5 qu5 rfl rfl) (.cons (summV h C hC pu6 qu6 rfl rfl) (.cons (summV h C hC pu7 qu7 rfl rfl) (.cons (summV h C hC pu8 qu8 rfl rfl) (.cons (summV h C hC pu9 qu9 rfl rfl) (.cons (summV h C hC pu10 qu10 rfl rfl) (.cons (summV h C hC pu11 qu11 rfl rfl) (.cons (summV h C hC pu12 qu12 rfl rfl) (.cons (summV h C hC pu13 qu13 rfl rfl) (.cons (summV h C hC pu14 qu14 rfl rfl) (.cons (summV h C hC pu15 qu15 rfl rfl) (.cons (summV h C hC pu16 qu16 rfl rfl) (.cons (summV h C hC pu17 qu17 rfl rfl) (.cons (summV h C hC pu18 qu18 rfl rfl) (.cons (summV h C hC pu19 qu19 rfl rfl) (.cons (summV h C hC pu20 qu20 rfl rfl) (.cons (summV h C hC pu21 qu21 rfl rfl) (.cons (summV h C hC pu22 qu22 rfl rfl) (.cons (summV h C hC pu23 qu23 rfl rfl) (.cons (summV h C hC pu24 qu24 rfl rfl) (.cons (summV h C hC pu25 qu25 rfl rfl) (.cons (summV h C hC pu26 qu26 rfl rfl) (.cons (summV h C hC pu27 qu27 rfl rfl) (.cons (summV h C hC pu28 qu28 rfl rfl) (.cons (summV h C hC pu29 qu29 rfl rfl) (.cons (summV h C hC pu30 qu30 rfl rfl) (.cons (summV h C hC pu31 qu31 rfl rfl) (.cons (summV h C hC pu32 qu32 rfl rfl) (.cons (summV h C hC pu33 qu33 rfl rfl) (.cons (summV h C hC pu34 qu34 rfl rfl) (.cons (summV h C hC pu35 qu35 rfl rfl) (.cons (summV h C hC pu36 qu36 rfl rfl) (.cons (summV h C hC pu37 qu37 rfl rfl) (.cons (summV h C hC pu38 qu38 rfl rfl) (.cons (summV h C hC pu39 qu39 rfl rfl) (.cons (summV h C hC pu40 qu40 rfl rfl) (.cons (summV h C hC pu41 qu41 rfl rfl) (.cons (summV h C hC pu42 qu42 rfl rfl) (.cons (summV h C hC pu43 qu43 rfl rfl) (.cons (summV h C hC pu44 qu44 rfl rfl) (.cons (summV h C hC pu45 qu45 rfl rfl) (.cons (summV h C hC pu46 qu46 rfl rfl) (.cons (summV h C hC pu47 qu47 rfl rfl) (.cons (summV h C hC pu48 qu48 rfl rfl) (.cons (summV h C hC pu49 qu49 rfl rfl) (.cons (summV h C hC pu50 qu50 rfl rfl) (.cons (summV h C hC pu51 qu51 rfl rfl) (.cons (summV h C hC pu52 qu52 rfl rfl) (.cons (summV h C hC pu53 qu53 rfl rfl) (.cons (summV h C hC pu54 qu54 rfl rfl) (.cons (summV h C hC pu55 qu55 rfl rfl) (.cons (summV h C hC pu56 qu56 rfl rfl) (.cons (summV h C hC pu57 qu57 rfl rfl) (.cons (summV h C hC pu58 qu58 rfl rfl) (.cons (summV h C hC pu59 qu59 rfl rfl) (.cons (summV h C hC pu60 qu60 rfl rfl) (.cons (summV h C hC pu61 qu61 rfl rfl) (.cons (summV h C hC pu62 qu62 rfl rfl) (.cons (summV h C hC pu63 qu63 rfl rfl) (.cons (summV h C hC pu64 qu64 rfl rfl) (.cons (summV h C hC pu65 qu65 rfl rfl) (.cons (summV h C hC pu66 qu66 rfl rfl) (.cons (summV h C hC pu67 qu67 rfl rfl) (.cons (summV h C hC pu68 qu68 rfl rfl) (.cons (summV h C hC pu69 qu69 rfl rfl) (.cons (summV h C hC pu70 qu70 rfl rfl) (.cons (summV h C hC pu71 qu71 rfl rfl) (.cons (summV h C hC pu72 qu72 rfl rfl) (.cons (summV h C hC pu73 qu73 rfl rfl) (.cons (summV h C hC pu74 qu74 rfl rfl) (.cons (summV h C hC pu75 qu75 rfl rfl) (.cons (summV h C hC pu76 qu76 rfl rfl) (.cons (summV h C hC pu77 qu77 rfl rfl) (.cons (summV h C hC pu78 qu78 rfl rfl) (.cons (summV h C hC pu79 qu79 rfl rfl) (.cons (summV h C hC pu80 qu80 rfl rfl) (.cons (summV h C hC pu81 qu81 rfl rfl) (.cons (summV h C hC pu82 qu82 rfl rfl) (.cons (summV h C hC pu83 qu83 rfl rfl) (.cons (summV h C hC pu84 qu84 rfl rfl) (.cons (summV h C hC pu85 qu85 rfl rfl) (.cons (summV h C hC pu86 qu86 rfl rfl) (.cons (summV h C hC pu87 qu87 rfl rfl) (.cons (summV h C hC pu88 qu88 rfl rfl) (.cons (summV h C hC pu89 qu89 rfl rfl) (.cons (summV h C hC pu90 qu90 rfl rfl) (.cons (summV h C hC pu91 qu91 rfl rfl) (.cons (summV h C hC pu92 qu92 rfl rfl) (.cons (summV h C hC pu93 qu93 rfl rfl) (.cons (summV h C hC pu94 qu94 rfl rfl) (.cons (summV h C hC pu95 qu95 rfl rfl) (.cons (summV h C hC pu96 qu96 rfl rfl) (.cons (summV h C hC pu97 qu97 rfl rfl) (.cons (summV h C hC pu98 qu98 rfl rfl) (.cons (summV h C hC pu99 qu99 rfl rfl) (.cons (summV h C hC pu100 qu100 rfl rfl) (.cons (summV h C hC pu101 qu101 rfl rfl) (.cons (summV h C hC pu102 qu102 rfl rfl) (.cons (summV h C hC pu103 qu103 rfl rfl) (.cons (summV h C hC pu104 qu104 rfl rfl) (.cons (summV h C hC pu105 qu105 rfl rfl) (.cons (summV h C hC pu106 qu106 rfl rfl) (.cons (summV h C hC pu107 qu107 rfl rfl) (.cons (summV h C hC pu108 qu108 rfl rfl) (.cons (summV h C hC pu109 qu109 rfl rfl) (.cons (summV h C hC pu110 qu110 rfl rfl) .nil)))))))))))))))))))))))))))))))))))))))))))))))))))))))))))))))))))))))))))))))))))))))))))))))))))))))))))))))
end TopS
