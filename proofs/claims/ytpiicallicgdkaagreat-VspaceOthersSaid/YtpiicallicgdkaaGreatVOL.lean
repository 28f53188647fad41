/- VspaceOthers: the evaluations of its loop's body, looked up by place. No conditions beside those in its theorems. -/
import Derived.Test.YtpiicallicgdkaaGreatVOK0
import Derived.Test.YtpiicallicgdkaaGreatVOK1
import Derived.Test.YtpiicallicgdkaaGreatVOK2
import Derived.Test.YtpiicallicgdkaaGreatVOK3
import Derived.Test.YtpiicallicgdkaaGreatVOK4
import Derived.Test.YtpiicallicgdkaaGreatVOK5
import Derived.Test.YtpiicallicgdkaaGreatVOK6
import Derived.Test.YtpiicallicgdkaaGreatVOK7
import Derived.Test.YtpiicallicgdkaaGreatVOK8
import Derived.Test.YtpiicallicgdkaaGreatE9
set_option linter.unusedVariables false
open Go Eng Go.Proofs Go.RowKit
namespace VO
open Base
theorem kOther : ∀ q : Nat, q < 9 → K q (.exit 1) q (.var 0) cOther tOther []
  | 0, _ => k0_other
  | 1, _ => k1_other
  | 2, _ => k2_other
  | 3, _ => k3_other
  | 4, _ => k4_other
  | 5, _ => k5_other
  | 6, _ => k6_other
  | 7, _ => k7_other
  | 8, _ => k8_other
  | q + 9, h => absurd h (by omega)
theorem kA0t : ∀ q : Nat, q < 9 → K q (.exit 1) q (.var 0) (cA 0) (tA 8 true) []
  | 0, _ => k0_a0t
  | 1, _ => k1_a0t
  | 2, _ => k2_a0t
  | 3, _ => k3_a0t
  | 4, _ => k4_a0t
  | 5, _ => k5_a0t
  | 6, _ => k6_a0t
  | 7, _ => k7_a0t
  | 8, _ => k8_a0t
  | q + 9, h => absurd h (by omega)
theorem kA0f : ∀ q : Nat, q < 9 → K q (.exit 1) q (.var 0) (cA 0) (tA 8 false) []
  | 0, _ => k0_a0f
  | 1, _ => k1_a0f
  | 2, _ => k2_a0f
  | 3, _ => k3_a0f
  | 4, _ => k4_a0f
  | 5, _ => k5_a0f
  | 6, _ => k6_a0f
  | 7, _ => k7_a0f
  | 8, _ => k8_a0f
  | q + 9, h => absurd h (by omega)
theorem kB0 : ∀ q : Nat, q < 9 → K q (.exit 1) q (.var 0) (cB 0) (tB 8) []
  | 0, _ => k0_b0
  | 1, _ => k1_b0
  | 2, _ => k2_b0
  | 3, _ => k3_b0
  | 4, _ => k4_b0
  | 5, _ => k5_b0
  | 6, _ => k6_b0
  | 7, _ => k7_b0
  | 8, _ => k8_b0
  | q + 9, h => absurd h (by omega)
theorem kA1t : ∀ q : Nat, q < 9 → K q (.exit 1) q (.var 0) (cA 1) (tA 8 true) []
  | 0, _ => k0_a1t
  | 1, _ => k1_a1t
  | 2, _ => k2_a1t
  | 3, _ => k3_a1t
  | 4, _ => k4_a1t
  | 5, _ => k5_a1t
  | 6, _ => k6_a1t
  | 7, _ => k7_a1t
  | 8, _ => k8_a1t
  | q + 9, h => absurd h (by omega)
theorem kA1f : ∀ q : Nat, q < 9 → K q (.exit 1) q (.var 0) (cA 1) (tA 8 false) []
  | 0, _ => k0_a1f
  | 1, _ => k1_a1f
  | 2, _ => k2_a1f
  | 3, _ => k3_a1f
  | 4, _ => k4_a1f
  | 5, _ => k5_a1f
  | 6, _ => k6_a1f
  | 7, _ => k7_a1f
  | 8, _ => k8_a1f
  | q + 9, h => absurd h (by omega)
theorem kB1 : ∀ q : Nat, q < 9 → K q (.exit 1) q (.var 0) (cB 1) (tB 8) []
  | 0, _ => k0_b1
  | 1, _ => k1_b1
  | 2, _ => k2_b1
  | 3, _ => k3_b1
  | 4, _ => k4_b1
  | 5, _ => k5_b1
  | 6, _ => k6_b1
  | 7, _ => k7_b1
  | 8, _ => k8_b1
  | q + 9, h => absurd h (by omega)
theorem kA2t : ∀ q : Nat, q < 9 → K q (.exit 1) q (.var 0) (cA 2) (tA 11 true) []
  | 0, _ => k0_a2t
  | 1, _ => k1_a2t
  | 2, _ => k2_a2t
  | 3, _ => k3_a2t
  | 4, _ => k4_a2t
  | 5, _ => k5_a2t
  | 6, _ => k6_a2t
  | 7, _ => k7_a2t
  | 8, _ => k8_a2t
  | q + 9, h => absurd h (by omega)
theorem kA2f : ∀ q : Nat, q < 9 → K q (.exit 1) q (.var 0) (cA 2) (tA 11 false) []
  | 0, _ => k0_a2f
  | 1, _ => k1_a2f
  | 2, _ => k2_a2f
  | 3, _ => k3_a2f
  | 4, _ => k4_a2f
  | 5, _ => k5_a2f
  | 6, _ => k6_a2f
  | 7, _ => k7_a2f
  | 8, _ => k8_a2f
  | q + 9, h => absurd h (by omega)
theorem kB2 : ∀ q : Nat, q < 9 → K q (.exit 1) q (.var 0) (cB 2) (tB 11) []
  | 0, _ => k0_b2
  | 1, _ => k1_b2
  | 2, _ => k2_b2
  | 3, _ => k3_b2
  | 4, _ => k4_b2
  | 5, _ => k5_b2
  | 6, _ => k6_b2
  | 7, _ => k7_b2
  | 8, _ => k8_b2
  | q + 9, h => absurd h (by omega)
theorem kA3t : ∀ q : Nat, q < 9 → K q (.exit 1) q (.var 0) (cA 3) (tA 11 true) []
  | 0, _ => k0_a3t
  | 1, _ => k1_a3t
  | 2, _ => k2_a3t
  | 3, _ => k3_a3t
  | 4, _ => k4_a3t
  | 5, _ => k5_a3t
  | 6, _ => k6_a3t
  | 7, _ => k7_a3t
  | 8, _ => k8_a3t
  | q + 9, h => absurd h (by omega)
theorem kA3f : ∀ q : Nat, q < 9 → K q (.exit 1) q (.var 0) (cA 3) (tA 11 false) []
  | 0, _ => k0_a3f
  | 1, _ => k1_a3f
  | 2, _ => k2_a3f
  | 3, _ => k3_a3f
  | 4, _ => k4_a3f
  | 5, _ => k5_a3f
  | 6, _ => k6_a3f
  | 7, _ => k7_a3f
  | 8, _ => k8_a3f
  | q + 9, h => absurd h (by omega)
theorem kB3 : ∀ q : Nat, q < 9 → K q (.exit 1) q (.var 0) (cB 3) (tB 11) []
  | 0, _ => k0_b3
  | 1, _ => k1_b3
  | 2, _ => k2_b3
  | 3, _ => k3_b3
  | 4, _ => k4_b3
  | 5, _ => k5_b3
  | 6, _ => k6_b3
  | 7, _ => k7_b3
  | 8, _ => k8_b3
  | q + 9, h => absurd h (by omega)
theorem kMtHigh : ∀ q : Nat, q < 9 → K q .norm q (.var 0) (cMine 0 8) tHigh []
  | 0, _ => k0_mtHigh
  | 1, _ => k1_mtHigh
  | 2, _ => k2_mtHigh
  | 3, _ => k3_mtHigh
  | 4, _ => k4_mtHigh
  | 5, _ => k5_mtHigh
  | 6, _ => k6_mtHigh
  | 7, _ => k7_mtHigh
  | 8, _ => k8_mtHigh
  | q + 9, h => absurd h (by omega)
theorem kMtLow : ∀ q : Nat, q < 9 → 0 < q → K q .norm q (.var 0) (cMine 0 8) tLow []
  | 0, _, h => absurd h (by omega)
  | 1, _, _ => k1_mtLow
  | 2, _, _ => k2_mtLow
  | 3, _, _ => k3_mtLow
  | 4, _, _ => k4_mtLow
  | 5, _, _ => k5_mtLow
  | 6, _, _ => k6_mtLow
  | 7, _, _ => k7_mtLow
  | 8, _, _ => k8_mtLow
  | q + 9, h, _ => absurd h (by omega)
theorem kMt : ∀ d : Nat, d < 8 → K 0 .norm (d + 1) pv (cMine 0 8) pLow (pgN pv d)
  | 0, _ => k0_mt_0
  | 1, _ => k0_mt_1
  | 2, _ => k0_mt_2
  | 3, _ => k0_mt_3
  | 4, _ => k0_mt_4
  | 5, _ => k0_mt_5
  | 6, _ => k0_mt_6
  | 7, _ => k0_mt_7
  | d + 8, h => absurd h (by omega)
theorem kUt : ∀ q : Nat, q < 9 → K q .norm 0 (.var 0) (cMine 1 8) [] []
  | 0, _ => k0_ut
  | 1, _ => k1_ut
  | 2, _ => k2_ut
  | 3, _ => k3_ut
  | 4, _ => k4_ut
  | 5, _ => k5_ut
  | 6, _ => k6_ut
  | 7, _ => k7_ut
  | 8, _ => k8_ut
  | q + 9, h => absurd h (by omega)
theorem kMfHigh : ∀ q : Nat, q < 9 → K q .norm q (.var 0) (cMine 2 11) tHigh []
  | 0, _ => k0_mfHigh
  | 1, _ => k1_mfHigh
  | 2, _ => k2_mfHigh
  | 3, _ => k3_mfHigh
  | 4, _ => k4_mfHigh
  | 5, _ => k5_mfHigh
  | 6, _ => k6_mfHigh
  | 7, _ => k7_mfHigh
  | 8, _ => k8_mfHigh
  | q + 9, h => absurd h (by omega)
theorem kMfUnal : ∀ q : Nat, q < 9 → K q .norm q (.var 0) (cMine 2 11) tUnal []
  | 0, _ => k0_mfUnal
  | 1, _ => k1_mfUnal
  | 2, _ => k2_mfUnal
  | 3, _ => k3_mfUnal
  | 4, _ => k4_mfUnal
  | 5, _ => k5_mfUnal
  | 6, _ => k6_mfUnal
  | 7, _ => k7_mfUnal
  | 8, _ => k8_mfUnal
  | q + 9, h => absurd h (by omega)
theorem kMfSmall : ∀ q : Nat, q < 9 → K q .norm q (.var 0) (cMine 2 11) tSmall nAl
  | 0, _ => k0_mfSmall
  | 1, _ => k1_mfSmall
  | 2, _ => k2_mfSmall
  | 3, _ => k3_mfSmall
  | 4, _ => k4_mfSmall
  | 5, _ => k5_mfSmall
  | 6, _ => k6_mfSmall
  | 7, _ => k7_mfSmall
  | 8, _ => k8_mfSmall
  | q + 9, h => absurd h (by omega)
theorem kMfGreat : ∀ q : Nat, q < 9 → K q .norm q (.var 0) (cMine 2 11) tGreat nAl
  | 0, _ => k0_mfGreat
  | 1, _ => k1_mfGreat
  | 2, _ => k2_mfGreat
  | 3, _ => k3_mfGreat
  | 4, _ => k4_mfGreat
  | 5, _ => k5_mfGreat
  | 6, _ => k6_mfGreat
  | 7, _ => k7_mfGreat
  | 8, _ => k8_mfGreat
  | q + 9, h => absurd h (by omega)
theorem kMf0 : ∀ q : Nat, q < 9 → ∀ d e : Nat, d < 8 → e < 8 → (d + 1 ≠ q → K q .norm q (.var 0) (cMF 0) pLow (pAl d)) ∧ (d + 1 = q → K q .norm q (.var 0) (cMF 0) pLow (pAl2 d e))
  | 0, _ => k0_mf0
  | 1, _ => k1_mf0
  | 2, _ => k2_mf0
  | 3, _ => k3_mf0
  | 4, _ => k4_mf0
  | 5, _ => k5_mf0
  | 6, _ => k6_mf0
  | 7, _ => k7_mf0
  | 8, _ => k8_mf0
  | q + 9, h => absurd h (by omega)
theorem kMf1 : ∀ q : Nat, q < 9 → ∀ d e : Nat, d < 8 → e < 8 → (d + 1 ≠ q → K q .norm q (.var 0) (cMF 1) pLow (pAl d)) ∧ (d + 1 = q → K q .norm q (.var 0) (cMF 1) pLow (pAl2 d e))
  | 0, _ => k0_mf1
  | 1, _ => k1_mf1
  | 2, _ => k2_mf1
  | 3, _ => k3_mf1
  | 4, _ => k4_mf1
  | 5, _ => k5_mf1
  | 6, _ => k6_mf1
  | 7, _ => k7_mf1
  | 8, _ => k8_mf1
  | q + 9, h => absurd h (by omega)
theorem kMf2 : ∀ q : Nat, q < 9 → ∀ d e : Nat, d < 8 → e < 8 → (d + 1 ≠ q → K q .norm q (.var 0) (cMF 2) pLow (pAl d)) ∧ (d + 1 = q → K q .norm q (.var 0) (cMF 2) pLow (pAl2 d e))
  | 0, _ => k0_mf2
  | 1, _ => k1_mf2
  | 2, _ => k2_mf2
  | 3, _ => k3_mf2
  | 4, _ => k4_mf2
  | 5, _ => k5_mf2
  | 6, _ => k6_mf2
  | 7, _ => k7_mf2
  | 8, _ => k8_mf2
  | q + 9, h => absurd h (by omega)
theorem kUf : ∀ q : Nat, q < 9 → K q .norm q (.var 0) (cMine 3 11) [] []
  | 0, _ => k0_uf
  | 1, _ => k1_uf
  | 2, _ => k2_uf
  | 3, _ => k3_uf
  | 4, _ => k4_uf
  | 5, _ => k5_uf
  | 6, _ => k6_uf
  | 7, _ => k7_uf
  | 8, _ => k8_uf
  | q + 9, h => absurd h (by omega)
theorem kFNeg : ∀ q : Nat, q < 9 → K q .norm q (.var 0) cF tCneg []
  | 0, _ => k0_fNeg
  | 1, _ => k1_fNeg
  | 2, _ => k2_fNeg
  | 3, _ => k3_fNeg
  | 4, _ => k4_fNeg
  | 5, _ => k5_fNeg
  | 6, _ => k6_fNeg
  | 7, _ => k7_fNeg
  | 8, _ => k8_fNeg
  | q + 9, h => absurd h (by omega)
theorem kFOut : ∀ q : Nat, q < 9 → K q .norm q (.var 0) cF tCout []
  | 0, _ => k0_fOut
  | 1, _ => k1_fOut
  | 2, _ => k2_fOut
  | 3, _ => k3_fOut
  | 4, _ => k4_fOut
  | 5, _ => k5_fOut
  | 6, _ => k6_fOut
  | 7, _ => k7_fOut
  | 8, _ => k8_fOut
  | q + 9, h => absurd h (by omega)
theorem kF0Neg : ∀ q : Nat, q < 9 → K q .norm q (.var 0) (cFc 0) tNneg []
  | 0, _ => k0_f0Neg
  | 1, _ => k1_f0Neg
  | 2, _ => k2_f0Neg
  | 3, _ => k3_f0Neg
  | 4, _ => k4_f0Neg
  | 5, _ => k5_f0Neg
  | 6, _ => k6_f0Neg
  | 7, _ => k7_f0Neg
  | 8, _ => k8_f0Neg
  | q + 9, h => absurd h (by omega)
theorem kF0Out : ∀ q : Nat, q < 9 → K q .norm q (.var 0) (cFc 0) tNout []
  | 0, _ => k0_f0Out
  | 1, _ => k1_f0Out
  | 2, _ => k2_f0Out
  | 3, _ => k3_f0Out
  | 4, _ => k4_f0Out
  | 5, _ => k5_f0Out
  | 6, _ => k6_f0Out
  | 7, _ => k7_f0Out
  | 8, _ => k8_f0Out
  | q + 9, h => absurd h (by omega)
theorem kF1Neg : ∀ q : Nat, q < 9 → K q .norm q (.var 0) (cFc 1) tNneg []
  | 0, _ => k0_f1Neg
  | 1, _ => k1_f1Neg
  | 2, _ => k2_f1Neg
  | 3, _ => k3_f1Neg
  | 4, _ => k4_f1Neg
  | 5, _ => k5_f1Neg
  | 6, _ => k6_f1Neg
  | 7, _ => k7_f1Neg
  | 8, _ => k8_f1Neg
  | q + 9, h => absurd h (by omega)
theorem kF1Out : ∀ q : Nat, q < 9 → K q .norm q (.var 0) (cFc 1) tNout []
  | 0, _ => k0_f1Out
  | 1, _ => k1_f1Out
  | 2, _ => k2_f1Out
  | 3, _ => k3_f1Out
  | 4, _ => k4_f1Out
  | 5, _ => k5_f1Out
  | 6, _ => k6_f1Out
  | 7, _ => k7_f1Out
  | 8, _ => k8_f1Out
  | q + 9, h => absurd h (by omega)
theorem kF1 : ∀ q : Nat, q < 9 → K q .norm q (.var 0) (cFc 1) (pgC (.var 2)) []
  | 0, _ => k0_f1
  | 1, _ => k1_f1
  | 2, _ => k2_f1
  | 3, _ => k3_f1
  | 4, _ => k4_f1
  | 5, _ => k5_f1
  | 6, _ => k6_f1
  | 7, _ => k7_f1
  | 8, _ => k8_f1
  | q + 9, h => absurd h (by omega)
theorem kF0 : ∀ q : Nat, q < 9 → ∀ d e : Nat, d < 8 → e < 8 → (d + 1 ≠ q → K q .norm q (.var 0) (cFc 0) (pgC (.var 2)) (pgN (.var 2) d)) ∧ (d + 1 = q → K q .norm q (.var 0) (cFc 0) (pgC (.var 2)) (fN2 d e))
  | 0, _ => k0_f0
  | 1, _ => k1_f0
  | 2, _ => k2_f0
  | 3, _ => k3_f0
  | 4, _ => k4_f0
  | 5, _ => k5_f0
  | 6, _ => k6_f0
  | 7, _ => k7_f0
  | 8, _ => k8_f0
  | q + 9, h => absurd h (by omega)
theorem clQ : ∀ q : Nat, q < 9 → closedL (lst q) 3646 = true
  | 0, _ => clU
  | 1, _ => clM0
  | 2, _ => clM1
  | 3, _ => clM2
  | 4, _ => clM3
  | 5, _ => clM4
  | 6, _ => clM5
  | 7, _ => clM6
  | 8, _ => clM7
  | q + 9, h => absurd h (by omega)
theorem key0 : ∀ q : Nat, hasKey (lst q) 0 = true
  | 0 => rfl
  | _ + 1 => rfl
end VO
