/- VspaceOthers: the evaluations of its loop's body, place 8. No conditions beside those in its theorems. -/
import Derived.Test.YtpiicallicgdkaaGreatVOF
set_option linter.unusedVariables false
open Go Eng Go.Proofs Go.RowKit
namespace VO
open Base
theorem k8_other : K 8 (.exit 1) 8 (.var 0) cOther tOther [] := by intro v0 v7; kernel_rfl
theorem k8_a0t : K 8 (.exit 1) 8 (.var 0) (cA 0) (tA 8 true) [] := by intro v0 v7; kernel_rfl
theorem k8_a0f : K 8 (.exit 1) 8 (.var 0) (cA 0) (tA 8 false) [] := by intro v0 v7; kernel_rfl
theorem k8_b0 : K 8 (.exit 1) 8 (.var 0) (cB 0) (tB 8) [] := by intro v0 v7; kernel_rfl
theorem k8_a1t : K 8 (.exit 1) 8 (.var 0) (cA 1) (tA 8 true) [] := by intro v0 v7; kernel_rfl
theorem k8_a1f : K 8 (.exit 1) 8 (.var 0) (cA 1) (tA 8 false) [] := by intro v0 v7; kernel_rfl
theorem k8_b1 : K 8 (.exit 1) 8 (.var 0) (cB 1) (tB 8) [] := by intro v0 v7; kernel_rfl
theorem k8_a2t : K 8 (.exit 1) 8 (.var 0) (cA 2) (tA 11 true) [] := by intro v0 v7; kernel_rfl
theorem k8_a2f : K 8 (.exit 1) 8 (.var 0) (cA 2) (tA 11 false) [] := by intro v0 v7; kernel_rfl
theorem k8_b2 : K 8 (.exit 1) 8 (.var 0) (cB 2) (tB 11) [] := by intro v0 v7; kernel_rfl
theorem k8_a3t : K 8 (.exit 1) 8 (.var 0) (cA 3) (tA 11 true) [] := by intro v0 v7; kernel_rfl
theorem k8_a3f : K 8 (.exit 1) 8 (.var 0) (cA 3) (tA 11 false) [] := by intro v0 v7; kernel_rfl
theorem k8_b3 : K 8 (.exit 1) 8 (.var 0) (cB 3) (tB 11) [] := by intro v0 v7; kernel_rfl
theorem k8_mtHigh : K 8 .norm 8 (.var 0) (cMine 0 8) tHigh [] := by intro v0 v7; kernel_rfl
theorem k8_mtLow : K 8 .norm 8 (.var 0) (cMine 0 8) tLow [] := by intro v0 v7; kernel_rfl
theorem k8_ut : K 8 .norm 0 (.var 0) (cMine 1 8) [] [] := by intro v0 v7; kernel_rfl
theorem k8_mfHigh : K 8 .norm 8 (.var 0) (cMine 2 11) tHigh [] := by intro v0 v7; kernel_rfl
theorem k8_mfUnal : K 8 .norm 8 (.var 0) (cMine 2 11) tUnal [] := by intro v0 v7; kernel_rfl
theorem k8_mfSmall : K 8 .norm 8 (.var 0) (cMine 2 11) tSmall nAl := by intro v0 v7; kernel_rfl
theorem k8_mfGreat : K 8 .norm 8 (.var 0) (cMine 2 11) tGreat nAl := by intro v0 v7; kernel_rfl
theorem k8_mf_0_0 : K 8 .norm 8 (.var 0) (cMF 0) pLow (pAl 0) := by intro v0 v7; kernel_rfl
theorem k8_mf_0_1 : K 8 .norm 8 (.var 0) (cMF 0) pLow (pAl 1) := by intro v0 v7; kernel_rfl
theorem k8_mf_0_2 : K 8 .norm 8 (.var 0) (cMF 0) pLow (pAl 2) := by intro v0 v7; kernel_rfl
theorem k8_mf_0_3 : K 8 .norm 8 (.var 0) (cMF 0) pLow (pAl 3) := by intro v0 v7; kernel_rfl
theorem k8_mf_0_4 : K 8 .norm 8 (.var 0) (cMF 0) pLow (pAl 4) := by intro v0 v7; kernel_rfl
theorem k8_mf_0_5 : K 8 .norm 8 (.var 0) (cMF 0) pLow (pAl 5) := by intro v0 v7; kernel_rfl
theorem k8_mf_0_6 : K 8 .norm 8 (.var 0) (cMF 0) pLow (pAl 6) := by intro v0 v7; kernel_rfl
theorem k8_mf_0_7_0 : K 8 .norm 8 (.var 0) (cMF 0) pLow (pAl2 7 0) := by intro v0 v7; kernel_rfl
theorem k8_mf_0_7_1 : K 8 .norm 8 (.var 0) (cMF 0) pLow (pAl2 7 1) := by intro v0 v7; kernel_rfl
theorem k8_mf_0_7_2 : K 8 .norm 8 (.var 0) (cMF 0) pLow (pAl2 7 2) := by intro v0 v7; kernel_rfl
theorem k8_mf_0_7_3 : K 8 .norm 8 (.var 0) (cMF 0) pLow (pAl2 7 3) := by intro v0 v7; kernel_rfl
theorem k8_mf_0_7_4 : K 8 .norm 8 (.var 0) (cMF 0) pLow (pAl2 7 4) := by intro v0 v7; kernel_rfl
theorem k8_mf_0_7_5 : K 8 .norm 8 (.var 0) (cMF 0) pLow (pAl2 7 5) := by intro v0 v7; kernel_rfl
theorem k8_mf_0_7_6 : K 8 .norm 8 (.var 0) (cMF 0) pLow (pAl2 7 6) := by intro v0 v7; kernel_rfl
theorem k8_mf_0_7_7 : K 8 .norm 8 (.var 0) (cMF 0) pLow (pAl2 7 7) := by intro v0 v7; kernel_rfl
theorem k8_mf_1_0 : K 8 .norm 8 (.var 0) (cMF 1) pLow (pAl 0) := by intro v0 v7; kernel_rfl
theorem k8_mf_1_1 : K 8 .norm 8 (.var 0) (cMF 1) pLow (pAl 1) := by intro v0 v7; kernel_rfl
theorem k8_mf_1_2 : K 8 .norm 8 (.var 0) (cMF 1) pLow (pAl 2) := by intro v0 v7; kernel_rfl
theorem k8_mf_1_3 : K 8 .norm 8 (.var 0) (cMF 1) pLow (pAl 3) := by intro v0 v7; kernel_rfl
theorem k8_mf_1_4 : K 8 .norm 8 (.var 0) (cMF 1) pLow (pAl 4) := by intro v0 v7; kernel_rfl
theorem k8_mf_1_5 : K 8 .norm 8 (.var 0) (cMF 1) pLow (pAl 5) := by intro v0 v7; kernel_rfl
theorem k8_mf_1_6 : K 8 .norm 8 (.var 0) (cMF 1) pLow (pAl 6) := by intro v0 v7; kernel_rfl
theorem k8_mf_1_7_0 : K 8 .norm 8 (.var 0) (cMF 1) pLow (pAl2 7 0) := by intro v0 v7; kernel_rfl
theorem k8_mf_1_7_1 : K 8 .norm 8 (.var 0) (cMF 1) pLow (pAl2 7 1) := by intro v0 v7; kernel_rfl
theorem k8_mf_1_7_2 : K 8 .norm 8 (.var 0) (cMF 1) pLow (pAl2 7 2) := by intro v0 v7; kernel_rfl
theorem k8_mf_1_7_3 : K 8 .norm 8 (.var 0) (cMF 1) pLow (pAl2 7 3) := by intro v0 v7; kernel_rfl
theorem k8_mf_1_7_4 : K 8 .norm 8 (.var 0) (cMF 1) pLow (pAl2 7 4) := by intro v0 v7; kernel_rfl
theorem k8_mf_1_7_5 : K 8 .norm 8 (.var 0) (cMF 1) pLow (pAl2 7 5) := by intro v0 v7; kernel_rfl
theorem k8_mf_1_7_6 : K 8 .norm 8 (.var 0) (cMF 1) pLow (pAl2 7 6) := by intro v0 v7; kernel_rfl
theorem k8_mf_1_7_7 : K 8 .norm 8 (.var 0) (cMF 1) pLow (pAl2 7 7) := by intro v0 v7; kernel_rfl
theorem k8_mf_2_0 : K 8 .norm 8 (.var 0) (cMF 2) pLow (pAl 0) := by intro v0 v7; kernel_rfl
theorem k8_mf_2_1 : K 8 .norm 8 (.var 0) (cMF 2) pLow (pAl 1) := by intro v0 v7; kernel_rfl
theorem k8_mf_2_2 : K 8 .norm 8 (.var 0) (cMF 2) pLow (pAl 2) := by intro v0 v7; kernel_rfl
theorem k8_mf_2_3 : K 8 .norm 8 (.var 0) (cMF 2) pLow (pAl 3) := by intro v0 v7; kernel_rfl
theorem k8_mf_2_4 : K 8 .norm 8 (.var 0) (cMF 2) pLow (pAl 4) := by intro v0 v7; kernel_rfl
theorem k8_mf_2_5 : K 8 .norm 8 (.var 0) (cMF 2) pLow (pAl 5) := by intro v0 v7; kernel_rfl
theorem k8_mf_2_6 : K 8 .norm 8 (.var 0) (cMF 2) pLow (pAl 6) := by intro v0 v7; kernel_rfl
theorem k8_mf_2_7_0 : K 8 .norm 8 (.var 0) (cMF 2) pLow (pAl2 7 0) := by intro v0 v7; kernel_rfl
theorem k8_mf_2_7_1 : K 8 .norm 8 (.var 0) (cMF 2) pLow (pAl2 7 1) := by intro v0 v7; kernel_rfl
theorem k8_mf_2_7_2 : K 8 .norm 8 (.var 0) (cMF 2) pLow (pAl2 7 2) := by intro v0 v7; kernel_rfl
theorem k8_mf_2_7_3 : K 8 .norm 8 (.var 0) (cMF 2) pLow (pAl2 7 3) := by intro v0 v7; kernel_rfl
theorem k8_mf_2_7_4 : K 8 .norm 8 (.var 0) (cMF 2) pLow (pAl2 7 4) := by intro v0 v7; kernel_rfl
theorem k8_mf_2_7_5 : K 8 .norm 8 (.var 0) (cMF 2) pLow (pAl2 7 5) := by intro v0 v7; kernel_rfl
theorem k8_mf_2_7_6 : K 8 .norm 8 (.var 0) (cMF 2) pLow (pAl2 7 6) := by intro v0 v7; kernel_rfl
theorem k8_mf_2_7_7 : K 8 .norm 8 (.var 0) (cMF 2) pLow (pAl2 7 7) := by intro v0 v7; kernel_rfl
theorem k8_uf : K 8 .norm 8 (.var 0) (cMine 3 11) [] [] := by intro v0 v7; kernel_rfl
theorem k8_fNeg : K 8 .norm 8 (.var 0) cF tCneg [] := by intro v0 v7; kernel_rfl
theorem k8_fOut : K 8 .norm 8 (.var 0) cF tCout [] := by intro v0 v7; kernel_rfl
theorem k8_f0Neg : K 8 .norm 8 (.var 0) (cFc 0) tNneg [] := by intro v0 v7; kernel_rfl
theorem k8_f0Out : K 8 .norm 8 (.var 0) (cFc 0) tNout [] := by intro v0 v7; kernel_rfl
theorem k8_f1Neg : K 8 .norm 8 (.var 0) (cFc 1) tNneg [] := by intro v0 v7; kernel_rfl
theorem k8_f1Out : K 8 .norm 8 (.var 0) (cFc 1) tNout [] := by intro v0 v7; kernel_rfl
theorem k8_f1 : K 8 .norm 8 (.var 0) (cFc 1) (pgC (.var 2)) [] := by intro v0 v7; kernel_rfl
theorem k8_f0_0 : K 8 .norm 8 (.var 0) (cFc 0) (pgC (.var 2)) (pgN (.var 2) 0) := by intro v0 v7; kernel_rfl
theorem k8_f0_1 : K 8 .norm 8 (.var 0) (cFc 0) (pgC (.var 2)) (pgN (.var 2) 1) := by intro v0 v7; kernel_rfl
theorem k8_f0_2 : K 8 .norm 8 (.var 0) (cFc 0) (pgC (.var 2)) (pgN (.var 2) 2) := by intro v0 v7; kernel_rfl
theorem k8_f0_3 : K 8 .norm 8 (.var 0) (cFc 0) (pgC (.var 2)) (pgN (.var 2) 3) := by intro v0 v7; kernel_rfl
theorem k8_f0_4 : K 8 .norm 8 (.var 0) (cFc 0) (pgC (.var 2)) (pgN (.var 2) 4) := by intro v0 v7; kernel_rfl
theorem k8_f0_5 : K 8 .norm 8 (.var 0) (cFc 0) (pgC (.var 2)) (pgN (.var 2) 5) := by intro v0 v7; kernel_rfl
theorem k8_f0_6 : K 8 .norm 8 (.var 0) (cFc 0) (pgC (.var 2)) (pgN (.var 2) 6) := by intro v0 v7; kernel_rfl
theorem k8_f0_7_0 : K 8 .norm 8 (.var 0) (cFc 0) (pgC (.var 2)) (fN2 7 0) := by intro v0 v7; kernel_rfl
theorem k8_f0_7_1 : K 8 .norm 8 (.var 0) (cFc 0) (pgC (.var 2)) (fN2 7 1) := by intro v0 v7; kernel_rfl
theorem k8_f0_7_2 : K 8 .norm 8 (.var 0) (cFc 0) (pgC (.var 2)) (fN2 7 2) := by intro v0 v7; kernel_rfl
theorem k8_f0_7_3 : K 8 .norm 8 (.var 0) (cFc 0) (pgC (.var 2)) (fN2 7 3) := by intro v0 v7; kernel_rfl
theorem k8_f0_7_4 : K 8 .norm 8 (.var 0) (cFc 0) (pgC (.var 2)) (fN2 7 4) := by intro v0 v7; kernel_rfl
theorem k8_f0_7_5 : K 8 .norm 8 (.var 0) (cFc 0) (pgC (.var 2)) (fN2 7 5) := by intro v0 v7; kernel_rfl
theorem k8_f0_7_6 : K 8 .norm 8 (.var 0) (cFc 0) (pgC (.var 2)) (fN2 7 6) := by intro v0 v7; kernel_rfl
theorem k8_f0_7_7 : K 8 .norm 8 (.var 0) (cFc 0) (pgC (.var 2)) (fN2 7 7) := by intro v0 v7; kernel_rfl
theorem k8_mf0 : ∀ d e : Nat, d < 8 → e < 8 → (d + 1 ≠ 8 → K 8 .norm 8 (.var 0) (cMF 0) pLow (pAl d)) ∧ (d + 1 = 8 → K 8 .norm 8 (.var 0) (cMF 0) pLow (pAl2 d e))
  | 0, _, _, _ => ⟨fun _ => k8_mf_0_0, fun h => absurd h (by decide)⟩
  | 1, _, _, _ => ⟨fun _ => k8_mf_0_1, fun h => absurd h (by decide)⟩
  | 2, _, _, _ => ⟨fun _ => k8_mf_0_2, fun h => absurd h (by decide)⟩
  | 3, _, _, _ => ⟨fun _ => k8_mf_0_3, fun h => absurd h (by decide)⟩
  | 4, _, _, _ => ⟨fun _ => k8_mf_0_4, fun h => absurd h (by decide)⟩
  | 5, _, _, _ => ⟨fun _ => k8_mf_0_5, fun h => absurd h (by decide)⟩
  | 6, _, _, _ => ⟨fun _ => k8_mf_0_6, fun h => absurd h (by decide)⟩
  | 7, 0, _, _ => ⟨fun h => absurd rfl h, fun _ => k8_mf_0_7_0⟩
  | 7, 1, _, _ => ⟨fun h => absurd rfl h, fun _ => k8_mf_0_7_1⟩
  | 7, 2, _, _ => ⟨fun h => absurd rfl h, fun _ => k8_mf_0_7_2⟩
  | 7, 3, _, _ => ⟨fun h => absurd rfl h, fun _ => k8_mf_0_7_3⟩
  | 7, 4, _, _ => ⟨fun h => absurd rfl h, fun _ => k8_mf_0_7_4⟩
  | 7, 5, _, _ => ⟨fun h => absurd rfl h, fun _ => k8_mf_0_7_5⟩
  | 7, 6, _, _ => ⟨fun h => absurd rfl h, fun _ => k8_mf_0_7_6⟩
  | 7, 7, _, _ => ⟨fun h => absurd rfl h, fun _ => k8_mf_0_7_7⟩
  | 7, e + 8, _, h => absurd h (by omega)
  | d + 8, _, h, _ => absurd h (by omega)
theorem k8_mf1 : ∀ d e : Nat, d < 8 → e < 8 → (d + 1 ≠ 8 → K 8 .norm 8 (.var 0) (cMF 1) pLow (pAl d)) ∧ (d + 1 = 8 → K 8 .norm 8 (.var 0) (cMF 1) pLow (pAl2 d e))
  | 0, _, _, _ => ⟨fun _ => k8_mf_1_0, fun h => absurd h (by decide)⟩
  | 1, _, _, _ => ⟨fun _ => k8_mf_1_1, fun h => absurd h (by decide)⟩
  | 2, _, _, _ => ⟨fun _ => k8_mf_1_2, fun h => absurd h (by decide)⟩
  | 3, _, _, _ => ⟨fun _ => k8_mf_1_3, fun h => absurd h (by decide)⟩
  | 4, _, _, _ => ⟨fun _ => k8_mf_1_4, fun h => absurd h (by decide)⟩
  | 5, _, _, _ => ⟨fun _ => k8_mf_1_5, fun h => absurd h (by decide)⟩
  | 6, _, _, _ => ⟨fun _ => k8_mf_1_6, fun h => absurd h (by decide)⟩
  | 7, 0, _, _ => ⟨fun h => absurd rfl h, fun _ => k8_mf_1_7_0⟩
  | 7, 1, _, _ => ⟨fun h => absurd rfl h, fun _ => k8_mf_1_7_1⟩
  | 7, 2, _, _ => ⟨fun h => absurd rfl h, fun _ => k8_mf_1_7_2⟩
  | 7, 3, _, _ => ⟨fun h => absurd rfl h, fun _ => k8_mf_1_7_3⟩
  | 7, 4, _, _ => ⟨fun h => absurd rfl h, fun _ => k8_mf_1_7_4⟩
  | 7, 5, _, _ => ⟨fun h => absurd rfl h, fun _ => k8_mf_1_7_5⟩
  | 7, 6, _, _ => ⟨fun h => absurd rfl h, fun _ => k8_mf_1_7_6⟩
  | 7, 7, _, _ => ⟨fun h => absurd rfl h, fun _ => k8_mf_1_7_7⟩
  | 7, e + 8, _, h => absurd h (by omega)
  | d + 8, _, h, _ => absurd h (by omega)
theorem k8_mf2 : ∀ d e : Nat, d < 8 → e < 8 → (d + 1 ≠ 8 → K 8 .norm 8 (.var 0) (cMF 2) pLow (pAl d)) ∧ (d + 1 = 8 → K 8 .norm 8 (.var 0) (cMF 2) pLow (pAl2 d e))
  | 0, _, _, _ => ⟨fun _ => k8_mf_2_0, fun h => absurd h (by decide)⟩
  | 1, _, _, _ => ⟨fun _ => k8_mf_2_1, fun h => absurd h (by decide)⟩
  | 2, _, _, _ => ⟨fun _ => k8_mf_2_2, fun h => absurd h (by decide)⟩
  | 3, _, _, _ => ⟨fun _ => k8_mf_2_3, fun h => absurd h (by decide)⟩
  | 4, _, _, _ => ⟨fun _ => k8_mf_2_4, fun h => absurd h (by decide)⟩
  | 5, _, _, _ => ⟨fun _ => k8_mf_2_5, fun h => absurd h (by decide)⟩
  | 6, _, _, _ => ⟨fun _ => k8_mf_2_6, fun h => absurd h (by decide)⟩
  | 7, 0, _, _ => ⟨fun h => absurd rfl h, fun _ => k8_mf_2_7_0⟩
  | 7, 1, _, _ => ⟨fun h => absurd rfl h, fun _ => k8_mf_2_7_1⟩
  | 7, 2, _, _ => ⟨fun h => absurd rfl h, fun _ => k8_mf_2_7_2⟩
  | 7, 3, _, _ => ⟨fun h => absurd rfl h, fun _ => k8_mf_2_7_3⟩
  | 7, 4, _, _ => ⟨fun h => absurd rfl h, fun _ => k8_mf_2_7_4⟩
  | 7, 5, _, _ => ⟨fun h => absurd rfl h, fun _ => k8_mf_2_7_5⟩
  | 7, 6, _, _ => ⟨fun h => absurd rfl h, fun _ => k8_mf_2_7_6⟩
  | 7, 7, _, _ => ⟨fun h => absurd rfl h, fun _ => k8_mf_2_7_7⟩
  | 7, e + 8, _, h => absurd h (by omega)
  | d + 8, _, h, _ => absurd h (by omega)
theorem k8_f0 : ∀ d e : Nat, d < 8 → e < 8 → (d + 1 ≠ 8 → K 8 .norm 8 (.var 0) (cFc 0) (pgC (.var 2)) (pgN (.var 2) d)) ∧ (d + 1 = 8 → K 8 .norm 8 (.var 0) (cFc 0) (pgC (.var 2)) (fN2 d e))
  | 0, _, _, _ => ⟨fun _ => k8_f0_0, fun h => absurd h (by decide)⟩
  | 1, _, _, _ => ⟨fun _ => k8_f0_1, fun h => absurd h (by decide)⟩
  | 2, _, _, _ => ⟨fun _ => k8_f0_2, fun h => absurd h (by decide)⟩
  | 3, _, _, _ => ⟨fun _ => k8_f0_3, fun h => absurd h (by decide)⟩
  | 4, _, _, _ => ⟨fun _ => k8_f0_4, fun h => absurd h (by decide)⟩
  | 5, _, _, _ => ⟨fun _ => k8_f0_5, fun h => absurd h (by decide)⟩
  | 6, _, _, _ => ⟨fun _ => k8_f0_6, fun h => absurd h (by decide)⟩
  | 7, 0, _, _ => ⟨fun h => absurd rfl h, fun _ => k8_f0_7_0⟩
  | 7, 1, _, _ => ⟨fun h => absurd rfl h, fun _ => k8_f0_7_1⟩
  | 7, 2, _, _ => ⟨fun h => absurd rfl h, fun _ => k8_f0_7_2⟩
  | 7, 3, _, _ => ⟨fun h => absurd rfl h, fun _ => k8_f0_7_3⟩
  | 7, 4, _, _ => ⟨fun h => absurd rfl h, fun _ => k8_f0_7_4⟩
  | 7, 5, _, _ => ⟨fun h => absurd rfl h, fun _ => k8_f0_7_5⟩
  | 7, 6, _, _ => ⟨fun h => absurd rfl h, fun _ => k8_f0_7_6⟩
  | 7, 7, _, _ => ⟨fun h => absurd rfl h, fun _ => k8_f0_7_7⟩
  | 7, e + 8, _, h => absurd h (by omega)
  | d + 8, _, h, _ => absurd h (by omega)
end VO
