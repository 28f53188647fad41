/- VspaceOthers: the evaluations of its loop's body, place 6. No conditions beside those in its theorems. -/
import Derived.Test.YtpiicallicgdkaaGreatVOF
set_option linter.unusedVariables false
open Go Eng Go.Proofs Go.RowKit
namespace VO
open Base
theorem k6_other : K 6 (.exit 1) 6 (.var 0) cOther tOther [] := by intro v0 v7; kernel_rfl
theorem k6_a0t : K 6 (.exit 1) 6 (.var 0) (cA 0) (tA 8 true) [] := by intro v0 v7; kernel_rfl
theorem k6_a0f : K 6 (.exit 1) 6 (.var 0) (cA 0) (tA 8 false) [] := by intro v0 v7; kernel_rfl
theorem k6_b0 : K 6 (.exit 1) 6 (.var 0) (cB 0) (tB 8) [] := by intro v0 v7; kernel_rfl
theorem k6_a1t : K 6 (.exit 1) 6 (.var 0) (cA 1) (tA 8 true) [] := by intro v0 v7; kernel_rfl
theorem k6_a1f : K 6 (.exit 1) 6 (.var 0) (cA 1) (tA 8 false) [] := by intro v0 v7; kernel_rfl
theorem k6_b1 : K 6 (.exit 1) 6 (.var 0) (cB 1) (tB 8) [] := by intro v0 v7; kernel_rfl
theorem k6_a2t : K 6 (.exit 1) 6 (.var 0) (cA 2) (tA 11 true) [] := by intro v0 v7; kernel_rfl
theorem k6_a2f : K 6 (.exit 1) 6 (.var 0) (cA 2) (tA 11 false) [] := by intro v0 v7; kernel_rfl
theorem k6_b2 : K 6 (.exit 1) 6 (.var 0) (cB 2) (tB 11) [] := by intro v0 v7; kernel_rfl
theorem k6_a3t : K 6 (.exit 1) 6 (.var 0) (cA 3) (tA 11 true) [] := by intro v0 v7; kernel_rfl
theorem k6_a3f : K 6 (.exit 1) 6 (.var 0) (cA 3) (tA 11 false) [] := by intro v0 v7; kernel_rfl
theorem k6_b3 : K 6 (.exit 1) 6 (.var 0) (cB 3) (tB 11) [] := by intro v0 v7; kernel_rfl
theorem k6_mtHigh : K 6 .norm 6 (.var 0) (cMine 0 8) tHigh [] := by intro v0 v7; kernel_rfl
theorem k6_mtLow : K 6 .norm 6 (.var 0) (cMine 0 8) tLow [] := by intro v0 v7; kernel_rfl
theorem k6_ut : K 6 .norm 0 (.var 0) (cMine 1 8) [] [] := by intro v0 v7; kernel_rfl
theorem k6_mfHigh : K 6 .norm 6 (.var 0) (cMine 2 11) tHigh [] := by intro v0 v7; kernel_rfl
theorem k6_mfUnal : K 6 .norm 6 (.var 0) (cMine 2 11) tUnal [] := by intro v0 v7; kernel_rfl
theorem k6_mfSmall : K 6 .norm 6 (.var 0) (cMine 2 11) tSmall nAl := by intro v0 v7; kernel_rfl
theorem k6_mfGreat : K 6 .norm 6 (.var 0) (cMine 2 11) tGreat nAl := by intro v0 v7; kernel_rfl
theorem k6_mf_0_0 : K 6 .norm 6 (.var 0) (cMF 0) pLow (pAl 0) := by intro v0 v7; kernel_rfl
theorem k6_mf_0_1 : K 6 .norm 6 (.var 0) (cMF 0) pLow (pAl 1) := by intro v0 v7; kernel_rfl
theorem k6_mf_0_2 : K 6 .norm 6 (.var 0) (cMF 0) pLow (pAl 2) := by intro v0 v7; kernel_rfl
theorem k6_mf_0_3 : K 6 .norm 6 (.var 0) (cMF 0) pLow (pAl 3) := by intro v0 v7; kernel_rfl
theorem k6_mf_0_4 : K 6 .norm 6 (.var 0) (cMF 0) pLow (pAl 4) := by intro v0 v7; kernel_rfl
theorem k6_mf_0_5_0 : K 6 .norm 6 (.var 0) (cMF 0) pLow (pAl2 5 0) := by intro v0 v7; kernel_rfl
theorem k6_mf_0_5_1 : K 6 .norm 6 (.var 0) (cMF 0) pLow (pAl2 5 1) := by intro v0 v7; kernel_rfl
theorem k6_mf_0_5_2 : K 6 .norm 6 (.var 0) (cMF 0) pLow (pAl2 5 2) := by intro v0 v7; kernel_rfl
theorem k6_mf_0_5_3 : K 6 .norm 6 (.var 0) (cMF 0) pLow (pAl2 5 3) := by intro v0 v7; kernel_rfl
theorem k6_mf_0_5_4 : K 6 .norm 6 (.var 0) (cMF 0) pLow (pAl2 5 4) := by intro v0 v7; kernel_rfl
theorem k6_mf_0_5_5 : K 6 .norm 6 (.var 0) (cMF 0) pLow (pAl2 5 5) := by intro v0 v7; kernel_rfl
theorem k6_mf_0_5_6 : K 6 .norm 6 (.var 0) (cMF 0) pLow (pAl2 5 6) := by intro v0 v7; kernel_rfl
theorem k6_mf_0_5_7 : K 6 .norm 6 (.var 0) (cMF 0) pLow (pAl2 5 7) := by intro v0 v7; kernel_rfl
theorem k6_mf_0_6 : K 6 .norm 6 (.var 0) (cMF 0) pLow (pAl 6) := by intro v0 v7; kernel_rfl
theorem k6_mf_0_7 : K 6 .norm 6 (.var 0) (cMF 0) pLow (pAl 7) := by intro v0 v7; kernel_rfl
theorem k6_mf_1_0 : K 6 .norm 6 (.var 0) (cMF 1) pLow (pAl 0) := by intro v0 v7; kernel_rfl
theorem k6_mf_1_1 : K 6 .norm 6 (.var 0) (cMF 1) pLow (pAl 1) := by intro v0 v7; kernel_rfl
theorem k6_mf_1_2 : K 6 .norm 6 (.var 0) (cMF 1) pLow (pAl 2) := by intro v0 v7; kernel_rfl
theorem k6_mf_1_3 : K 6 .norm 6 (.var 0) (cMF 1) pLow (pAl 3) := by intro v0 v7; kernel_rfl
theorem k6_mf_1_4 : K 6 .norm 6 (.var 0) (cMF 1) pLow (pAl 4) := by intro v0 v7; kernel_rfl
theorem k6_mf_1_5_0 : K 6 .norm 6 (.var 0) (cMF 1) pLow (pAl2 5 0) := by intro v0 v7; kernel_rfl
theorem k6_mf_1_5_1 : K 6 .norm 6 (.var 0) (cMF 1) pLow (pAl2 5 1) := by intro v0 v7; kernel_rfl
theorem k6_mf_1_5_2 : K 6 .norm 6 (.var 0) (cMF 1) pLow (pAl2 5 2) := by intro v0 v7; kernel_rfl
theorem k6_mf_1_5_3 : K 6 .norm 6 (.var 0) (cMF 1) pLow (pAl2 5 3) := by intro v0 v7; kernel_rfl
theorem k6_mf_1_5_4 : K 6 .norm 6 (.var 0) (cMF 1) pLow (pAl2 5 4) := by intro v0 v7; kernel_rfl
theorem k6_mf_1_5_5 : K 6 .norm 6 (.var 0) (cMF 1) pLow (pAl2 5 5) := by intro v0 v7; kernel_rfl
theorem k6_mf_1_5_6 : K 6 .norm 6 (.var 0) (cMF 1) pLow (pAl2 5 6) := by intro v0 v7; kernel_rfl
theorem k6_mf_1_5_7 : K 6 .norm 6 (.var 0) (cMF 1) pLow (pAl2 5 7) := by intro v0 v7; kernel_rfl
theorem k6_mf_1_6 : K 6 .norm 6 (.var 0) (cMF 1) pLow (pAl 6) := by intro v0 v7; kernel_rfl
theorem k6_mf_1_7 : K 6 .norm 6 (.var 0) (cMF 1) pLow (pAl 7) := by intro v0 v7; kernel_rfl
theorem k6_mf_2_0 : K 6 .norm 6 (.var 0) (cMF 2) pLow (pAl 0) := by intro v0 v7; kernel_rfl
theorem k6_mf_2_1 : K 6 .norm 6 (.var 0) (cMF 2) pLow (pAl 1) := by intro v0 v7; kernel_rfl
theorem k6_mf_2_2 : K 6 .norm 6 (.var 0) (cMF 2) pLow (pAl 2) := by intro v0 v7; kernel_rfl
theorem k6_mf_2_3 : K 6 .norm 6 (.var 0) (cMF 2) pLow (pAl 3) := by intro v0 v7; kernel_rfl
theorem k6_mf_2_4 : K 6 .norm 6 (.var 0) (cMF 2) pLow (pAl 4) := by intro v0 v7; kernel_rfl
theorem k6_mf_2_5_0 : K 6 .norm 6 (.var 0) (cMF 2) pLow (pAl2 5 0) := by intro v0 v7; kernel_rfl
theorem k6_mf_2_5_1 : K 6 .norm 6 (.var 0) (cMF 2) pLow (pAl2 5 1) := by intro v0 v7; kernel_rfl
theorem k6_mf_2_5_2 : K 6 .norm 6 (.var 0) (cMF 2) pLow (pAl2 5 2) := by intro v0 v7; kernel_rfl
theorem k6_mf_2_5_3 : K 6 .norm 6 (.var 0) (cMF 2) pLow (pAl2 5 3) := by intro v0 v7; kernel_rfl
theorem k6_mf_2_5_4 : K 6 .norm 6 (.var 0) (cMF 2) pLow (pAl2 5 4) := by intro v0 v7; kernel_rfl
theorem k6_mf_2_5_5 : K 6 .norm 6 (.var 0) (cMF 2) pLow (pAl2 5 5) := by intro v0 v7; kernel_rfl
theorem k6_mf_2_5_6 : K 6 .norm 6 (.var 0) (cMF 2) pLow (pAl2 5 6) := by intro v0 v7; kernel_rfl
theorem k6_mf_2_5_7 : K 6 .norm 6 (.var 0) (cMF 2) pLow (pAl2 5 7) := by intro v0 v7; kernel_rfl
theorem k6_mf_2_6 : K 6 .norm 6 (.var 0) (cMF 2) pLow (pAl 6) := by intro v0 v7; kernel_rfl
theorem k6_mf_2_7 : K 6 .norm 6 (.var 0) (cMF 2) pLow (pAl 7) := by intro v0 v7; kernel_rfl
theorem k6_uf : K 6 .norm 6 (.var 0) (cMine 3 11) [] [] := by intro v0 v7; kernel_rfl
theorem k6_fNeg : K 6 .norm 6 (.var 0) cF tCneg [] := by intro v0 v7; kernel_rfl
theorem k6_fOut : K 6 .norm 6 (.var 0) cF tCout [] := by intro v0 v7; kernel_rfl
theorem k6_f0Neg : K 6 .norm 6 (.var 0) (cFc 0) tNneg [] := by intro v0 v7; kernel_rfl
theorem k6_f0Out : K 6 .norm 6 (.var 0) (cFc 0) tNout [] := by intro v0 v7; kernel_rfl
theorem k6_f1Neg : K 6 .norm 6 (.var 0) (cFc 1) tNneg [] := by intro v0 v7; kernel_rfl
theorem k6_f1Out : K 6 .norm 6 (.var 0) (cFc 1) tNout [] := by intro v0 v7; kernel_rfl
theorem k6_f1 : K 6 .norm 6 (.var 0) (cFc 1) (pgC (.var 2)) [] := by intro v0 v7; kernel_rfl
theorem k6_f0_0 : K 6 .norm 6 (.var 0) (cFc 0) (pgC (.var 2)) (pgN (.var 2) 0) := by intro v0 v7; kernel_rfl
theorem k6_f0_1 : K 6 .norm 6 (.var 0) (cFc 0) (pgC (.var 2)) (pgN (.var 2) 1) := by intro v0 v7; kernel_rfl
theorem k6_f0_2 : K 6 .norm 6 (.var 0) (cFc 0) (pgC (.var 2)) (pgN (.var 2) 2) := by intro v0 v7; kernel_rfl
theorem k6_f0_3 : K 6 .norm 6 (.var 0) (cFc 0) (pgC (.var 2)) (pgN (.var 2) 3) := by intro v0 v7; kernel_rfl
theorem k6_f0_4 : K 6 .norm 6 (.var 0) (cFc 0) (pgC (.var 2)) (pgN (.var 2) 4) := by intro v0 v7; kernel_rfl
theorem k6_f0_5_0 : K 6 .norm 6 (.var 0) (cFc 0) (pgC (.var 2)) (fN2 5 0) := by intro v0 v7; kernel_rfl
theorem k6_f0_5_1 : K 6 .norm 6 (.var 0) (cFc 0) (pgC (.var 2)) (fN2 5 1) := by intro v0 v7; kernel_rfl
theorem k6_f0_5_2 : K 6 .norm 6 (.var 0) (cFc 0) (pgC (.var 2)) (fN2 5 2) := by intro v0 v7; kernel_rfl
theorem k6_f0_5_3 : K 6 .norm 6 (.var 0) (cFc 0) (pgC (.var 2)) (fN2 5 3) := by intro v0 v7; kernel_rfl
theorem k6_f0_5_4 : K 6 .norm 6 (.var 0) (cFc 0) (pgC (.var 2)) (fN2 5 4) := by intro v0 v7; kernel_rfl
theorem k6_f0_5_5 : K 6 .norm 6 (.var 0) (cFc 0) (pgC (.var 2)) (fN2 5 5) := by intro v0 v7; kernel_rfl
theorem k6_f0_5_6 : K 6 .norm 6 (.var 0) (cFc 0) (pgC (.var 2)) (fN2 5 6) := by intro v0 v7; kernel_rfl
theorem k6_f0_5_7 : K 6 .norm 6 (.var 0) (cFc 0) (pgC (.var 2)) (fN2 5 7) := by intro v0 v7; kernel_rfl
theorem k6_f0_6 : K 6 .norm 6 (.var 0) (cFc 0) (pgC (.var 2)) (pgN (.var 2) 6) := by intro v0 v7; kernel_rfl
theorem k6_f0_7 : K 6 .norm 6 (.var 0) (cFc 0) (pgC (.var 2)) (pgN (.var 2) 7) := by intro v0 v7; kernel_rfl
theorem k6_mf0 : ∀ d e : Nat, d < 8 → e < 8 → (d + 1 ≠ 6 → K 6 .norm 6 (.var 0) (cMF 0) pLow (pAl d)) ∧ (d + 1 = 6 → K 6 .norm 6 (.var 0) (cMF 0) pLow (pAl2 d e))
  | 0, _, _, _ => ⟨fun _ => k6_mf_0_0, fun h => absurd h (by decide)⟩
  | 1, _, _, _ => ⟨fun _ => k6_mf_0_1, fun h => absurd h (by decide)⟩
  | 2, _, _, _ => ⟨fun _ => k6_mf_0_2, fun h => absurd h (by decide)⟩
  | 3, _, _, _ => ⟨fun _ => k6_mf_0_3, fun h => absurd h (by decide)⟩
  | 4, _, _, _ => ⟨fun _ => k6_mf_0_4, fun h => absurd h (by decide)⟩
  | 5, 0, _, _ => ⟨fun h => absurd rfl h, fun _ => k6_mf_0_5_0⟩
  | 5, 1, _, _ => ⟨fun h => absurd rfl h, fun _ => k6_mf_0_5_1⟩
  | 5, 2, _, _ => ⟨fun h => absurd rfl h, fun _ => k6_mf_0_5_2⟩
  | 5, 3, _, _ => ⟨fun h => absurd rfl h, fun _ => k6_mf_0_5_3⟩
  | 5, 4, _, _ => ⟨fun h => absurd rfl h, fun _ => k6_mf_0_5_4⟩
  | 5, 5, _, _ => ⟨fun h => absurd rfl h, fun _ => k6_mf_0_5_5⟩
  | 5, 6, _, _ => ⟨fun h => absurd rfl h, fun _ => k6_mf_0_5_6⟩
  | 5, 7, _, _ => ⟨fun h => absurd rfl h, fun _ => k6_mf_0_5_7⟩
  | 5, e + 8, _, h => absurd h (by omega)
  | 6, _, _, _ => ⟨fun _ => k6_mf_0_6, fun h => absurd h (by decide)⟩
  | 7, _, _, _ => ⟨fun _ => k6_mf_0_7, fun h => absurd h (by decide)⟩
  | d + 8, _, h, _ => absurd h (by omega)
theorem k6_mf1 : ∀ d e : Nat, d < 8 → e < 8 → (d + 1 ≠ 6 → K 6 .norm 6 (.var 0) (cMF 1) pLow (pAl d)) ∧ (d + 1 = 6 → K 6 .norm 6 (.var 0) (cMF 1) pLow (pAl2 d e))
  | 0, _, _, _ => ⟨fun _ => k6_mf_1_0, fun h => absurd h (by decide)⟩
  | 1, _, _, _ => ⟨fun _ => k6_mf_1_1, fun h => absurd h (by decide)⟩
  | 2, _, _, _ => ⟨fun _ => k6_mf_1_2, fun h => absurd h (by decide)⟩
  | 3, _, _, _ => ⟨fun _ => k6_mf_1_3, fun h => absurd h (by decide)⟩
  | 4, _, _, _ => ⟨fun _ => k6_mf_1_4, fun h => absurd h (by decide)⟩
  | 5, 0, _, _ => ⟨fun h => absurd rfl h, fun _ => k6_mf_1_5_0⟩
  | 5, 1, _, _ => ⟨fun h => absurd rfl h, fun _ => k6_mf_1_5_1⟩
  | 5, 2, _, _ => ⟨fun h => absurd rfl h, fun _ => k6_mf_1_5_2⟩
  | 5, 3, _, _ => ⟨fun h => absurd rfl h, fun _ => k6_mf_1_5_3⟩
  | 5, 4, _, _ => ⟨fun h => absurd rfl h, fun _ => k6_mf_1_5_4⟩
  | 5, 5, _, _ => ⟨fun h => absurd rfl h, fun _ => k6_mf_1_5_5⟩
  | 5, 6, _, _ => ⟨fun h => absurd rfl h, fun _ => k6_mf_1_5_6⟩
  | 5, 7, _, _ => ⟨fun h => absurd rfl h, fun _ => k6_mf_1_5_7⟩
  | 5, e + 8, _, h => absurd h (by omega)
  | 6, _, _, _ => ⟨fun _ => k6_mf_1_6, fun h => absurd h (by decide)⟩
  | 7, _, _, _ => ⟨fun _ => k6_mf_1_7, fun h => absurd h (by decide)⟩
  | d + 8, _, h, _ => absurd h (by omega)
theorem k6_mf2 : ∀ d e : Nat, d < 8 → e < 8 → (d + 1 ≠ 6 → K 6 .norm 6 (.var 0) (cMF 2) pLow (pAl d)) ∧ (d + 1 = 6 → K 6 .norm 6 (.var 0) (cMF 2) pLow (pAl2 d e))
  | 0, _, _, _ => ⟨fun _ => k6_mf_2_0, fun h => absurd h (by decide)⟩
  | 1, _, _, _ => ⟨fun _ => k6_mf_2_1, fun h => absurd h (by decide)⟩
  | 2, _, _, _ => ⟨fun _ => k6_mf_2_2, fun h => absurd h (by decide)⟩
  | 3, _, _, _ => ⟨fun _ => k6_mf_2_3, fun h => absurd h (by decide)⟩
  | 4, _, _, _ => ⟨fun _ => k6_mf_2_4, fun h => absurd h (by decide)⟩
  | 5, 0, _, _ => ⟨fun h => absurd rfl h, fun _ => k6_mf_2_5_0⟩
  | 5, 1, _, _ => ⟨fun h => absurd rfl h, fun _ => k6_mf_2_5_1⟩
  | 5, 2, _, _ => ⟨fun h => absurd rfl h, fun _ => k6_mf_2_5_2⟩
  | 5, 3, _, _ => ⟨fun h => absurd rfl h, fun _ => k6_mf_2_5_3⟩
  | 5, 4, _, _ => ⟨fun h => absurd rfl h, fun _ => k6_mf_2_5_4⟩
  | 5, 5, _, _ => ⟨fun h => absurd rfl h, fun _ => k6_mf_2_5_5⟩
  | 5, 6, _, _ => ⟨fun h => absurd rfl h, fun _ => k6_mf_2_5_6⟩
  | 5, 7, _, _ => ⟨fun h => absurd rfl h, fun _ => k6_mf_2_5_7⟩
  | 5, e + 8, _, h => absurd h (by omega)
  | 6, _, _, _ => ⟨fun _ => k6_mf_2_6, fun h => absurd h (by decide)⟩
  | 7, _, _, _ => ⟨fun _ => k6_mf_2_7, fun h => absurd h (by decide)⟩
  | d + 8, _, h, _ => absurd h (by omega)
theorem k6_f0 : ∀ d e : Nat, d < 8 → e < 8 → (d + 1 ≠ 6 → K 6 .norm 6 (.var 0) (cFc 0) (pgC (.var 2)) (pgN (.var 2) d)) ∧ (d + 1 = 6 → K 6 .norm 6 (.var 0) (cFc 0) (pgC (.var 2)) (fN2 d e))
  | 0, _, _, _ => ⟨fun _ => k6_f0_0, fun h => absurd h (by decide)⟩
  | 1, _, _, _ => ⟨fun _ => k6_f0_1, fun h => absurd h (by decide)⟩
  | 2, _, _, _ => ⟨fun _ => k6_f0_2, fun h => absurd h (by decide)⟩
  | 3, _, _, _ => ⟨fun _ => k6_f0_3, fun h => absurd h (by decide)⟩
  | 4, _, _, _ => ⟨fun _ => k6_f0_4, fun h => absurd h (by decide)⟩
  | 5, 0, _, _ => ⟨fun h => absurd rfl h, fun _ => k6_f0_5_0⟩
  | 5, 1, _, _ => ⟨fun h => absurd rfl h, fun _ => k6_f0_5_1⟩
  | 5, 2, _, _ => ⟨fun h => absurd rfl h, fun _ => k6_f0_5_2⟩
  | 5, 3, _, _ => ⟨fun h => absurd rfl h, fun _ => k6_f0_5_3⟩
  | 5, 4, _, _ => ⟨fun h => absurd rfl h, fun _ => k6_f0_5_4⟩
  | 5, 5, _, _ => ⟨fun h => absurd rfl h, fun _ => k6_f0_5_5⟩
  | 5, 6, _, _ => ⟨fun h => absurd rfl h, fun _ => k6_f0_5_6⟩
  | 5, 7, _, _ => ⟨fun h => absurd rfl h, fun _ => k6_f0_5_7⟩
  | 5, e + 8, _, h => absurd h (by omega)
  | 6, _, _, _ => ⟨fun _ => k6_f0_6, fun h => absurd h (by decide)⟩
  | 7, _, _, _ => ⟨fun _ => k6_f0_7, fun h => absurd h (by decide)⟩
  | d + 8, _, h, _ => absurd h (by omega)
end VO
