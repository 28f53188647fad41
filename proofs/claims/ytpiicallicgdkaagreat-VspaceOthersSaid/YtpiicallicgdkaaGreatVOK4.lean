/- VspaceOthers: the evaluations of its loop's body, place 4. No conditions beside those in its theorems. -/
import Derived.Test.YtpiicallicgdkaaGreatVOF
set_option linter.unusedVariables false
open Go Eng Go.Proofs Go.RowKit
namespace VO
open Base
theorem k4_other : K 4 (.exit 1) 4 (.var 0) cOther tOther [] := by intro v0 v7; kernel_rfl
theorem k4_a0t : K 4 (.exit 1) 4 (.var 0) (cA 0) (tA 8 true) [] := by intro v0 v7; kernel_rfl
theorem k4_a0f : K 4 (.exit 1) 4 (.var 0) (cA 0) (tA 8 false) [] := by intro v0 v7; kernel_rfl
theorem k4_b0 : K 4 (.exit 1) 4 (.var 0) (cB 0) (tB 8) [] := by intro v0 v7; kernel_rfl
theorem k4_a1t : K 4 (.exit 1) 4 (.var 0) (cA 1) (tA 8 true) [] := by intro v0 v7; kernel_rfl
theorem k4_a1f : K 4 (.exit 1) 4 (.var 0) (cA 1) (tA 8 false) [] := by intro v0 v7; kernel_rfl
theorem k4_b1 : K 4 (.exit 1) 4 (.var 0) (cB 1) (tB 8) [] := by intro v0 v7; kernel_rfl
theorem k4_a2t : K 4 (.exit 1) 4 (.var 0) (cA 2) (tA 11 true) [] := by intro v0 v7; kernel_rfl
theorem k4_a2f : K 4 (.exit 1) 4 (.var 0) (cA 2) (tA 11 false) [] := by intro v0 v7; kernel_rfl
theorem k4_b2 : K 4 (.exit 1) 4 (.var 0) (cB 2) (tB 11) [] := by intro v0 v7; kernel_rfl
theorem k4_a3t : K 4 (.exit 1) 4 (.var 0) (cA 3) (tA 11 true) [] := by intro v0 v7; kernel_rfl
theorem k4_a3f : K 4 (.exit 1) 4 (.var 0) (cA 3) (tA 11 false) [] := by intro v0 v7; kernel_rfl
theorem k4_b3 : K 4 (.exit 1) 4 (.var 0) (cB 3) (tB 11) [] := by intro v0 v7; kernel_rfl
theorem k4_mtHigh : K 4 .norm 4 (.var 0) (cMine 0 8) tHigh [] := by intro v0 v7; kernel_rfl
theorem k4_mtLow : K 4 .norm 4 (.var 0) (cMine 0 8) tLow [] := by intro v0 v7; kernel_rfl
theorem k4_ut : K 4 .norm 0 (.var 0) (cMine 1 8) [] [] := by intro v0 v7; kernel_rfl
theorem k4_mfHigh : K 4 .norm 4 (.var 0) (cMine 2 11) tHigh [] := by intro v0 v7; kernel_rfl
theorem k4_mfUnal : K 4 .norm 4 (.var 0) (cMine 2 11) tUnal [] := by intro v0 v7; kernel_rfl
theorem k4_mfSmall : K 4 .norm 4 (.var 0) (cMine 2 11) tSmall nAl := by intro v0 v7; kernel_rfl
theorem k4_mfGreat : K 4 .norm 4 (.var 0) (cMine 2 11) tGreat nAl := by intro v0 v7; kernel_rfl
theorem k4_mf_0_0 : K 4 .norm 4 (.var 0) (cMF 0) pLow (pAl 0) := by intro v0 v7; kernel_rfl
theorem k4_mf_0_1 : K 4 .norm 4 (.var 0) (cMF 0) pLow (pAl 1) := by intro v0 v7; kernel_rfl
theorem k4_mf_0_2 : K 4 .norm 4 (.var 0) (cMF 0) pLow (pAl 2) := by intro v0 v7; kernel_rfl
theorem k4_mf_0_3_0 : K 4 .norm 4 (.var 0) (cMF 0) pLow (pAl2 3 0) := by intro v0 v7; kernel_rfl
theorem k4_mf_0_3_1 : K 4 .norm 4 (.var 0) (cMF 0) pLow (pAl2 3 1) := by intro v0 v7; kernel_rfl
theorem k4_mf_0_3_2 : K 4 .norm 4 (.var 0) (cMF 0) pLow (pAl2 3 2) := by intro v0 v7; kernel_rfl
theorem k4_mf_0_3_3 : K 4 .norm 4 (.var 0) (cMF 0) pLow (pAl2 3 3) := by intro v0 v7; kernel_rfl
theorem k4_mf_0_3_4 : K 4 .norm 4 (.var 0) (cMF 0) pLow (pAl2 3 4) := by intro v0 v7; kernel_rfl
theorem k4_mf_0_3_5 : K 4 .norm 4 (.var 0) (cMF 0) pLow (pAl2 3 5) := by intro v0 v7; kernel_rfl
theorem k4_mf_0_3_6 : K 4 .norm 4 (.var 0) (cMF 0) pLow (pAl2 3 6) := by intro v0 v7; kernel_rfl
theorem k4_mf_0_3_7 : K 4 .norm 4 (.var 0) (cMF 0) pLow (pAl2 3 7) := by intro v0 v7; kernel_rfl
theorem k4_mf_0_4 : K 4 .norm 4 (.var 0) (cMF 0) pLow (pAl 4) := by intro v0 v7; kernel_rfl
theorem k4_mf_0_5 : K 4 .norm 4 (.var 0) (cMF 0) pLow (pAl 5) := by intro v0 v7; kernel_rfl
theorem k4_mf_0_6 : K 4 .norm 4 (.var 0) (cMF 0) pLow (pAl 6) := by intro v0 v7; kernel_rfl
theorem k4_mf_0_7 : K 4 .norm 4 (.var 0) (cMF 0) pLow (pAl 7) := by intro v0 v7; kernel_rfl
theorem k4_mf_1_0 : K 4 .norm 4 (.var 0) (cMF 1) pLow (pAl 0) := by intro v0 v7; kernel_rfl
theorem k4_mf_1_1 : K 4 .norm 4 (.var 0) (cMF 1) pLow (pAl 1) := by intro v0 v7; kernel_rfl
theorem k4_mf_1_2 : K 4 .norm 4 (.var 0) (cMF 1) pLow (pAl 2) := by intro v0 v7; kernel_rfl
theorem k4_mf_1_3_0 : K 4 .norm 4 (.var 0) (cMF 1) pLow (pAl2 3 0) := by intro v0 v7; kernel_rfl
theorem k4_mf_1_3_1 : K 4 .norm 4 (.var 0) (cMF 1) pLow (pAl2 3 1) := by intro v0 v7; kernel_rfl
theorem k4_mf_1_3_2 : K 4 .norm 4 (.var 0) (cMF 1) pLow (pAl2 3 2) := by intro v0 v7; kernel_rfl
theorem k4_mf_1_3_3 : K 4 .norm 4 (.var 0) (cMF 1) pLow (pAl2 3 3) := by intro v0 v7; kernel_rfl
theorem k4_mf_1_3_4 : K 4 .norm 4 (.var 0) (cMF 1) pLow (pAl2 3 4) := by intro v0 v7; kernel_rfl
theorem k4_mf_1_3_5 : K 4 .norm 4 (.var 0) (cMF 1) pLow (pAl2 3 5) := by intro v0 v7; kernel_rfl
theorem k4_mf_1_3_6 : K 4 .norm 4 (.var 0) (cMF 1) pLow (pAl2 3 6) := by intro v0 v7; kernel_rfl
theorem k4_mf_1_3_7 : K 4 .norm 4 (.var 0) (cMF 1) pLow (pAl2 3 7) := by intro v0 v7; kernel_rfl
theorem k4_mf_1_4 : K 4 .norm 4 (.var 0) (cMF 1) pLow (pAl 4) := by intro v0 v7; kernel_rfl
theorem k4_mf_1_5 : K 4 .norm 4 (.var 0) (cMF 1) pLow (pAl 5) := by intro v0 v7; kernel_rfl
theorem k4_mf_1_6 : K 4 .norm 4 (.var 0) (cMF 1) pLow (pAl 6) := by intro v0 v7; kernel_rfl
theorem k4_mf_1_7 : K 4 .norm 4 (.var 0) (cMF 1) pLow (pAl 7) := by intro v0 v7; kernel_rfl
theorem k4_mf_2_0 : K 4 .norm 4 (.var 0) (cMF 2) pLow (pAl 0) := by intro v0 v7; kernel_rfl
theorem k4_mf_2_1 : K 4 .norm 4 (.var 0) (cMF 2) pLow (pAl 1) := by intro v0 v7; kernel_rfl
theorem k4_mf_2_2 : K 4 .norm 4 (.var 0) (cMF 2) pLow (pAl 2) := by intro v0 v7; kernel_rfl
theorem k4_mf_2_3_0 : K 4 .norm 4 (.var 0) (cMF 2) pLow (pAl2 3 0) := by intro v0 v7; kernel_rfl
theorem k4_mf_2_3_1 : K 4 .norm 4 (.var 0) (cMF 2) pLow (pAl2 3 1) := by intro v0 v7; kernel_rfl
theorem k4_mf_2_3_2 : K 4 .norm 4 (.var 0) (cMF 2) pLow (pAl2 3 2) := by intro v0 v7; kernel_rfl
theorem k4_mf_2_3_3 : K 4 .norm 4 (.var 0) (cMF 2) pLow (pAl2 3 3) := by intro v0 v7; kernel_rfl
theorem k4_mf_2_3_4 : K 4 .norm 4 (.var 0) (cMF 2) pLow (pAl2 3 4) := by intro v0 v7; kernel_rfl
theorem k4_mf_2_3_5 : K 4 .norm 4 (.var 0) (cMF 2) pLow (pAl2 3 5) := by intro v0 v7; kernel_rfl
theorem k4_mf_2_3_6 : K 4 .norm 4 (.var 0) (cMF 2) pLow (pAl2 3 6) := by intro v0 v7; kernel_rfl
theorem k4_mf_2_3_7 : K 4 .norm 4 (.var 0) (cMF 2) pLow (pAl2 3 7) := by intro v0 v7; kernel_rfl
theorem k4_mf_2_4 : K 4 .norm 4 (.var 0) (cMF 2) pLow (pAl 4) := by intro v0 v7; kernel_rfl
theorem k4_mf_2_5 : K 4 .norm 4 (.var 0) (cMF 2) pLow (pAl 5) := by intro v0 v7; kernel_rfl
theorem k4_mf_2_6 : K 4 .norm 4 (.var 0) (cMF 2) pLow (pAl 6) := by intro v0 v7; kernel_rfl
theorem k4_mf_2_7 : K 4 .norm 4 (.var 0) (cMF 2) pLow (pAl 7) := by intro v0 v7; kernel_rfl
theorem k4_uf : K 4 .norm 4 (.var 0) (cMine 3 11) [] [] := by intro v0 v7; kernel_rfl
theorem k4_fNeg : K 4 .norm 4 (.var 0) cF tCneg [] := by intro v0 v7; kernel_rfl
theorem k4_fOut : K 4 .norm 4 (.var 0) cF tCout [] := by intro v0 v7; kernel_rfl
theorem k4_f0Neg : K 4 .norm 4 (.var 0) (cFc 0) tNneg [] := by intro v0 v7; kernel_rfl
theorem k4_f0Out : K 4 .norm 4 (.var 0) (cFc 0) tNout [] := by intro v0 v7; kernel_rfl
theorem k4_f1Neg : K 4 .norm 4 (.var 0) (cFc 1) tNneg [] := by intro v0 v7; kernel_rfl
theorem k4_f1Out : K 4 .norm 4 (.var 0) (cFc 1) tNout [] := by intro v0 v7; kernel_rfl
theorem k4_f1 : K 4 .norm 4 (.var 0) (cFc 1) (pgC (.var 2)) [] := by intro v0 v7; kernel_rfl
theorem k4_f0_0 : K 4 .norm 4 (.var 0) (cFc 0) (pgC (.var 2)) (pgN (.var 2) 0) := by intro v0 v7; kernel_rfl
theorem k4_f0_1 : K 4 .norm 4 (.var 0) (cFc 0) (pgC (.var 2)) (pgN (.var 2) 1) := by intro v0 v7; kernel_rfl
theorem k4_f0_2 : K 4 .norm 4 (.var 0) (cFc 0) (pgC (.var 2)) (pgN (.var 2) 2) := by intro v0 v7; kernel_rfl
theorem k4_f0_3_0 : K 4 .norm 4 (.var 0) (cFc 0) (pgC (.var 2)) (fN2 3 0) := by intro v0 v7; kernel_rfl
theorem k4_f0_3_1 : K 4 .norm 4 (.var 0) (cFc 0) (pgC (.var 2)) (fN2 3 1) := by intro v0 v7; kernel_rfl
theorem k4_f0_3_2 : K 4 .norm 4 (.var 0) (cFc 0) (pgC (.var 2)) (fN2 3 2) := by intro v0 v7; kernel_rfl
theorem k4_f0_3_3 : K 4 .norm 4 (.var 0) (cFc 0) (pgC (.var 2)) (fN2 3 3) := by intro v0 v7; kernel_rfl
theorem k4_f0_3_4 : K 4 .norm 4 (.var 0) (cFc 0) (pgC (.var 2)) (fN2 3 4) := by intro v0 v7; kernel_rfl
theorem k4_f0_3_5 : K 4 .norm 4 (.var 0) (cFc 0) (pgC (.var 2)) (fN2 3 5) := by intro v0 v7; kernel_rfl
theorem k4_f0_3_6 : K 4 .norm 4 (.var 0) (cFc 0) (pgC (.var 2)) (fN2 3 6) := by intro v0 v7; kernel_rfl
theorem k4_f0_3_7 : K 4 .norm 4 (.var 0) (cFc 0) (pgC (.var 2)) (fN2 3 7) := by intro v0 v7; kernel_rfl
theorem k4_f0_4 : K 4 .norm 4 (.var 0) (cFc 0) (pgC (.var 2)) (pgN (.var 2) 4) := by intro v0 v7; kernel_rfl
theorem k4_f0_5 : K 4 .norm 4 (.var 0) (cFc 0) (pgC (.var 2)) (pgN (.var 2) 5) := by intro v0 v7; kernel_rfl
theorem k4_f0_6 : K 4 .norm 4 (.var 0) (cFc 0) (pgC (.var 2)) (pgN (.var 2) 6) := by intro v0 v7; kernel_rfl
theorem k4_f0_7 : K 4 .norm 4 (.var 0) (cFc 0) (pgC (.var 2)) (pgN (.var 2) 7) := by intro v0 v7; kernel_rfl
theorem k4_mf0 : ∀ d e : Nat, d < 8 → e < 8 → (d + 1 ≠ 4 → K 4 .norm 4 (.var 0) (cMF 0) pLow (pAl d)) ∧ (d + 1 = 4 → K 4 .norm 4 (.var 0) (cMF 0) pLow (pAl2 d e))
  | 0, _, _, _ => ⟨fun _ => k4_mf_0_0, fun h => absurd h (by decide)⟩
  | 1, _, _, _ => ⟨fun _ => k4_mf_0_1, fun h => absurd h (by decide)⟩
  | 2, _, _, _ => ⟨fun _ => k4_mf_0_2, fun h => absurd h (by decide)⟩
  | 3, 0, _, _ => ⟨fun h => absurd rfl h, fun _ => k4_mf_0_3_0⟩
  | 3, 1, _, _ => ⟨fun h => absurd rfl h, fun _ => k4_mf_0_3_1⟩
  | 3, 2, _, _ => ⟨fun h => absurd rfl h, fun _ => k4_mf_0_3_2⟩
  | 3, 3, _, _ => ⟨fun h => absurd rfl h, fun _ => k4_mf_0_3_3⟩
  | 3, 4, _, _ => ⟨fun h => absurd rfl h, fun _ => k4_mf_0_3_4⟩
  | 3, 5, _, _ => ⟨fun h => absurd rfl h, fun _ => k4_mf_0_3_5⟩
  | 3, 6, _, _ => ⟨fun h => absurd rfl h, fun _ => k4_mf_0_3_6⟩
  | 3, 7, _, _ => ⟨fun h => absurd rfl h, fun _ => k4_mf_0_3_7⟩
  | 3, e + 8, _, h => absurd h (by omega)
  | 4, _, _, _ => ⟨fun _ => k4_mf_0_4, fun h => absurd h (by decide)⟩
  | 5, _, _, _ => ⟨fun _ => k4_mf_0_5, fun h => absurd h (by decide)⟩
  | 6, _, _, _ => ⟨fun _ => k4_mf_0_6, fun h => absurd h (by decide)⟩
  | 7, _, _, _ => ⟨fun _ => k4_mf_0_7, fun h => absurd h (by decide)⟩
  | d + 8, _, h, _ => absurd h (by omega)
theorem k4_mf1 : ∀ d e : Nat, d < 8 → e < 8 → (d + 1 ≠ 4 → K 4 .norm 4 (.var 0) (cMF 1) pLow (pAl d)) ∧ (d + 1 = 4 → K 4 .norm 4 (.var 0) (cMF 1) pLow (pAl2 d e))
  | 0, _, _, _ => ⟨fun _ => k4_mf_1_0, fun h => absurd h (by decide)⟩
  | 1, _, _, _ => ⟨fun _ => k4_mf_1_1, fun h => absurd h (by decide)⟩
  | 2, _, _, _ => ⟨fun _ => k4_mf_1_2, fun h => absurd h (by decide)⟩
  | 3, 0, _, _ => ⟨fun h => absurd rfl h, fun _ => k4_mf_1_3_0⟩
  | 3, 1, _, _ => ⟨fun h => absurd rfl h, fun _ => k4_mf_1_3_1⟩
  | 3, 2, _, _ => ⟨fun h => absurd rfl h, fun _ => k4_mf_1_3_2⟩
  | 3, 3, _, _ => ⟨fun h => absurd rfl h, fun _ => k4_mf_1_3_3⟩
  | 3, 4, _, _ => ⟨fun h => absurd rfl h, fun _ => k4_mf_1_3_4⟩
  | 3, 5, _, _ => ⟨fun h => absurd rfl h, fun _ => k4_mf_1_3_5⟩
  | 3, 6, _, _ => ⟨fun h => absurd rfl h, fun _ => k4_mf_1_3_6⟩
  | 3, 7, _, _ => ⟨fun h => absurd rfl h, fun _ => k4_mf_1_3_7⟩
  | 3, e + 8, _, h => absurd h (by omega)
  | 4, _, _, _ => ⟨fun _ => k4_mf_1_4, fun h => absurd h (by decide)⟩
  | 5, _, _, _ => ⟨fun _ => k4_mf_1_5, fun h => absurd h (by decide)⟩
  | 6, _, _, _ => ⟨fun _ => k4_mf_1_6, fun h => absurd h (by decide)⟩
  | 7, _, _, _ => ⟨fun _ => k4_mf_1_7, fun h => absurd h (by decide)⟩
  | d + 8, _, h, _ => absurd h (by omega)
theorem k4_mf2 : ∀ d e : Nat, d < 8 → e < 8 → (d + 1 ≠ 4 → K 4 .norm 4 (.var 0) (cMF 2) pLow (pAl d)) ∧ (d + 1 = 4 → K 4 .norm 4 (.var 0) (cMF 2) pLow (pAl2 d e))
  | 0, _, _, _ => ⟨fun _ => k4_mf_2_0, fun h => absurd h (by decide)⟩
  | 1, _, _, _ => ⟨fun _ => k4_mf_2_1, fun h => absurd h (by decide)⟩
  | 2, _, _, _ => ⟨fun _ => k4_mf_2_2, fun h => absurd h (by decide)⟩
  | 3, 0, _, _ => ⟨fun h => absurd rfl h, fun _ => k4_mf_2_3_0⟩
  | 3, 1, _, _ => ⟨fun h => absurd rfl h, fun _ => k4_mf_2_3_1⟩
  | 3, 2, _, _ => ⟨fun h => absurd rfl h, fun _ => k4_mf_2_3_2⟩
  | 3, 3, _, _ => ⟨fun h => absurd rfl h, fun _ => k4_mf_2_3_3⟩
  | 3, 4, _, _ => ⟨fun h => absurd rfl h, fun _ => k4_mf_2_3_4⟩
  | 3, 5, _, _ => ⟨fun h => absurd rfl h, fun _ => k4_mf_2_3_5⟩
  | 3, 6, _, _ => ⟨fun h => absurd rfl h, fun _ => k4_mf_2_3_6⟩
  | 3, 7, _, _ => ⟨fun h => absurd rfl h, fun _ => k4_mf_2_3_7⟩
  | 3, e + 8, _, h => absurd h (by omega)
  | 4, _, _, _ => ⟨fun _ => k4_mf_2_4, fun h => absurd h (by decide)⟩
  | 5, _, _, _ => ⟨fun _ => k4_mf_2_5, fun h => absurd h (by decide)⟩
  | 6, _, _, _ => ⟨fun _ => k4_mf_2_6, fun h => absurd h (by decide)⟩
  | 7, _, _, _ => ⟨fun _ => k4_mf_2_7, fun h => absurd h (by decide)⟩
  | d + 8, _, h, _ => absurd h (by omega)
theorem k4_f0 : ∀ d e : Nat, d < 8 → e < 8 → (d + 1 ≠ 4 → K 4 .norm 4 (.var 0) (cFc 0) (pgC (.var 2)) (pgN (.var 2) d)) ∧ (d + 1 = 4 → K 4 .norm 4 (.var 0) (cFc 0) (pgC (.var 2)) (fN2 d e))
  | 0, _, _, _ => ⟨fun _ => k4_f0_0, fun h => absurd h (by decide)⟩
  | 1, _, _, _ => ⟨fun _ => k4_f0_1, fun h => absurd h (by decide)⟩
  | 2, _, _, _ => ⟨fun _ => k4_f0_2, fun h => absurd h (by decide)⟩
  | 3, 0, _, _ => ⟨fun h => absurd rfl h, fun _ => k4_f0_3_0⟩
  | 3, 1, _, _ => ⟨fun h => absurd rfl h, fun _ => k4_f0_3_1⟩
  | 3, 2, _, _ => ⟨fun h => absurd rfl h, fun _ => k4_f0_3_2⟩
  | 3, 3, _, _ => ⟨fun h => absurd rfl h, fun _ => k4_f0_3_3⟩
  | 3, 4, _, _ => ⟨fun h => absurd rfl h, fun _ => k4_f0_3_4⟩
  | 3, 5, _, _ => ⟨fun h => absurd rfl h, fun _ => k4_f0_3_5⟩
  | 3, 6, _, _ => ⟨fun h => absurd rfl h, fun _ => k4_f0_3_6⟩
  | 3, 7, _, _ => ⟨fun h => absurd rfl h, fun _ => k4_f0_3_7⟩
  | 3, e + 8, _, h => absurd h (by omega)
  | 4, _, _, _ => ⟨fun _ => k4_f0_4, fun h => absurd h (by decide)⟩
  | 5, _, _, _ => ⟨fun _ => k4_f0_5, fun h => absurd h (by decide)⟩
  | 6, _, _, _ => ⟨fun _ => k4_f0_6, fun h => absurd h (by decide)⟩
  | 7, _, _, _ => ⟨fun _ => k4_f0_7, fun h => absurd h (by decide)⟩
  | d + 8, _, h, _ => absurd h (by omega)
end VO
