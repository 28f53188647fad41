/- VspaceOthers: the evaluations of its loop's body, place 5. No conditions beside those in its theorems. -/
import Derived.Test.YtpiicallicgdkaaGreatVOF
set_option linter.unusedVariables false
open Go Eng Go.Proofs Go.RowKit
namespace VO
open Base
theorem k5_other : K 5 (.exit 1) 5 (.var 0) cOther tOther [] := by intro v0 v7; kernel_rfl
theorem k5_a0t : K 5 (.exit 1) 5 (.var 0) (cA 0) (tA 8 true) [] := by intro v0 v7; kernel_rfl
theorem k5_a0f : K 5 (.exit 1) 5 (.var 0) (cA 0) (tA 8 false) [] := by intro v0 v7; kernel_rfl
theorem k5_b0 : K 5 (.exit 1) 5 (.var 0) (cB 0) (tB 8) [] := by intro v0 v7; kernel_rfl
theorem k5_a1t : K 5 (.exit 1) 5 (.var 0) (cA 1) (tA 8 true) [] := by intro v0 v7; kernel_rfl
theorem k5_a1f : K 5 (.exit 1) 5 (.var 0) (cA 1) (tA 8 false) [] := by intro v0 v7; kernel_rfl
theorem k5_b1 : K 5 (.exit 1) 5 (.var 0) (cB 1) (tB 8) [] := by intro v0 v7; kernel_rfl
theorem k5_a2t : K 5 (.exit 1) 5 (.var 0) (cA 2) (tA 11 true) [] := by intro v0 v7; kernel_rfl
theorem k5_a2f : K 5 (.exit 1) 5 (.var 0) (cA 2) (tA 11 false) [] := by intro v0 v7; kernel_rfl
theorem k5_b2 : K 5 (.exit 1) 5 (.var 0) (cB 2) (tB 11) [] := by intro v0 v7; kernel_rfl
theorem k5_a3t : K 5 (.exit 1) 5 (.var 0) (cA 3) (tA 11 true) [] := by intro v0 v7; kernel_rfl
theorem k5_a3f : K 5 (.exit 1) 5 (.var 0) (cA 3) (tA 11 false) [] := by intro v0 v7; kernel_rfl
theorem k5_b3 : K 5 (.exit 1) 5 (.var 0) (cB 3) (tB 11) [] := by intro v0 v7; kernel_rfl
theorem k5_mtHigh : K 5 .norm 5 (.var 0) (cMine 0 8) tHigh [] := by intro v0 v7; kernel_rfl
theorem k5_mtLow : K 5 .norm 5 (.var 0) (cMine 0 8) tLow [] := by intro v0 v7; kernel_rfl
theorem k5_ut : K 5 .norm 0 (.var 0) (cMine 1 8) [] [] := by intro v0 v7; kernel_rfl
theorem k5_mfHigh : K 5 .norm 5 (.var 0) (cMine 2 11) tHigh [] := by intro v0 v7; kernel_rfl
theorem k5_mfUnal : K 5 .norm 5 (.var 0) (cMine 2 11) tUnal [] := by intro v0 v7; kernel_rfl
theorem k5_mfSmall : K 5 .norm 5 (.var 0) (cMine 2 11) tSmall nAl := by intro v0 v7; kernel_rfl
theorem k5_mfGreat : K 5 .norm 5 (.var 0) (cMine 2 11) tGreat nAl := by intro v0 v7; kernel_rfl
theorem k5_mf_0_0 : K 5 .norm 5 (.var 0) (cMF 0) pLow (pAl 0) := by intro v0 v7; kernel_rfl
theorem k5_mf_0_1 : K 5 .norm 5 (.var 0) (cMF 0) pLow (pAl 1) := by intro v0 v7; kernel_rfl
theorem k5_mf_0_2 : K 5 .norm 5 (.var 0) (cMF 0) pLow (pAl 2) := by intro v0 v7; kernel_rfl
theorem k5_mf_0_3 : K 5 .norm 5 (.var 0) (cMF 0) pLow (pAl 3) := by intro v0 v7; kernel_rfl
theorem k5_mf_0_4_0 : K 5 .norm 5 (.var 0) (cMF 0) pLow (pAl2 4 0) := by intro v0 v7; kernel_rfl
theorem k5_mf_0_4_1 : K 5 .norm 5 (.var 0) (cMF 0) pLow (pAl2 4 1) := by intro v0 v7; kernel_rfl
theorem k5_mf_0_4_2 : K 5 .norm 5 (.var 0) (cMF 0) pLow (pAl2 4 2) := by intro v0 v7; kernel_rfl
theorem k5_mf_0_4_3 : K 5 .norm 5 (.var 0) (cMF 0) pLow (pAl2 4 3) := by intro v0 v7; kernel_rfl
theorem k5_mf_0_4_4 : K 5 .norm 5 (.var 0) (cMF 0) pLow (pAl2 4 4) := by intro v0 v7; kernel_rfl
theorem k5_mf_0_4_5 : K 5 .norm 5 (.var 0) (cMF 0) pLow (pAl2 4 5) := by intro v0 v7; kernel_rfl
theorem k5_mf_0_4_6 : K 5 .norm 5 (.var 0) (cMF 0) pLow (pAl2 4 6) := by intro v0 v7; kernel_rfl
theorem k5_mf_0_4_7 : K 5 .norm 5 (.var 0) (cMF 0) pLow (pAl2 4 7) := by intro v0 v7; kernel_rfl
theorem k5_mf_0_5 : K 5 .norm 5 (.var 0) (cMF 0) pLow (pAl 5) := by intro v0 v7; kernel_rfl
theorem k5_mf_0_6 : K 5 .norm 5 (.var 0) (cMF 0) pLow (pAl 6) := by intro v0 v7; kernel_rfl
theorem k5_mf_0_7 : K 5 .norm 5 (.var 0) (cMF 0) pLow (pAl 7) := by intro v0 v7; kernel_rfl
theorem k5_mf_1_0 : K 5 .norm 5 (.var 0) (cMF 1) pLow (pAl 0) := by intro v0 v7; kernel_rfl
theorem k5_mf_1_1 : K 5 .norm 5 (.var 0) (cMF 1) pLow (pAl 1) := by intro v0 v7; kernel_rfl
theorem k5_mf_1_2 : K 5 .norm 5 (.var 0) (cMF 1) pLow (pAl 2) := by intro v0 v7; kernel_rfl
theorem k5_mf_1_3 : K 5 .norm 5 (.var 0) (cMF 1) pLow (pAl 3) := by intro v0 v7; kernel_rfl
theorem k5_mf_1_4_0 : K 5 .norm 5 (.var 0) (cMF 1) pLow (pAl2 4 0) := by intro v0 v7; kernel_rfl
theorem k5_mf_1_4_1 : K 5 .norm 5 (.var 0) (cMF 1) pLow (pAl2 4 1) := by intro v0 v7; kernel_rfl
theorem k5_mf_1_4_2 : K 5 .norm 5 (.var 0) (cMF 1) pLow (pAl2 4 2) := by intro v0 v7; kernel_rfl
theorem k5_mf_1_4_3 : K 5 .norm 5 (.var 0) (cMF 1) pLow (pAl2 4 3) := by intro v0 v7; kernel_rfl
theorem k5_mf_1_4_4 : K 5 .norm 5 (.var 0) (cMF 1) pLow (pAl2 4 4) := by intro v0 v7; kernel_rfl
theorem k5_mf_1_4_5 : K 5 .norm 5 (.var 0) (cMF 1) pLow (pAl2 4 5) := by intro v0 v7; kernel_rfl
theorem k5_mf_1_4_6 : K 5 .norm 5 (.var 0) (cMF 1) pLow (pAl2 4 6) := by intro v0 v7; kernel_rfl
theorem k5_mf_1_4_7 : K 5 .norm 5 (.var 0) (cMF 1) pLow (pAl2 4 7) := by intro v0 v7; kernel_rfl
theorem k5_mf_1_5 : K 5 .norm 5 (.var 0) (cMF 1) pLow (pAl 5) := by intro v0 v7; kernel_rfl
theorem k5_mf_1_6 : K 5 .norm 5 (.var 0) (cMF 1) pLow (pAl 6) := by intro v0 v7; kernel_rfl
theorem k5_mf_1_7 : K 5 .norm 5 (.var 0) (cMF 1) pLow (pAl 7) := by intro v0 v7; kernel_rfl
theorem k5_mf_2_0 : K 5 .norm 5 (.var 0) (cMF 2) pLow (pAl 0) := by intro v0 v7; kernel_rfl
theorem k5_mf_2_1 : K 5 .norm 5 (.var 0) (cMF 2) pLow (pAl 1) := by intro v0 v7; kernel_rfl
theorem k5_mf_2_2 : K 5 .norm 5 (.var 0) (cMF 2) pLow (pAl 2) := by intro v0 v7; kernel_rfl
theorem k5_mf_2_3 : K 5 .norm 5 (.var 0) (cMF 2) pLow (pAl 3) := by intro v0 v7; kernel_rfl
theorem k5_mf_2_4_0 : K 5 .norm 5 (.var 0) (cMF 2) pLow (pAl2 4 0) := by intro v0 v7; kernel_rfl
theorem k5_mf_2_4_1 : K 5 .norm 5 (.var 0) (cMF 2) pLow (pAl2 4 1) := by intro v0 v7; kernel_rfl
theorem k5_mf_2_4_2 : K 5 .norm 5 (.var 0) (cMF 2) pLow (pAl2 4 2) := by intro v0 v7; kernel_rfl
theorem k5_mf_2_4_3 : K 5 .norm 5 (.var 0) (cMF 2) pLow (pAl2 4 3) := by intro v0 v7; kernel_rfl
theorem k5_mf_2_4_4 : K 5 .norm 5 (.var 0) (cMF 2) pLow (pAl2 4 4) := by intro v0 v7; kernel_rfl
theorem k5_mf_2_4_5 : K 5 .norm 5 (.var 0) (cMF 2) pLow (pAl2 4 5) := by intro v0 v7; kernel_rfl
theorem k5_mf_2_4_6 : K 5 .norm 5 (.var 0) (cMF 2) pLow (pAl2 4 6) := by intro v0 v7; kernel_rfl
theorem k5_mf_2_4_7 : K 5 .norm 5 (.var 0) (cMF 2) pLow (pAl2 4 7) := by intro v0 v7; kernel_rfl
theorem k5_mf_2_5 : K 5 .norm 5 (.var 0) (cMF 2) pLow (pAl 5) := by intro v0 v7; kernel_rfl
theorem k5_mf_2_6 : K 5 .norm 5 (.var 0) (cMF 2) pLow (pAl 6) := by intro v0 v7; kernel_rfl
theorem k5_mf_2_7 : K 5 .norm 5 (.var 0) (cMF 2) pLow (pAl 7) := by intro v0 v7; kernel_rfl
theorem k5_uf : K 5 .norm 5 (.var 0) (cMine 3 11) [] [] := by intro v0 v7; kernel_rfl
theorem k5_fNeg : K 5 .norm 5 (.var 0) cF tCneg [] := by intro v0 v7; kernel_rfl
theorem k5_fOut : K 5 .norm 5 (.var 0) cF tCout [] := by intro v0 v7; kernel_rfl
theorem k5_f0Neg : K 5 .norm 5 (.var 0) (cFc 0) tNneg [] := by intro v0 v7; kernel_rfl
theorem k5_f0Out : K 5 .norm 5 (.var 0) (cFc 0) tNout [] := by intro v0 v7; kernel_rfl
theorem k5_f1Neg : K 5 .norm 5 (.var 0) (cFc 1) tNneg [] := by intro v0 v7; kernel_rfl
theorem k5_f1Out : K 5 .norm 5 (.var 0) (cFc 1) tNout [] := by intro v0 v7; kernel_rfl
theorem k5_f1 : K 5 .norm 5 (.var 0) (cFc 1) (pgC (.var 2)) [] := by intro v0 v7; kernel_rfl
theorem k5_f0_0 : K 5 .norm 5 (.var 0) (cFc 0) (pgC (.var 2)) (pgN (.var 2) 0) := by intro v0 v7; kernel_rfl
theorem k5_f0_1 : K 5 .norm 5 (.var 0) (cFc 0) (pgC (.var 2)) (pgN (.var 2) 1) := by intro v0 v7; kernel_rfl
theorem k5_f0_2 : K 5 .norm 5 (.var 0) (cFc 0) (pgC (.var 2)) (pgN (.var 2) 2) := by intro v0 v7; kernel_rfl
theorem k5_f0_3 : K 5 .norm 5 (.var 0) (cFc 0) (pgC (.var 2)) (pgN (.var 2) 3) := by intro v0 v7; kernel_rfl
theorem k5_f0_4_0 : K 5 .norm 5 (.var 0) (cFc 0) (pgC (.var 2)) (fN2 4 0) := by intro v0 v7; kernel_rfl
theorem k5_f0_4_1 : K 5 .norm 5 (.var 0) (cFc 0) (pgC (.var 2)) (fN2 4 1) := by intro v0 v7; kernel_rfl
theorem k5_f0_4_2 : K 5 .norm 5 (.var 0) (cFc 0) (pgC (.var 2)) (fN2 4 2) := by intro v0 v7; kernel_rfl
theorem k5_f0_4_3 : K 5 .norm 5 (.var 0) (cFc 0) (pgC (.var 2)) (fN2 4 3) := by intro v0 v7; kernel_rfl
theorem k5_f0_4_4 : K 5 .norm 5 (.var 0) (cFc 0) (pgC (.var 2)) (fN2 4 4) := by intro v0 v7; kernel_rfl
theorem k5_f0_4_5 : K 5 .norm 5 (.var 0) (cFc 0) (pgC (.var 2)) (fN2 4 5) := by intro v0 v7; kernel_rfl
theorem k5_f0_4_6 : K 5 .norm 5 (.var 0) (cFc 0) (pgC (.var 2)) (fN2 4 6) := by intro v0 v7; kernel_rfl
theorem k5_f0_4_7 : K 5 .norm 5 (.var 0) (cFc 0) (pgC (.var 2)) (fN2 4 7) := by intro v0 v7; kernel_rfl
theorem k5_f0_5 : K 5 .norm 5 (.var 0) (cFc 0) (pgC (.var 2)) (pgN (.var 2) 5) := by intro v0 v7; kernel_rfl
theorem k5_f0_6 : K 5 .norm 5 (.var 0) (cFc 0) (pgC (.var 2)) (pgN (.var 2) 6) := by intro v0 v7; kernel_rfl
theorem k5_f0_7 : K 5 .norm 5 (.var 0) (cFc 0) (pgC (.var 2)) (pgN (.var 2) 7) := by intro v0 v7; kernel_rfl
theorem k5_mf0 : ∀ d e : Nat, d < 8 → e < 8 → (d + 1 ≠ 5 → K 5 .norm 5 (.var 0) (cMF 0) pLow (pAl d)) ∧ (d + 1 = 5 → K 5 .norm 5 (.var 0) (cMF 0) pLow (pAl2 d e))
  | 0, _, _, _ => ⟨fun _ => k5_mf_0_0, fun h => absurd h (by decide)⟩
  | 1, _, _, _ => ⟨fun _ => k5_mf_0_1, fun h => absurd h (by decide)⟩
  | 2, _, _, _ => ⟨fun _ => k5_mf_0_2, fun h => absurd h (by decide)⟩
  | 3, _, _, _ => ⟨fun _ => k5_mf_0_3, fun h => absurd h (by decide)⟩
  | 4, 0, _, _ => ⟨fun h => absurd rfl h, fun _ => k5_mf_0_4_0⟩
  | 4, 1, _, _ => ⟨fun h => absurd rfl h, fun _ => k5_mf_0_4_1⟩
  | 4, 2, _, _ => ⟨fun h => absurd rfl h, fun _ => k5_mf_0_4_2⟩
  | 4, 3, _, _ => ⟨fun h => absurd rfl h, fun _ => k5_mf_0_4_3⟩
  | 4, 4, _, _ => ⟨fun h => absurd rfl h, fun _ => k5_mf_0_4_4⟩
  | 4, 5, _, _ => ⟨fun h => absurd rfl h, fun _ => k5_mf_0_4_5⟩
  | 4, 6, _, _ => ⟨fun h => absurd rfl h, fun _ => k5_mf_0_4_6⟩
  | 4, 7, _, _ => ⟨fun h => absurd rfl h, fun _ => k5_mf_0_4_7⟩
  | 4, e + 8, _, h => absurd h (by omega)
  | 5, _, _, _ => ⟨fun _ => k5_mf_0_5, fun h => absurd h (by decide)⟩
  | 6, _, _, _ => ⟨fun _ => k5_mf_0_6, fun h => absurd h (by decide)⟩
  | 7, _, _, _ => ⟨fun _ => k5_mf_0_7, fun h => absurd h (by decide)⟩
  | d + 8, _, h, _ => absurd h (by omega)
theorem k5_mf1 : ∀ d e : Nat, d < 8 → e < 8 → (d + 1 ≠ 5 → K 5 .norm 5 (.var 0) (cMF 1) pLow (pAl d)) ∧ (d + 1 = 5 → K 5 .norm 5 (.var 0) (cMF 1) pLow (pAl2 d e))
  | 0, _, _, _ => ⟨fun _ => k5_mf_1_0, fun h => absurd h (by decide)⟩
  | 1, _, _, _ => ⟨fun _ => k5_mf_1_1, fun h => absurd h (by decide)⟩
  | 2, _, _, _ => ⟨fun _ => k5_mf_1_2, fun h => absurd h (by decide)⟩
  | 3, _, _, _ => ⟨fun _ => k5_mf_1_3, fun h => absurd h (by decide)⟩
  | 4, 0, _, _ => ⟨fun h => absurd rfl h, fun _ => k5_mf_1_4_0⟩
  | 4, 1, _, _ => ⟨fun h => absurd rfl h, fun _ => k5_mf_1_4_1⟩
  | 4, 2, _, _ => ⟨fun h => absurd rfl h, fun _ => k5_mf_1_4_2⟩
  | 4, 3, _, _ => ⟨fun h => absurd rfl h, fun _ => k5_mf_1_4_3⟩
  | 4, 4, _, _ => ⟨fun h => absurd rfl h, fun _ => k5_mf_1_4_4⟩
  | 4, 5, _, _ => ⟨fun h => absurd rfl h, fun _ => k5_mf_1_4_5⟩
  | 4, 6, _, _ => ⟨fun h => absurd rfl h, fun _ => k5_mf_1_4_6⟩
  | 4, 7, _, _ => ⟨fun h => absurd rfl h, fun _ => k5_mf_1_4_7⟩
  | 4, e + 8, _, h => absurd h (by omega)
  | 5, _, _, _ => ⟨fun _ => k5_mf_1_5, fun h => absurd h (by decide)⟩
  | 6, _, _, _ => ⟨fun _ => k5_mf_1_6, fun h => absurd h (by decide)⟩
  | 7, _, _, _ => ⟨fun _ => k5_mf_1_7, fun h => absurd h (by decide)⟩
  | d + 8, _, h, _ => absurd h (by omega)
theorem k5_mf2 : ∀ d e : Nat, d < 8 → e < 8 → (d + 1 ≠ 5 → K 5 .norm 5 (.var 0) (cMF 2) pLow (pAl d)) ∧ (d + 1 = 5 → K 5 .norm 5 (.var 0) (cMF 2) pLow (pAl2 d e))
  | 0, _, _, _ => ⟨fun _ => k5_mf_2_0, fun h => absurd h (by decide)⟩
  | 1, _, _, _ => ⟨fun _ => k5_mf_2_1, fun h => absurd h (by decide)⟩
  | 2, _, _, _ => ⟨fun _ => k5_mf_2_2, fun h => absurd h (by decide)⟩
  | 3, _, _, _ => ⟨fun _ => k5_mf_2_3, fun h => absurd h (by decide)⟩
  | 4, 0, _, _ => ⟨fun h => absurd rfl h, fun _ => k5_mf_2_4_0⟩
  | 4, 1, _, _ => ⟨fun h => absurd rfl h, fun _ => k5_mf_2_4_1⟩
  | 4, 2, _, _ => ⟨fun h => absurd rfl h, fun _ => k5_mf_2_4_2⟩
  | 4, 3, _, _ => ⟨fun h => absurd rfl h, fun _ => k5_mf_2_4_3⟩
  | 4, 4, _, _ => ⟨fun h => absurd rfl h, fun _ => k5_mf_2_4_4⟩
  | 4, 5, _, _ => ⟨fun h => absurd rfl h, fun _ => k5_mf_2_4_5⟩
  | 4, 6, _, _ => ⟨fun h => absurd rfl h, fun _ => k5_mf_2_4_6⟩
  | 4, 7, _, _ => ⟨fun h => absurd rfl h, fun _ => k5_mf_2_4_7⟩
  | 4, e + 8, _, h => absurd h (by omega)
  | 5, _, _, _ => ⟨fun _ => k5_mf_2_5, fun h => absurd h (by decide)⟩
  | 6, _, _, _ => ⟨fun _ => k5_mf_2_6, fun h => absurd h (by decide)⟩
  | 7, _, _, _ => ⟨fun _ => k5_mf_2_7, fun h => absurd h (by decide)⟩
  | d + 8, _, h, _ => absurd h (by omega)
theorem k5_f0 : ∀ d e : Nat, d < 8 → e < 8 → (d + 1 ≠ 5 → K 5 .norm 5 (.var 0) (cFc 0) (pgC (.var 2)) (pgN (.var 2) d)) ∧ (d + 1 = 5 → K 5 .norm 5 (.var 0) (cFc 0) (pgC (.var 2)) (fN2 d e))
  | 0, _, _, _ => ⟨fun _ => k5_f0_0, fun h => absurd h (by decide)⟩
  | 1, _, _, _ => ⟨fun _ => k5_f0_1, fun h => absurd h (by decide)⟩
  | 2, _, _, _ => ⟨fun _ => k5_f0_2, fun h => absurd h (by decide)⟩
  | 3, _, _, _ => ⟨fun _ => k5_f0_3, fun h => absurd h (by decide)⟩
  | 4, 0, _, _ => ⟨fun h => absurd rfl h, fun _ => k5_f0_4_0⟩
  | 4, 1, _, _ => ⟨fun h => absurd rfl h, fun _ => k5_f0_4_1⟩
  | 4, 2, _, _ => ⟨fun h => absurd rfl h, fun _ => k5_f0_4_2⟩
  | 4, 3, _, _ => ⟨fun h => absurd rfl h, fun _ => k5_f0_4_3⟩
  | 4, 4, _, _ => ⟨fun h => absurd rfl h, fun _ => k5_f0_4_4⟩
  | 4, 5, _, _ => ⟨fun h => absurd rfl h, fun _ => k5_f0_4_5⟩
  | 4, 6, _, _ => ⟨fun h => absurd rfl h, fun _ => k5_f0_4_6⟩
  | 4, 7, _, _ => ⟨fun h => absurd rfl h, fun _ => k5_f0_4_7⟩
  | 4, e + 8, _, h => absurd h (by omega)
  | 5, _, _, _ => ⟨fun _ => k5_f0_5, fun h => absurd h (by decide)⟩
  | 6, _, _, _ => ⟨fun _ => k5_f0_6, fun h => absurd h (by decide)⟩
  | 7, _, _, _ => ⟨fun _ => k5_f0_7, fun h => absurd h (by decide)⟩
  | d + 8, _, h, _ => absurd h (by omega)
end VO
