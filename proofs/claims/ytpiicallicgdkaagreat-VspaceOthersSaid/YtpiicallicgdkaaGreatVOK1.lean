/- VspaceOthers: the evaluations of its loop's body, place 1. No conditions beside those in its theorems. -/
import Derived.Test.YtpiicallicgdkaaGreatVOF
set_option linter.unusedVariables false
open Go Eng Go.Proofs Go.RowKit
namespace VO
open Base
theorem k1_other : K 1 (.exit 1) 1 (.var 0) cOther tOther [] := by intro v0 v7; kernel_rfl
theorem k1_a0t : K 1 (.exit 1) 1 (.var 0) (cA 0) (tA 8 true) [] := by intro v0 v7; kernel_rfl
theorem k1_a0f : K 1 (.exit 1) 1 (.var 0) (cA 0) (tA 8 false) [] := by intro v0 v7; kernel_rfl
theorem k1_b0 : K 1 (.exit 1) 1 (.var 0) (cB 0) (tB 8) [] := by intro v0 v7; kernel_rfl
theorem k1_a1t : K 1 (.exit 1) 1 (.var 0) (cA 1) (tA 8 true) [] := by intro v0 v7; kernel_rfl
theorem k1_a1f : K 1 (.exit 1) 1 (.var 0) (cA 1) (tA 8 false) [] := by intro v0 v7; kernel_rfl
theorem k1_b1 : K 1 (.exit 1) 1 (.var 0) (cB 1) (tB 8) [] := by intro v0 v7; kernel_rfl
theorem k1_a2t : K 1 (.exit 1) 1 (.var 0) (cA 2) (tA 11 true) [] := by intro v0 v7; kernel_rfl
theorem k1_a2f : K 1 (.exit 1) 1 (.var 0) (cA 2) (tA 11 false) [] := by intro v0 v7; kernel_rfl
theorem k1_b2 : K 1 (.exit 1) 1 (.var 0) (cB 2) (tB 11) [] := by intro v0 v7; kernel_rfl
theorem k1_a3t : K 1 (.exit 1) 1 (.var 0) (cA 3) (tA 11 true) [] := by intro v0 v7; kernel_rfl
theorem k1_a3f : K 1 (.exit 1) 1 (.var 0) (cA 3) (tA 11 false) [] := by intro v0 v7; kernel_rfl
theorem k1_b3 : K 1 (.exit 1) 1 (.var 0) (cB 3) (tB 11) [] := by intro v0 v7; kernel_rfl
theorem k1_mtHigh : K 1 .norm 1 (.var 0) (cMine 0 8) tHigh [] := by intro v0 v7; kernel_rfl
theorem k1_mtLow : K 1 .norm 1 (.var 0) (cMine 0 8) tLow [] := by intro v0 v7; kernel_rfl
theorem k1_ut : K 1 .norm 0 (.var 0) (cMine 1 8) [] [] := by intro v0 v7; kernel_rfl
theorem k1_mfHigh : K 1 .norm 1 (.var 0) (cMine 2 11) tHigh [] := by intro v0 v7; kernel_rfl
theorem k1_mfUnal : K 1 .norm 1 (.var 0) (cMine 2 11) tUnal [] := by intro v0 v7; kernel_rfl
theorem k1_mfSmall : K 1 .norm 1 (.var 0) (cMine 2 11) tSmall nAl := by intro v0 v7; kernel_rfl
theorem k1_mfGreat : K 1 .norm 1 (.var 0) (cMine 2 11) tGreat nAl := by intro v0 v7; kernel_rfl
theorem k1_mf_0_0_0 : K 1 .norm 1 (.var 0) (cMF 0) pLow (pAl2 0 0) := by intro v0 v7; kernel_rfl
theorem k1_mf_0_0_1 : K 1 .norm 1 (.var 0) (cMF 0) pLow (pAl2 0 1) := by intro v0 v7; kernel_rfl
theorem k1_mf_0_0_2 : K 1 .norm 1 (.var 0) (cMF 0) pLow (pAl2 0 2) := by intro v0 v7; kernel_rfl
theorem k1_mf_0_0_3 : K 1 .norm 1 (.var 0) (cMF 0) pLow (pAl2 0 3) := by intro v0 v7; kernel_rfl
theorem k1_mf_0_0_4 : K 1 .norm 1 (.var 0) (cMF 0) pLow (pAl2 0 4) := by intro v0 v7; kernel_rfl
theorem k1_mf_0_0_5 : K 1 .norm 1 (.var 0) (cMF 0) pLow (pAl2 0 5) := by intro v0 v7; kernel_rfl
theorem k1_mf_0_0_6 : K 1 .norm 1 (.var 0) (cMF 0) pLow (pAl2 0 6) := by intro v0 v7; kernel_rfl
theorem k1_mf_0_0_7 : K 1 .norm 1 (.var 0) (cMF 0) pLow (pAl2 0 7) := by intro v0 v7; kernel_rfl
theorem k1_mf_0_1 : K 1 .norm 1 (.var 0) (cMF 0) pLow (pAl 1) := by intro v0 v7; kernel_rfl
theorem k1_mf_0_2 : K 1 .norm 1 (.var 0) (cMF 0) pLow (pAl 2) := by intro v0 v7; kernel_rfl
theorem k1_mf_0_3 : K 1 .norm 1 (.var 0) (cMF 0) pLow (pAl 3) := by intro v0 v7; kernel_rfl
theorem k1_mf_0_4 : K 1 .norm 1 (.var 0) (cMF 0) pLow (pAl 4) := by intro v0 v7; kernel_rfl
theorem k1_mf_0_5 : K 1 .norm 1 (.var 0) (cMF 0) pLow (pAl 5) := by intro v0 v7; kernel_rfl
theorem k1_mf_0_6 : K 1 .norm 1 (.var 0) (cMF 0) pLow (pAl 6) := by intro v0 v7; kernel_rfl
theorem k1_mf_0_7 : K 1 .norm 1 (.var 0) (cMF 0) pLow (pAl 7) := by intro v0 v7; kernel_rfl
theorem k1_mf_1_0_0 : K 1 .norm 1 (.var 0) (cMF 1) pLow (pAl2 0 0) := by intro v0 v7; kernel_rfl
theorem k1_mf_1_0_1 : K 1 .norm 1 (.var 0) (cMF 1) pLow (pAl2 0 1) := by intro v0 v7; kernel_rfl
theorem k1_mf_1_0_2 : K 1 .norm 1 (.var 0) (cMF 1) pLow (pAl2 0 2) := by intro v0 v7; kernel_rfl
theorem k1_mf_1_0_3 : K 1 .norm 1 (.var 0) (cMF 1) pLow (pAl2 0 3) := by intro v0 v7; kernel_rfl
theorem k1_mf_1_0_4 : K 1 .norm 1 (.var 0) (cMF 1) pLow (pAl2 0 4) := by intro v0 v7; kernel_rfl
theorem k1_mf_1_0_5 : K 1 .norm 1 (.var 0) (cMF 1) pLow (pAl2 0 5) := by intro v0 v7; kernel_rfl
theorem k1_mf_1_0_6 : K 1 .norm 1 (.var 0) (cMF 1) pLow (pAl2 0 6) := by intro v0 v7; kernel_rfl
theorem k1_mf_1_0_7 : K 1 .norm 1 (.var 0) (cMF 1) pLow (pAl2 0 7) := by intro v0 v7; kernel_rfl
theorem k1_mf_1_1 : K 1 .norm 1 (.var 0) (cMF 1) pLow (pAl 1) := by intro v0 v7; kernel_rfl
theorem k1_mf_1_2 : K 1 .norm 1 (.var 0) (cMF 1) pLow (pAl 2) := by intro v0 v7; kernel_rfl
theorem k1_mf_1_3 : K 1 .norm 1 (.var 0) (cMF 1) pLow (pAl 3) := by intro v0 v7; kernel_rfl
theorem k1_mf_1_4 : K 1 .norm 1 (.var 0) (cMF 1) pLow (pAl 4) := by intro v0 v7; kernel_rfl
theorem k1_mf_1_5 : K 1 .norm 1 (.var 0) (cMF 1) pLow (pAl 5) := by intro v0 v7; kernel_rfl
theorem k1_mf_1_6 : K 1 .norm 1 (.var 0) (cMF 1) pLow (pAl 6) := by intro v0 v7; kernel_rfl
theorem k1_mf_1_7 : K 1 .norm 1 (.var 0) (cMF 1) pLow (pAl 7) := by intro v0 v7; kernel_rfl
theorem k1_mf_2_0_0 : K 1 .norm 1 (.var 0) (cMF 2) pLow (pAl2 0 0) := by intro v0 v7; kernel_rfl
theorem k1_mf_2_0_1 : K 1 .norm 1 (.var 0) (cMF 2) pLow (pAl2 0 1) := by intro v0 v7; kernel_rfl
theorem k1_mf_2_0_2 : K 1 .norm 1 (.var 0) (cMF 2) pLow (pAl2 0 2) := by intro v0 v7; kernel_rfl
theorem k1_mf_2_0_3 : K 1 .norm 1 (.var 0) (cMF 2) pLow (pAl2 0 3) := by intro v0 v7; kernel_rfl
theorem k1_mf_2_0_4 : K 1 .norm 1 (.var 0) (cMF 2) pLow (pAl2 0 4) := by intro v0 v7; kernel_rfl
theorem k1_mf_2_0_5 : K 1 .norm 1 (.var 0) (cMF 2) pLow (pAl2 0 5) := by intro v0 v7; kernel_rfl
theorem k1_mf_2_0_6 : K 1 .norm 1 (.var 0) (cMF 2) pLow (pAl2 0 6) := by intro v0 v7; kernel_rfl
theorem k1_mf_2_0_7 : K 1 .norm 1 (.var 0) (cMF 2) pLow (pAl2 0 7) := by intro v0 v7; kernel_rfl
theorem k1_mf_2_1 : K 1 .norm 1 (.var 0) (cMF 2) pLow (pAl 1) := by intro v0 v7; kernel_rfl
theorem k1_mf_2_2 : K 1 .norm 1 (.var 0) (cMF 2) pLow (pAl 2) := by intro v0 v7; kernel_rfl
theorem k1_mf_2_3 : K 1 .norm 1 (.var 0) (cMF 2) pLow (pAl 3) := by intro v0 v7; kernel_rfl
theorem k1_mf_2_4 : K 1 .norm 1 (.var 0) (cMF 2) pLow (pAl 4) := by intro v0 v7; kernel_rfl
theorem k1_mf_2_5 : K 1 .norm 1 (.var 0) (cMF 2) pLow (pAl 5) := by intro v0 v7; kernel_rfl
theorem k1_mf_2_6 : K 1 .norm 1 (.var 0) (cMF 2) pLow (pAl 6) := by intro v0 v7; kernel_rfl
theorem k1_mf_2_7 : K 1 .norm 1 (.var 0) (cMF 2) pLow (pAl 7) := by intro v0 v7; kernel_rfl
theorem k1_uf : K 1 .norm 1 (.var 0) (cMine 3 11) [] [] := by intro v0 v7; kernel_rfl
theorem k1_fNeg : K 1 .norm 1 (.var 0) cF tCneg [] := by intro v0 v7; kernel_rfl
theorem k1_fOut : K 1 .norm 1 (.var 0) cF tCout [] := by intro v0 v7; kernel_rfl
theorem k1_f0Neg : K 1 .norm 1 (.var 0) (cFc 0) tNneg [] := by intro v0 v7; kernel_rfl
theorem k1_f0Out : K 1 .norm 1 (.var 0) (cFc 0) tNout [] := by intro v0 v7; kernel_rfl
theorem k1_f1Neg : K 1 .norm 1 (.var 0) (cFc 1) tNneg [] := by intro v0 v7; kernel_rfl
theorem k1_f1Out : K 1 .norm 1 (.var 0) (cFc 1) tNout [] := by intro v0 v7; kernel_rfl
theorem k1_f1 : K 1 .norm 1 (.var 0) (cFc 1) (pgC (.var 2)) [] := by intro v0 v7; kernel_rfl
theorem k1_f0_0_0 : K 1 .norm 1 (.var 0) (cFc 0) (pgC (.var 2)) (fN2 0 0) := by intro v0 v7; kernel_rfl
theorem k1_f0_0_1 : K 1 .norm 1 (.var 0) (cFc 0) (pgC (.var 2)) (fN2 0 1) := by intro v0 v7; kernel_rfl
theorem k1_f0_0_2 : K 1 .norm 1 (.var 0) (cFc 0) (pgC (.var 2)) (fN2 0 2) := by intro v0 v7; kernel_rfl
theorem k1_f0_0_3 : K 1 .norm 1 (.var 0) (cFc 0) (pgC (.var 2)) (fN2 0 3) := by intro v0 v7; kernel_rfl
theorem k1_f0_0_4 : K 1 .norm 1 (.var 0) (cFc 0) (pgC (.var 2)) (fN2 0 4) := by intro v0 v7; kernel_rfl
theorem k1_f0_0_5 : K 1 .norm 1 (.var 0) (cFc 0) (pgC (.var 2)) (fN2 0 5) := by intro v0 v7; kernel_rfl
theorem k1_f0_0_6 : K 1 .norm 1 (.var 0) (cFc 0) (pgC (.var 2)) (fN2 0 6) := by intro v0 v7; kernel_rfl
theorem k1_f0_0_7 : K 1 .norm 1 (.var 0) (cFc 0) (pgC (.var 2)) (fN2 0 7) := by intro v0 v7; kernel_rfl
theorem k1_f0_1 : K 1 .norm 1 (.var 0) (cFc 0) (pgC (.var 2)) (pgN (.var 2) 1) := by intro v0 v7; kernel_rfl
theorem k1_f0_2 : K 1 .norm 1 (.var 0) (cFc 0) (pgC (.var 2)) (pgN (.var 2) 2) := by intro v0 v7; kernel_rfl
theorem k1_f0_3 : K 1 .norm 1 (.var 0) (cFc 0) (pgC (.var 2)) (pgN (.var 2) 3) := by intro v0 v7; kernel_rfl
theorem k1_f0_4 : K 1 .norm 1 (.var 0) (cFc 0) (pgC (.var 2)) (pgN (.var 2) 4) := by intro v0 v7; kernel_rfl
theorem k1_f0_5 : K 1 .norm 1 (.var 0) (cFc 0) (pgC (.var 2)) (pgN (.var 2) 5) := by intro v0 v7; kernel_rfl
theorem k1_f0_6 : K 1 .norm 1 (.var 0) (cFc 0) (pgC (.var 2)) (pgN (.var 2) 6) := by intro v0 v7; kernel_rfl
theorem k1_f0_7 : K 1 .norm 1 (.var 0) (cFc 0) (pgC (.var 2)) (pgN (.var 2) 7) := by intro v0 v7; kernel_rfl
theorem k1_mf0 : ∀ d e : Nat, d < 8 → e < 8 → (d + 1 ≠ 1 → K 1 .norm 1 (.var 0) (cMF 0) pLow (pAl d)) ∧ (d + 1 = 1 → K 1 .norm 1 (.var 0) (cMF 0) pLow (pAl2 d e))
  | 0, 0, _, _ => ⟨fun h => absurd rfl h, fun _ => k1_mf_0_0_0⟩
  | 0, 1, _, _ => ⟨fun h => absurd rfl h, fun _ => k1_mf_0_0_1⟩
  | 0, 2, _, _ => ⟨fun h => absurd rfl h, fun _ => k1_mf_0_0_2⟩
  | 0, 3, _, _ => ⟨fun h => absurd rfl h, fun _ => k1_mf_0_0_3⟩
  | 0, 4, _, _ => ⟨fun h => absurd rfl h, fun _ => k1_mf_0_0_4⟩
  | 0, 5, _, _ => ⟨fun h => absurd rfl h, fun _ => k1_mf_0_0_5⟩
  | 0, 6, _, _ => ⟨fun h => absurd rfl h, fun _ => k1_mf_0_0_6⟩
  | 0, 7, _, _ => ⟨fun h => absurd rfl h, fun _ => k1_mf_0_0_7⟩
  | 0, e + 8, _, h => absurd h (by omega)
  | 1, _, _, _ => ⟨fun _ => k1_mf_0_1, fun h => absurd h (by decide)⟩
  | 2, _, _, _ => ⟨fun _ => k1_mf_0_2, fun h => absurd h (by decide)⟩
  | 3, _, _, _ => ⟨fun _ => k1_mf_0_3, fun h => absurd h (by decide)⟩
  | 4, _, _, _ => ⟨fun _ => k1_mf_0_4, fun h => absurd h (by decide)⟩
  | 5, _, _, _ => ⟨fun _ => k1_mf_0_5, fun h => absurd h (by decide)⟩
  | 6, _, _, _ => ⟨fun _ => k1_mf_0_6, fun h => absurd h (by decide)⟩
  | 7, _, _, _ => ⟨fun _ => k1_mf_0_7, fun h => absurd h (by decide)⟩
  | d + 8, _, h, _ => absurd h (by omega)
theorem k1_mf1 : ∀ d e : Nat, d < 8 → e < 8 → (d + 1 ≠ 1 → K 1 .norm 1 (.var 0) (cMF 1) pLow (pAl d)) ∧ (d + 1 = 1 → K 1 .norm 1 (.var 0) (cMF 1) pLow (pAl2 d e))
  | 0, 0, _, _ => ⟨fun h => absurd rfl h, fun _ => k1_mf_1_0_0⟩
  | 0, 1, _, _ => ⟨fun h => absurd rfl h, fun _ => k1_mf_1_0_1⟩
  | 0, 2, _, _ => ⟨fun h => absurd rfl h, fun _ => k1_mf_1_0_2⟩
  | 0, 3, _, _ => ⟨fun h => absurd rfl h, fun _ => k1_mf_1_0_3⟩
  | 0, 4, _, _ => ⟨fun h => absurd rfl h, fun _ => k1_mf_1_0_4⟩
  | 0, 5, _, _ => ⟨fun h => absurd rfl h, fun _ => k1_mf_1_0_5⟩
  | 0, 6, _, _ => ⟨fun h => absurd rfl h, fun _ => k1_mf_1_0_6⟩
  | 0, 7, _, _ => ⟨fun h => absurd rfl h, fun _ => k1_mf_1_0_7⟩
  | 0, e + 8, _, h => absurd h (by omega)
  | 1, _, _, _ => ⟨fun _ => k1_mf_1_1, fun h => absurd h (by decide)⟩
  | 2, _, _, _ => ⟨fun _ => k1_mf_1_2, fun h => absurd h (by decide)⟩
  | 3, _, _, _ => ⟨fun _ => k1_mf_1_3, fun h => absurd h (by decide)⟩
  | 4, _, _, _ => ⟨fun _ => k1_mf_1_4, fun h => absurd h (by decide)⟩
  | 5, _, _, _ => ⟨fun _ => k1_mf_1_5, fun h => absurd h (by decide)⟩
  | 6, _, _, _ => ⟨fun _ => k1_mf_1_6, fun h => absurd h (by decide)⟩
  | 7, _, _, _ => ⟨fun _ => k1_mf_1_7, fun h => absurd h (by decide)⟩
  | d + 8, _, h, _ => absurd h (by omega)
theorem k1_mf2 : ∀ d e : Nat, d < 8 → e < 8 → (d + 1 ≠ 1 → K 1 .norm 1 (.var 0) (cMF 2) pLow (pAl d)) ∧ (d + 1 = 1 → K 1 .norm 1 (.var 0) (cMF 2) pLow (pAl2 d e))
  | 0, 0, _, _ => ⟨fun h => absurd rfl h, fun _ => k1_mf_2_0_0⟩
  | 0, 1, _, _ => ⟨fun h => absurd rfl h, fun _ => k1_mf_2_0_1⟩
  | 0, 2, _, _ => ⟨fun h => absurd rfl h, fun _ => k1_mf_2_0_2⟩
  | 0, 3, _, _ => ⟨fun h => absurd rfl h, fun _ => k1_mf_2_0_3⟩
  | 0, 4, _, _ => ⟨fun h => absurd rfl h, fun _ => k1_mf_2_0_4⟩
  | 0, 5, _, _ => ⟨fun h => absurd rfl h, fun _ => k1_mf_2_0_5⟩
  | 0, 6, _, _ => ⟨fun h => absurd rfl h, fun _ => k1_mf_2_0_6⟩
  | 0, 7, _, _ => ⟨fun h => absurd rfl h, fun _ => k1_mf_2_0_7⟩
  | 0, e + 8, _, h => absurd h (by omega)
  | 1, _, _, _ => ⟨fun _ => k1_mf_2_1, fun h => absurd h (by decide)⟩
  | 2, _, _, _ => ⟨fun _ => k1_mf_2_2, fun h => absurd h (by decide)⟩
  | 3, _, _, _ => ⟨fun _ => k1_mf_2_3, fun h => absurd h (by decide)⟩
  | 4, _, _, _ => ⟨fun _ => k1_mf_2_4, fun h => absurd h (by decide)⟩
  | 5, _, _, _ => ⟨fun _ => k1_mf_2_5, fun h => absurd h (by decide)⟩
  | 6, _, _, _ => ⟨fun _ => k1_mf_2_6, fun h => absurd h (by decide)⟩
  | 7, _, _, _ => ⟨fun _ => k1_mf_2_7, fun h => absurd h (by decide)⟩
  | d + 8, _, h, _ => absurd h (by omega)
theorem k1_f0 : ∀ d e : Nat, d < 8 → e < 8 → (d + 1 ≠ 1 → K 1 .norm 1 (.var 0) (cFc 0) (pgC (.var 2)) (pgN (.var 2) d)) ∧ (d + 1 = 1 → K 1 .norm 1 (.var 0) (cFc 0) (pgC (.var 2)) (fN2 d e))
  | 0, 0, _, _ => ⟨fun h => absurd rfl h, fun _ => k1_f0_0_0⟩
  | 0, 1, _, _ => ⟨fun h => absurd rfl h, fun _ => k1_f0_0_1⟩
  | 0, 2, _, _ => ⟨fun h => absurd rfl h, fun _ => k1_f0_0_2⟩
  | 0, 3, _, _ => ⟨fun h => absurd rfl h, fun _ => k1_f0_0_3⟩
  | 0, 4, _, _ => ⟨fun h => absurd rfl h, fun _ => k1_f0_0_4⟩
  | 0, 5, _, _ => ⟨fun h => absurd rfl h, fun _ => k1_f0_0_5⟩
  | 0, 6, _, _ => ⟨fun h => absurd rfl h, fun _ => k1_f0_0_6⟩
  | 0, 7, _, _ => ⟨fun h => absurd rfl h, fun _ => k1_f0_0_7⟩
  | 0, e + 8, _, h => absurd h (by omega)
  | 1, _, _, _ => ⟨fun _ => k1_f0_1, fun h => absurd h (by decide)⟩
  | 2, _, _, _ => ⟨fun _ => k1_f0_2, fun h => absurd h (by decide)⟩
  | 3, _, _, _ => ⟨fun _ => k1_f0_3, fun h => absurd h (by decide)⟩
  | 4, _, _, _ => ⟨fun _ => k1_f0_4, fun h => absurd h (by decide)⟩
  | 5, _, _, _ => ⟨fun _ => k1_f0_5, fun h => absurd h (by decide)⟩
  | 6, _, _, _ => ⟨fun _ => k1_f0_6, fun h => absurd h (by decide)⟩
  | 7, _, _, _ => ⟨fun _ => k1_f0_7, fun h => absurd h (by decide)⟩
  | d + 8, _, h, _ => absurd h (by omega)
end VO
