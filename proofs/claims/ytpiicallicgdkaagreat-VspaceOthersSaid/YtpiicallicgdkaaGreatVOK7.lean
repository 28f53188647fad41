/- VspaceOthers: the evaluations of its loop's body, place 7. No conditions beside those in its theorems. -/
import Derived.Test.YtpiicallicgdkaaGreatVOF
set_option linter.unusedVariables false
open Go Eng Go.Proofs Go.RowKit
namespace VO
open Base
theorem k7_other : K 7 (.exit 1) 7 (.var 0) cOther tOther [] := by intro v0 v7; kernel_rfl
theorem k7_a0t : K 7 (.exit 1) 7 (.var 0) (cA 0) (tA 8 true) [] := by intro v0 v7; kernel_rfl
theorem k7_a0f : K 7 (.exit 1) 7 (.var 0) (cA 0) (tA 8 false) [] := by intro v0 v7; kernel_rfl
theorem k7_b0 : K 7 (.exit 1) 7 (.var 0) (cB 0) (tB 8) [] := by intro v0 v7; kernel_rfl
theorem k7_a1t : K 7 (.exit 1) 7 (.var 0) (cA 1) (tA 8 true) [] := by intro v0 v7; kernel_rfl
theorem k7_a1f : K 7 (.exit 1) 7 (.var 0) (cA 1) (tA 8 false) [] := by intro v0 v7; kernel_rfl
theorem k7_b1 : K 7 (.exit 1) 7 (.var 0) (cB 1) (tB 8) [] := by intro v0 v7; kernel_rfl
theorem k7_a2t : K 7 (.exit 1) 7 (.var 0) (cA 2) (tA 11 true) [] := by intro v0 v7; kernel_rfl
theorem k7_a2f : K 7 (.exit 1) 7 (.var 0) (cA 2) (tA 11 false) [] := by intro v0 v7; kernel_rfl
theorem k7_b2 : K 7 (.exit 1) 7 (.var 0) (cB 2) (tB 11) [] := by intro v0 v7; kernel_rfl
theorem k7_a3t : K 7 (.exit 1) 7 (.var 0) (cA 3) (tA 11 true) [] := by intro v0 v7; kernel_rfl
theorem k7_a3f : K 7 (.exit 1) 7 (.var 0) (cA 3) (tA 11 false) [] := by intro v0 v7; kernel_rfl
theorem k7_b3 : K 7 (.exit 1) 7 (.var 0) (cB 3) (tB 11) [] := by intro v0 v7; kernel_rfl
theorem k7_mtHigh : K 7 .norm 7 (.var 0) (cMine 0 8) tHigh [] := by intro v0 v7; kernel_rfl
theorem k7_mtLow : K 7 .norm 7 (.var 0) (cMine 0 8) tLow [] := by intro v0 v7; kernel_rfl
theorem k7_ut : K 7 .norm 0 (.var 0) (cMine 1 8) [] [] := by intro v0 v7; kernel_rfl
theorem k7_mfHigh : K 7 .norm 7 (.var 0) (cMine 2 11) tHigh [] := by intro v0 v7; kernel_rfl
theorem k7_mfUnal : K 7 .norm 7 (.var 0) (cMine 2 11) tUnal [] := by intro v0 v7; kernel_rfl
theorem k7_mfSmall : K 7 .norm 7 (.var 0) (cMine 2 11) tSmall nAl := by intro v0 v7; kernel_rfl
theorem k7_mfGreat : K 7 .norm 7 (.var 0) (cMine 2 11) tGreat nAl := by intro v0 v7; kernel_rfl
theorem k7_mf_0_0 : K 7 .norm 7 (.var 0) (cMF 0) pLow (pAl 0) := by intro v0 v7; kernel_rfl
theorem k7_mf_0_1 : K 7 .norm 7 (.var 0) (cMF 0) pLow (pAl 1) := by intro v0 v7; kernel_rfl
theorem k7_mf_0_2 : K 7 .norm 7 (.var 0) (cMF 0) pLow (pAl 2) := by intro v0 v7; kernel_rfl
theorem k7_mf_0_3 : K 7 .norm 7 (.var 0) (cMF 0) pLow (pAl 3) := by intro v0 v7; kernel_rfl
theorem k7_mf_0_4 : K 7 .norm 7 (.var 0) (cMF 0) pLow (pAl 4) := by intro v0 v7; kernel_rfl
theorem k7_mf_0_5 : K 7 .norm 7 (.var 0) (cMF 0) pLow (pAl 5) := by intro v0 v7; kernel_rfl
theorem k7_mf_0_6_0 : K 7 .norm 7 (.var 0) (cMF 0) pLow (pAl2 6 0) := by intro v0 v7; kernel_rfl
theorem k7_mf_0_6_1 : K 7 .norm 7 (.var 0) (cMF 0) pLow (pAl2 6 1) := by intro v0 v7; kernel_rfl
theorem k7_mf_0_6_2 : K 7 .norm 7 (.var 0) (cMF 0) pLow (pAl2 6 2) := by intro v0 v7; kernel_rfl
theorem k7_mf_0_6_3 : K 7 .norm 7 (.var 0) (cMF 0) pLow (pAl2 6 3) := by intro v0 v7; kernel_rfl
theorem k7_mf_0_6_4 : K 7 .norm 7 (.var 0) (cMF 0) pLow (pAl2 6 4) := by intro v0 v7; kernel_rfl
theorem k7_mf_0_6_5 : K 7 .norm 7 (.var 0) (cMF 0) pLow (pAl2 6 5) := by intro v0 v7; kernel_rfl
theorem k7_mf_0_6_6 : K 7 .norm 7 (.var 0) (cMF 0) pLow (pAl2 6 6) := by intro v0 v7; kernel_rfl
theorem k7_mf_0_6_7 : K 7 .norm 7 (.var 0) (cMF 0) pLow (pAl2 6 7) := by intro v0 v7; kernel_rfl
theorem k7_mf_0_7 : K 7 .norm 7 (.var 0) (cMF 0) pLow (pAl 7) := by intro v0 v7; kernel_rfl
theorem k7_mf_1_0 : K 7 .norm 7 (.var 0) (cMF 1) pLow (pAl 0) := by intro v0 v7; kernel_rfl
theorem k7_mf_1_1 : K 7 .norm 7 (.var 0) (cMF 1) pLow (pAl 1) := by intro v0 v7; kernel_rfl
theorem k7_mf_1_2 : K 7 .norm 7 (.var 0) (cMF 1) pLow (pAl 2) := by intro v0 v7; kernel_rfl
theorem k7_mf_1_3 : K 7 .norm 7 (.var 0) (cMF 1) pLow (pAl 3) := by intro v0 v7; kernel_rfl
theorem k7_mf_1_4 : K 7 .norm 7 (.var 0) (cMF 1) pLow (pAl 4) := by intro v0 v7; kernel_rfl
theorem k7_mf_1_5 : K 7 .norm 7 (.var 0) (cMF 1) pLow (pAl 5) := by intro v0 v7; kernel_rfl
theorem k7_mf_1_6_0 : K 7 .norm 7 (.var 0) (cMF 1) pLow (pAl2 6 0) := by intro v0 v7; kernel_rfl
theorem k7_mf_1_6_1 : K 7 .norm 7 (.var 0) (cMF 1) pLow (pAl2 6 1) := by intro v0 v7; kernel_rfl
theorem k7_mf_1_6_2 : K 7 .norm 7 (.var 0) (cMF 1) pLow (pAl2 6 2) := by intro v0 v7; kernel_rfl
theorem k7_mf_1_6_3 : K 7 .norm 7 (.var 0) (cMF 1) pLow (pAl2 6 3) := by intro v0 v7; kernel_rfl
theorem k7_mf_1_6_4 : K 7 .norm 7 (.var 0) (cMF 1) pLow (pAl2 6 4) := by intro v0 v7; kernel_rfl
theorem k7_mf_1_6_5 : K 7 .norm 7 (.var 0) (cMF 1) pLow (pAl2 6 5) := by intro v0 v7; kernel_rfl
theorem k7_mf_1_6_6 : K 7 .norm 7 (.var 0) (cMF 1) pLow (pAl2 6 6) := by intro v0 v7; kernel_rfl
theorem k7_mf_1_6_7 : K 7 .norm 7 (.var 0) (cMF 1) pLow (pAl2 6 7) := by intro v0 v7; kernel_rfl
theorem k7_mf_1_7 : K 7 .norm 7 (.var 0) (cMF 1) pLow (pAl 7) := by intro v0 v7; kernel_rfl
theorem k7_mf_2_0 : K 7 .norm 7 (.var 0) (cMF 2) pLow (pAl 0) := by intro v0 v7; kernel_rfl
theorem k7_mf_2_1 : K 7 .norm 7 (.var 0) (cMF 2) pLow (pAl 1) := by intro v0 v7; kernel_rfl
theorem k7_mf_2_2 : K 7 .norm 7 (.var 0) (cMF 2) pLow (pAl 2) := by intro v0 v7; kernel_rfl
theorem k7_mf_2_3 : K 7 .norm 7 (.var 0) (cMF 2) pLow (pAl 3) := by intro v0 v7; kernel_rfl
theorem k7_mf_2_4 : K 7 .norm 7 (.var 0) (cMF 2) pLow (pAl 4) := by intro v0 v7; kernel_rfl
theorem k7_mf_2_5 : K 7 .norm 7 (.var 0) (cMF 2) pLow (pAl 5) := by intro v0 v7; kernel_rfl
theorem k7_mf_2_6_0 : K 7 .norm 7 (.var 0) (cMF 2) pLow (pAl2 6 0) := by intro v0 v7; kernel_rfl
theorem k7_mf_2_6_1 : K 7 .norm 7 (.var 0) (cMF 2) pLow (pAl2 6 1) := by intro v0 v7; kernel_rfl
theorem k7_mf_2_6_2 : K 7 .norm 7 (.var 0) (cMF 2) pLow (pAl2 6 2) := by intro v0 v7; kernel_rfl
theorem k7_mf_2_6_3 : K 7 .norm 7 (.var 0) (cMF 2) pLow (pAl2 6 3) := by intro v0 v7; kernel_rfl
theorem k7_mf_2_6_4 : K 7 .norm 7 (.var 0) (cMF 2) pLow (pAl2 6 4) := by intro v0 v7; kernel_rfl
theorem k7_mf_2_6_5 : K 7 .norm 7 (.var 0) (cMF 2) pLow (pAl2 6 5) := by intro v0 v7; kernel_rfl
theorem k7_mf_2_6_6 : K 7 .norm 7 (.var 0) (cMF 2) pLow (pAl2 6 6) := by intro v0 v7; kernel_rfl
theorem k7_mf_2_6_7 : K 7 .norm 7 (.var 0) (cMF 2) pLow (pAl2 6 7) := by intro v0 v7; kernel_rfl
theorem k7_mf_2_7 : K 7 .norm 7 (.var 0) (cMF 2) pLow (pAl 7) := by intro v0 v7; kernel_rfl
theorem k7_uf : K 7 .norm 7 (.var 0) (cMine 3 11) [] [] := by intro v0 v7; kernel_rfl
theorem k7_fNeg : K 7 .norm 7 (.var 0) cF tCneg [] := by intro v0 v7; kernel_rfl
theorem k7_fOut : K 7 .norm 7 (.var 0) cF tCout [] := by intro v0 v7; kernel_rfl
theorem k7_f0Neg : K 7 .norm 7 (.var 0) (cFc 0) tNneg [] := by intro v0 v7; kernel_rfl
theorem k7_f0Out : K 7 .norm 7 (.var 0) (cFc 0) tNout [] := by intro v0 v7; kernel_rfl
theorem k7_f1Neg : K 7 .norm 7 (.var 0) (cFc 1) tNneg [] := by intro v0 v7; kernel_rfl
theorem k7_f1Out : K 7 .norm 7 (.var 0) (cFc 1) tNout [] := by intro v0 v7; kernel_rfl
theorem k7_f1 : K 7 .norm 7 (.var 0) (cFc 1) (pgC (.var 2)) [] := by intro v0 v7; kernel_rfl
theorem k7_f0_0 : K 7 .norm 7 (.var 0) (cFc 0) (pgC (.var 2)) (pgN (.var 2) 0) := by intro v0 v7; kernel_rfl
theorem k7_f0_1 : K 7 .norm 7 (.var 0) (cFc 0) (pgC (.var 2)) (pgN (.var 2) 1) := by intro v0 v7; kernel_rfl
theorem k7_f0_2 : K 7 .norm 7 (.var 0) (cFc 0) (pgC (.var 2)) (pgN (.var 2) 2) := by intro v0 v7; kernel_rfl
theorem k7_f0_3 : K 7 .norm 7 (.var 0) (cFc 0) (pgC (.var 2)) (pgN (.var 2) 3) := by intro v0 v7; kernel_rfl
theorem k7_f0_4 : K 7 .norm 7 (.var 0) (cFc 0) (pgC (.var 2)) (pgN (.var 2) 4) := by intro v0 v7; kernel_rfl
theorem k7_f0_5 : K 7 .norm 7 (.var 0) (cFc 0) (pgC (.var 2)) (pgN (.var 2) 5) := by intro v0 v7; kernel_rfl
theorem k7_f0_6_0 : K 7 .norm 7 (.var 0) (cFc 0) (pgC (.var 2)) (fN2 6 0) := by intro v0 v7; kernel_rfl
theorem k7_f0_6_1 : K 7 .norm 7 (.var 0) (cFc 0) (pgC (.var 2)) (fN2 6 1) := by intro v0 v7; kernel_rfl
theorem k7_f0_6_2 : K 7 .norm 7 (.var 0) (cFc 0) (pgC (.var 2)) (fN2 6 2) := by intro v0 v7; kernel_rfl
theorem k7_f0_6_3 : K 7 .norm 7 (.var 0) (cFc 0) (pgC (.var 2)) (fN2 6 3) := by intro v0 v7; kernel_rfl
theorem k7_f0_6_4 : K 7 .norm 7 (.var 0) (cFc 0) (pgC (.var 2)) (fN2 6 4) := by intro v0 v7; kernel_rfl
theorem k7_f0_6_5 : K 7 .norm 7 (.var 0) (cFc 0) (pgC (.var 2)) (fN2 6 5) := by intro v0 v7; kernel_rfl
theorem k7_f0_6_6 : K 7 .norm 7 (.var 0) (cFc 0) (pgC (.var 2)) (fN2 6 6) := by intro v0 v7; kernel_rfl
theorem k7_f0_6_7 : K 7 .norm 7 (.var 0) (cFc 0) (pgC (.var 2)) (fN2 6 7) := by intro v0 v7; kernel_rfl
theorem k7_f0_7 : K 7 .norm 7 (.var 0) (cFc 0) (pgC (.var 2)) (pgN (.var 2) 7) := by intro v0 v7; kernel_rfl
theorem k7_mf0 : ∀ d e : Nat, d < 8 → e < 8 → (d + 1 ≠ 7 → K 7 .norm 7 (.var 0) (cMF 0) pLow (pAl d)) ∧ (d + 1 = 7 → K 7 .norm 7 (.var 0) (cMF 0) pLow (pAl2 d e))
  | 0, _, _, _ => ⟨fun _ => k7_mf_0_0, fun h => absurd h (by decide)⟩
  | 1, _, _, _ => ⟨fun _ => k7_mf_0_1, fun h => absurd h (by decide)⟩
  | 2, _, _, _ => ⟨fun _ => k7_mf_0_2, fun h => absurd h (by decide)⟩
  | 3, _, _, _ => ⟨fun _ => k7_mf_0_3, fun h => absurd h (by decide)⟩
  | 4, _, _, _ => ⟨fun _ => k7_mf_0_4, fun h => absurd h (by decide)⟩
  | 5, _, _, _ => ⟨fun _ => k7_mf_0_5, fun h => absurd h (by decide)⟩
  | 6, 0, _, _ => ⟨fun h => absurd rfl h, fun _ => k7_mf_0_6_0⟩
  | 6, 1, _, _ => ⟨fun h => absurd rfl h, fun _ => k7_mf_0_6_1⟩
  | 6, 2, _, _ => ⟨fun h => absurd rfl h, fun _ => k7_mf_0_6_2⟩
  | 6, 3, _, _ => ⟨fun h => absurd rfl h, fun _ => k7_mf_0_6_3⟩
  | 6, 4, _, _ => ⟨fun h => absurd rfl h, fun _ => k7_mf_0_6_4⟩
  | 6, 5, _, _ => ⟨fun h => absurd rfl h, fun _ => k7_mf_0_6_5⟩
  | 6, 6, _, _ => ⟨fun h => absurd rfl h, fun _ => k7_mf_0_6_6⟩
  | 6, 7, _, _ => ⟨fun h => absurd rfl h, fun _ => k7_mf_0_6_7⟩
  | 6, e + 8, _, h => absurd h (by omega)
  | 7, _, _, _ => ⟨fun _ => k7_mf_0_7, fun h => absurd h (by decide)⟩
  | d + 8, _, h, _ => absurd h (by omega)
theorem k7_mf1 : ∀ d e : Nat, d < 8 → e < 8 → (d + 1 ≠ 7 → K 7 .norm 7 (.var 0) (cMF 1) pLow (pAl d)) ∧ (d + 1 = 7 → K 7 .norm 7 (.var 0) (cMF 1) pLow (pAl2 d e))
  | 0, _, _, _ => ⟨fun _ => k7_mf_1_0, fun h => absurd h (by decide)⟩
  | 1, _, _, _ => ⟨fun _ => k7_mf_1_1, fun h => absurd h (by decide)⟩
  | 2, _, _, _ => ⟨fun _ => k7_mf_1_2, fun h => absurd h (by decide)⟩
  | 3, _, _, _ => ⟨fun _ => k7_mf_1_3, fun h => absurd h (by decide)⟩
  | 4, _, _, _ => ⟨fun _ => k7_mf_1_4, fun h => absurd h (by decide)⟩
  | 5, _, _, _ => ⟨fun _ => k7_mf_1_5, fun h => absurd h (by decide)⟩
  | 6, 0, _, _ => ⟨fun h => absurd rfl h, fun _ => k7_mf_1_6_0⟩
  | 6, 1, _, _ => ⟨fun h => absurd rfl h, fun _ => k7_mf_1_6_1⟩
  | 6, 2, _, _ => ⟨fun h => absurd rfl h, fun _ => k7_mf_1_6_2⟩
  | 6, 3, _, _ => ⟨fun h => absurd rfl h, fun _ => k7_mf_1_6_3⟩
  | 6, 4, _, _ => ⟨fun h => absurd rfl h, fun _ => k7_mf_1_6_4⟩
  | 6, 5, _, _ => ⟨fun h => absurd rfl h, fun _ => k7_mf_1_6_5⟩
  | 6, 6, _, _ => ⟨fun h => absurd rfl h, fun _ => k7_mf_1_6_6⟩
  | 6, 7, _, _ => ⟨fun h => absurd rfl h, fun _ => k7_mf_1_6_7⟩
  | 6, e + 8, _, h => absurd h (by omega)
  | 7, _, _, _ => ⟨fun _ => k7_mf_1_7, fun h => absurd h (by decide)⟩
  | d + 8, _, h, _ => absurd h (by omega)
theorem k7_mf2 : ∀ d e : Nat, d < 8 → e < 8 → (d + 1 ≠ 7 → K 7 .norm 7 (.var 0) (cMF 2) pLow (pAl d)) ∧ (d + 1 = 7 → K 7 .norm 7 (.var 0) (cMF 2) pLow (pAl2 d e))
  | 0, _, _, _ => ⟨fun _ => k7_mf_2_0, fun h => absurd h (by decide)⟩
  | 1, _, _, _ => ⟨fun _ => k7_mf_2_1, fun h => absurd h (by decide)⟩
  | 2, _, _, _ => ⟨fun _ => k7_mf_2_2, fun h => absurd h (by decide)⟩
  | 3, _, _, _ => ⟨fun _ => k7_mf_2_3, fun h => absurd h (by decide)⟩
  | 4, _, _, _ => ⟨fun _ => k7_mf_2_4, fun h => absurd h (by decide)⟩
  | 5, _, _, _ => ⟨fun _ => k7_mf_2_5, fun h => absurd h (by decide)⟩
  | 6, 0, _, _ => ⟨fun h => absurd rfl h, fun _ => k7_mf_2_6_0⟩
  | 6, 1, _, _ => ⟨fun h => absurd rfl h, fun _ => k7_mf_2_6_1⟩
  | 6, 2, _, _ => ⟨fun h => absurd rfl h, fun _ => k7_mf_2_6_2⟩
  | 6, 3, _, _ => ⟨fun h => absurd rfl h, fun _ => k7_mf_2_6_3⟩
  | 6, 4, _, _ => ⟨fun h => absurd rfl h, fun _ => k7_mf_2_6_4⟩
  | 6, 5, _, _ => ⟨fun h => absurd rfl h, fun _ => k7_mf_2_6_5⟩
  | 6, 6, _, _ => ⟨fun h => absurd rfl h, fun _ => k7_mf_2_6_6⟩
  | 6, 7, _, _ => ⟨fun h => absurd rfl h, fun _ => k7_mf_2_6_7⟩
  | 6, e + 8, _, h => absurd h (by omega)
  | 7, _, _, _ => ⟨fun _ => k7_mf_2_7, fun h => absurd h (by decide)⟩
  | d + 8, _, h, _ => absurd h (by omega)
theorem k7_f0 : ∀ d e : Nat, d < 8 → e < 8 → (d + 1 ≠ 7 → K 7 .norm 7 (.var 0) (cFc 0) (pgC (.var 2)) (pgN (.var 2) d)) ∧ (d + 1 = 7 → K 7 .norm 7 (.var 0) (cFc 0) (pgC (.var 2)) (fN2 d e))
  | 0, _, _, _ => ⟨fun _ => k7_f0_0, fun h => absurd h (by decide)⟩
  | 1, _, _, _ => ⟨fun _ => k7_f0_1, fun h => absurd h (by decide)⟩
  | 2, _, _, _ => ⟨fun _ => k7_f0_2, fun h => absurd h (by decide)⟩
  | 3, _, _, _ => ⟨fun _ => k7_f0_3, fun h => absurd h (by decide)⟩
  | 4, _, _, _ => ⟨fun _ => k7_f0_4, fun h => absurd h (by decide)⟩
  | 5, _, _, _ => ⟨fun _ => k7_f0_5, fun h => absurd h (by decide)⟩
  | 6, 0, _, _ => ⟨fun h => absurd rfl h, fun _ => k7_f0_6_0⟩
  | 6, 1, _, _ => ⟨fun h => absurd rfl h, fun _ => k7_f0_6_1⟩
  | 6, 2, _, _ => ⟨fun h => absurd rfl h, fun _ => k7_f0_6_2⟩
  | 6, 3, _, _ => ⟨fun h => absurd rfl h, fun _ => k7_f0_6_3⟩
  | 6, 4, _, _ => ⟨fun h => absurd rfl h, fun _ => k7_f0_6_4⟩
  | 6, 5, _, _ => ⟨fun h => absurd rfl h, fun _ => k7_f0_6_5⟩
  | 6, 6, _, _ => ⟨fun h => absurd rfl h, fun _ => k7_f0_6_6⟩
  | 6, 7, _, _ => ⟨fun h => absurd rfl h, fun _ => k7_f0_6_7⟩
  | 6, e + 8, _, h => absurd h (by omega)
  | 7, _, _, _ => ⟨fun _ => k7_f0_7, fun h => absurd h (by decide)⟩
  | d + 8, _, h, _ => absurd h (by omega)
end VO
