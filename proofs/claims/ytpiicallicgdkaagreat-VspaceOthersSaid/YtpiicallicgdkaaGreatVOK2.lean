/- VspaceOthers: the evaluations of its loop's body, place 2. No conditions beside those in its theorems. -/
import Derived.Test.YtpiicallicgdkaaGreatVOF
set_option linter.unusedVariables false
open Go Eng Go.Proofs Go.RowKit
namespace VO
open Base
theorem k2_other : K 2 (.exit 1) 2 (.var 0) cOther tOther [] := by intro v0 v7; kernel_rfl
theorem k2_a0t : K 2 (.exit 1) 2 (.var 0) (cA 0) (tA 8 true) [] := by intro v0 v7; kernel_rfl
theorem k2_a0f : K 2 (.exit 1) 2 (.var 0) (cA 0) (tA 8 false) [] := by intro v0 v7; kernel_rfl
theorem k2_b0 : K 2 (.exit 1) 2 (.var 0) (cB 0) (tB 8) [] := by intro v0 v7; kernel_rfl
theorem k2_a1t : K 2 (.exit 1) 2 (.var 0) (cA 1) (tA 8 true) [] := by intro v0 v7; kernel_rfl
theorem k2_a1f : K 2 (.exit 1) 2 (.var 0) (cA 1) (tA 8 false) [] := by intro v0 v7; kernel_rfl
theorem k2_b1 : K 2 (.exit 1) 2 (.var 0) (cB 1) (tB 8) [] := by intro v0 v7; kernel_rfl
theorem k2_a2t : K 2 (.exit 1) 2 (.var 0) (cA 2) (tA 11 true) [] := by intro v0 v7; kernel_rfl
theorem k2_a2f : K 2 (.exit 1) 2 (.var 0) (cA 2) (tA 11 false) [] := by intro v0 v7; kernel_rfl
theorem k2_b2 : K 2 (.exit 1) 2 (.var 0) (cB 2) (tB 11) [] := by intro v0 v7; kernel_rfl
theorem k2_a3t : K 2 (.exit 1) 2 (.var 0) (cA 3) (tA 11 true) [] := by intro v0 v7; kernel_rfl
theorem k2_a3f : K 2 (.exit 1) 2 (.var 0) (cA 3) (tA 11 false) [] := by intro v0 v7; kernel_rfl
theorem k2_b3 : K 2 (.exit 1) 2 (.var 0) (cB 3) (tB 11) [] := by intro v0 v7; kernel_rfl
theorem k2_mtHigh : K 2 .norm 2 (.var 0) (cMine 0 8) tHigh [] := by intro v0 v7; kernel_rfl
theorem k2_mtLow : K 2 .norm 2 (.var 0) (cMine 0 8) tLow [] := by intro v0 v7; kernel_rfl
theorem k2_ut : K 2 .norm 0 (.var 0) (cMine 1 8) [] [] := by intro v0 v7; kernel_rfl
theorem k2_mfHigh : K 2 .norm 2 (.var 0) (cMine 2 11) tHigh [] := by intro v0 v7; kernel_rfl
theorem k2_mfUnal : K 2 .norm 2 (.var 0) (cMine 2 11) tUnal [] := by intro v0 v7; kernel_rfl
theorem k2_mfSmall : K 2 .norm 2 (.var 0) (cMine 2 11) tSmall nAl := by intro v0 v7; kernel_rfl
theorem k2_mfGreat : K 2 .norm 2 (.var 0) (cMine 2 11) tGreat nAl := by intro v0 v7; kernel_rfl
theorem k2_mf_0_0 : K 2 .norm 2 (.var 0) (cMF 0) pLow (pAl 0) := by intro v0 v7; kernel_rfl
theorem k2_mf_0_1_0 : K 2 .norm 2 (.var 0) (cMF 0) pLow (pAl2 1 0) := by intro v0 v7; kernel_rfl
theorem k2_mf_0_1_1 : K 2 .norm 2 (.var 0) (cMF 0) pLow (pAl2 1 1) := by intro v0 v7; kernel_rfl
theorem k2_mf_0_1_2 : K 2 .norm 2 (.var 0) (cMF 0) pLow (pAl2 1 2) := by intro v0 v7; kernel_rfl
theorem k2_mf_0_1_3 : K 2 .norm 2 (.var 0) (cMF 0) pLow (pAl2 1 3) := by intro v0 v7; kernel_rfl
theorem k2_mf_0_1_4 : K 2 .norm 2 (.var 0) (cMF 0) pLow (pAl2 1 4) := by intro v0 v7; kernel_rfl
theorem k2_mf_0_1_5 : K 2 .norm 2 (.var 0) (cMF 0) pLow (pAl2 1 5) := by intro v0 v7; kernel_rfl
theorem k2_mf_0_1_6 : K 2 .norm 2 (.var 0) (cMF 0) pLow (pAl2 1 6) := by intro v0 v7; kernel_rfl
theorem k2_mf_0_1_7 : K 2 .norm 2 (.var 0) (cMF 0) pLow (pAl2 1 7) := by intro v0 v7; kernel_rfl
theorem k2_mf_0_2 : K 2 .norm 2 (.var 0) (cMF 0) pLow (pAl 2) := by intro v0 v7; kernel_rfl
theorem k2_mf_0_3 : K 2 .norm 2 (.var 0) (cMF 0) pLow (pAl 3) := by intro v0 v7; kernel_rfl
theorem k2_mf_0_4 : K 2 .norm 2 (.var 0) (cMF 0) pLow (pAl 4) := by intro v0 v7; kernel_rfl
theorem k2_mf_0_5 : K 2 .norm 2 (.var 0) (cMF 0) pLow (pAl 5) := by intro v0 v7; kernel_rfl
theorem k2_mf_0_6 : K 2 .norm 2 (.var 0) (cMF 0) pLow (pAl 6) := by intro v0 v7; kernel_rfl
theorem k2_mf_0_7 : K 2 .norm 2 (.var 0) (cMF 0) pLow (pAl 7) := by intro v0 v7; kernel_rfl
theorem k2_mf_1_0 : K 2 .norm 2 (.var 0) (cMF 1) pLow (pAl 0) := by intro v0 v7; kernel_rfl
theorem k2_mf_1_1_0 : K 2 .norm 2 (.var 0) (cMF 1) pLow (pAl2 1 0) := by intro v0 v7; kernel_rfl
theorem k2_mf_1_1_1 : K 2 .norm 2 (.var 0) (cMF 1) pLow (pAl2 1 1) := by intro v0 v7; kernel_rfl
theorem k2_mf_1_1_2 : K 2 .norm 2 (.var 0) (cMF 1) pLow (pAl2 1 2) := by intro v0 v7; kernel_rfl
theorem k2_mf_1_1_3 : K 2 .norm 2 (.var 0) (cMF 1) pLow (pAl2 1 3) := by intro v0 v7; kernel_rfl
theorem k2_mf_1_1_4 : K 2 .norm 2 (.var 0) (cMF 1) pLow (pAl2 1 4) := by intro v0 v7; kernel_rfl
theorem k2_mf_1_1_5 : K 2 .norm 2 (.var 0) (cMF 1) pLow (pAl2 1 5) := by intro v0 v7; kernel_rfl
theorem k2_mf_1_1_6 : K 2 .norm 2 (.var 0) (cMF 1) pLow (pAl2 1 6) := by intro v0 v7; kernel_rfl
theorem k2_mf_1_1_7 : K 2 .norm 2 (.var 0) (cMF 1) pLow (pAl2 1 7) := by intro v0 v7; kernel_rfl
theorem k2_mf_1_2 : K 2 .norm 2 (.var 0) (cMF 1) pLow (pAl 2) := by intro v0 v7; kernel_rfl
theorem k2_mf_1_3 : K 2 .norm 2 (.var 0) (cMF 1) pLow (pAl 3) := by intro v0 v7; kernel_rfl
theorem k2_mf_1_4 : K 2 .norm 2 (.var 0) (cMF 1) pLow (pAl 4) := by intro v0 v7; kernel_rfl
theorem k2_mf_1_5 : K 2 .norm 2 (.var 0) (cMF 1) pLow (pAl 5) := by intro v0 v7; kernel_rfl
theorem k2_mf_1_6 : K 2 .norm 2 (.var 0) (cMF 1) pLow (pAl 6) := by intro v0 v7; kernel_rfl
theorem k2_mf_1_7 : K 2 .norm 2 (.var 0) (cMF 1) pLow (pAl 7) := by intro v0 v7; kernel_rfl
theorem k2_mf_2_0 : K 2 .norm 2 (.var 0) (cMF 2) pLow (pAl 0) := by intro v0 v7; kernel_rfl
theorem k2_mf_2_1_0 : K 2 .norm 2 (.var 0) (cMF 2) pLow (pAl2 1 0) := by intro v0 v7; kernel_rfl
theorem k2_mf_2_1_1 : K 2 .norm 2 (.var 0) (cMF 2) pLow (pAl2 1 1) := by intro v0 v7; kernel_rfl
theorem k2_mf_2_1_2 : K 2 .norm 2 (.var 0) (cMF 2) pLow (pAl2 1 2) := by intro v0 v7; kernel_rfl
theorem k2_mf_2_1_3 : K 2 .norm 2 (.var 0) (cMF 2) pLow (pAl2 1 3) := by intro v0 v7; kernel_rfl
theorem k2_mf_2_1_4 : K 2 .norm 2 (.var 0) (cMF 2) pLow (pAl2 1 4) := by intro v0 v7; kernel_rfl
theorem k2_mf_2_1_5 : K 2 .norm 2 (.var 0) (cMF 2) pLow (pAl2 1 5) := by intro v0 v7; kernel_rfl
theorem k2_mf_2_1_6 : K 2 .norm 2 (.var 0) (cMF 2) pLow (pAl2 1 6) := by intro v0 v7; kernel_rfl
theorem k2_mf_2_1_7 : K 2 .norm 2 (.var 0) (cMF 2) pLow (pAl2 1 7) := by intro v0 v7; kernel_rfl
theorem k2_mf_2_2 : K 2 .norm 2 (.var 0) (cMF 2) pLow (pAl 2) := by intro v0 v7; kernel_rfl
theorem k2_mf_2_3 : K 2 .norm 2 (.var 0) (cMF 2) pLow (pAl 3) := by intro v0 v7; kernel_rfl
theorem k2_mf_2_4 : K 2 .norm 2 (.var 0) (cMF 2) pLow (pAl 4) := by intro v0 v7; kernel_rfl
theorem k2_mf_2_5 : K 2 .norm 2 (.var 0) (cMF 2) pLow (pAl 5) := by intro v0 v7; kernel_rfl
theorem k2_mf_2_6 : K 2 .norm 2 (.var 0) (cMF 2) pLow (pAl 6) := by intro v0 v7; kernel_rfl
theorem k2_mf_2_7 : K 2 .norm 2 (.var 0) (cMF 2) pLow (pAl 7) := by intro v0 v7; kernel_rfl
theorem k2_uf : K 2 .norm 2 (.var 0) (cMine 3 11) [] [] := by intro v0 v7; kernel_rfl
theorem k2_fNeg : K 2 .norm 2 (.var 0) cF tCneg [] := by intro v0 v7; kernel_rfl
theorem k2_fOut : K 2 .norm 2 (.var 0) cF tCout [] := by intro v0 v7; kernel_rfl
theorem k2_f0Neg : K 2 .norm 2 (.var 0) (cFc 0) tNneg [] := by intro v0 v7; kernel_rfl
theorem k2_f0Out : K 2 .norm 2 (.var 0) (cFc 0) tNout [] := by intro v0 v7; kernel_rfl
theorem k2_f1Neg : K 2 .norm 2 (.var 0) (cFc 1) tNneg [] := by intro v0 v7; kernel_rfl
theorem k2_f1Out : K 2 .norm 2 (.var 0) (cFc 1) tNout [] := by intro v0 v7; kernel_rfl
theorem k2_f1 : K 2 .norm 2 (.var 0) (cFc 1) (pgC (.var 2)) [] := by intro v0 v7; kernel_rfl
theorem k2_f0_0 : K 2 .norm 2 (.var 0) (cFc 0) (pgC (.var 2)) (pgN (.var 2) 0) := by intro v0 v7; kernel_rfl
theorem k2_f0_1_0 : K 2 .norm 2 (.var 0) (cFc 0) (pgC (.var 2)) (fN2 1 0) := by intro v0 v7; kernel_rfl
theorem k2_f0_1_1 : K 2 .norm 2 (.var 0) (cFc 0) (pgC (.var 2)) (fN2 1 1) := by intro v0 v7; kernel_rfl
theorem k2_f0_1_2 : K 2 .norm 2 (.var 0) (cFc 0) (pgC (.var 2)) (fN2 1 2) := by intro v0 v7; kernel_rfl
theorem k2_f0_1_3 : K 2 .norm 2 (.var 0) (cFc 0) (pgC (.var 2)) (fN2 1 3) := by intro v0 v7; kernel_rfl
theorem k2_f0_1_4 : K 2 .norm 2 (.var 0) (cFc 0) (pgC (.var 2)) (fN2 1 4) := by intro v0 v7; kernel_rfl
theorem k2_f0_1_5 : K 2 .norm 2 (.var 0) (cFc 0) (pgC (.var 2)) (fN2 1 5) := by intro v0 v7; kernel_rfl
theorem k2_f0_1_6 : K 2 .norm 2 (.var 0) (cFc 0) (pgC (.var 2)) (fN2 1 6) := by intro v0 v7; kernel_rfl
theorem k2_f0_1_7 : K 2 .norm 2 (.var 0) (cFc 0) (pgC (.var 2)) (fN2 1 7) := by intro v0 v7; kernel_rfl
theorem k2_f0_2 : K 2 .norm 2 (.var 0) (cFc 0) (pgC (.var 2)) (pgN (.var 2) 2) := by intro v0 v7; kernel_rfl
theorem k2_f0_3 : K 2 .norm 2 (.var 0) (cFc 0) (pgC (.var 2)) (pgN (.var 2) 3) := by intro v0 v7; kernel_rfl
theorem k2_f0_4 : K 2 .norm 2 (.var 0) (cFc 0) (pgC (.var 2)) (pgN (.var 2) 4) := by intro v0 v7; kernel_rfl
theorem k2_f0_5 : K 2 .norm 2 (.var 0) (cFc 0) (pgC (.var 2)) (pgN (.var 2) 5) := by intro v0 v7; kernel_rfl
theorem k2_f0_6 : K 2 .norm 2 (.var 0) (cFc 0) (pgC (.var 2)) (pgN (.var 2) 6) := by intro v0 v7; kernel_rfl
theorem k2_f0_7 : K 2 .norm 2 (.var 0) (cFc 0) (pgC (.var 2)) (pgN (.var 2) 7) := by intro v0 v7; kernel_rfl
theorem k2_mf0 : ∀ d e : Nat, d < 8 → e < 8 → (d + 1 ≠ 2 → K 2 .norm 2 (.var 0) (cMF 0) pLow (pAl d)) ∧ (d + 1 = 2 → K 2 .norm 2 (.var 0) (cMF 0) pLow (pAl2 d e))
  | 0, _, _, _ => ⟨fun _ => k2_mf_0_0, fun h => absurd h (by decide)⟩
  | 1, 0, _, _ => ⟨fun h => absurd rfl h, fun _ => k2_mf_0_1_0⟩
  | 1, 1, _, _ => ⟨fun h => absurd rfl h, fun _ => k2_mf_0_1_1⟩
  | 1, 2, _, _ => ⟨fun h => absurd rfl h, fun _ => k2_mf_0_1_2⟩
  | 1, 3, _, _ => ⟨fun h => absurd rfl h, fun _ => k2_mf_0_1_3⟩
  | 1, 4, _, _ => ⟨fun h => absurd rfl h, fun _ => k2_mf_0_1_4⟩
  | 1, 5, _, _ => ⟨fun h => absurd rfl h, fun _ => k2_mf_0_1_5⟩
  | 1, 6, _, _ => ⟨fun h => absurd rfl h, fun _ => k2_mf_0_1_6⟩
  | 1, 7, _, _ => ⟨fun h => absurd rfl h, fun _ => k2_mf_0_1_7⟩
  | 1, e + 8, _, h => absurd h (by omega)
  | 2, _, _, _ => ⟨fun _ => k2_mf_0_2, fun h => absurd h (by decide)⟩
  | 3, _, _, _ => ⟨fun _ => k2_mf_0_3, fun h => absurd h (by decide)⟩
  | 4, _, _, _ => ⟨fun _ => k2_mf_0_4, fun h => absurd h (by decide)⟩
  | 5, _, _, _ => ⟨fun _ => k2_mf_0_5, fun h => absurd h (by decide)⟩
  | 6, _, _, _ => ⟨fun _ => k2_mf_0_6, fun h => absurd h (by decide)⟩
  | 7, _, _, _ => ⟨fun _ => k2_mf_0_7, fun h => absurd h (by decide)⟩
  | d + 8, _, h, _ => absurd h (by omega)
theorem k2_mf1 : ∀ d e : Nat, d < 8 → e < 8 → (d + 1 ≠ 2 → K 2 .norm 2 (.var 0) (cMF 1) pLow (pAl d)) ∧ (d + 1 = 2 → K 2 .norm 2 (.var 0) (cMF 1) pLow (pAl2 d e))
  | 0, _, _, _ => ⟨fun _ => k2_mf_1_0, fun h => absurd h (by decide)⟩
  | 1, 0, _, _ => ⟨fun h => absurd rfl h, fun _ => k2_mf_1_1_0⟩
  | 1, 1, _, _ => ⟨fun h => absurd rfl h, fun _ => k2_mf_1_1_1⟩
  | 1, 2, _, _ => ⟨fun h => absurd rfl h, fun _ => k2_mf_1_1_2⟩
  | 1, 3, _, _ => ⟨fun h => absurd rfl h, fun _ => k2_mf_1_1_3⟩
  | 1, 4, _, _ => ⟨fun h => absurd rfl h, fun _ => k2_mf_1_1_4⟩
  | 1, 5, _, _ => ⟨fun h => absurd rfl h, fun _ => k2_mf_1_1_5⟩
  | 1, 6, _, _ => ⟨fun h => absurd rfl h, fun _ => k2_mf_1_1_6⟩
  | 1, 7, _, _ => ⟨fun h => absurd rfl h, fun _ => k2_mf_1_1_7⟩
  | 1, e + 8, _, h => absurd h (by omega)
  | 2, _, _, _ => ⟨fun _ => k2_mf_1_2, fun h => absurd h (by decide)⟩
  | 3, _, _, _ => ⟨fun _ => k2_mf_1_3, fun h => absurd h (by decide)⟩
  | 4, _, _, _ => ⟨fun _ => k2_mf_1_4, fun h => absurd h (by decide)⟩
  | 5, _, _, _ => ⟨fun _ => k2_mf_1_5, fun h => absurd h (by decide)⟩
  | 6, _, _, _ => ⟨fun _ => k2_mf_1_6, fun h => absurd h (by decide)⟩
  | 7, _, _, _ => ⟨fun _ => k2_mf_1_7, fun h => absurd h (by decide)⟩
  | d + 8, _, h, _ => absurd h (by omega)
theorem k2_mf2 : ∀ d e : Nat, d < 8 → e < 8 → (d + 1 ≠ 2 → K 2 .norm 2 (.var 0) (cMF 2) pLow (pAl d)) ∧ (d + 1 = 2 → K 2 .norm 2 (.var 0) (cMF 2) pLow (pAl2 d e))
  | 0, _, _, _ => ⟨fun _ => k2_mf_2_0, fun h => absurd h (by decide)⟩
  | 1, 0, _, _ => ⟨fun h => absurd rfl h, fun _ => k2_mf_2_1_0⟩
  | 1, 1, _, _ => ⟨fun h => absurd rfl h, fun _ => k2_mf_2_1_1⟩
  | 1, 2, _, _ => ⟨fun h => absurd rfl h, fun _ => k2_mf_2_1_2⟩
  | 1, 3, _, _ => ⟨fun h => absurd rfl h, fun _ => k2_mf_2_1_3⟩
  | 1, 4, _, _ => ⟨fun h => absurd rfl h, fun _ => k2_mf_2_1_4⟩
  | 1, 5, _, _ => ⟨fun h => absurd rfl h, fun _ => k2_mf_2_1_5⟩
  | 1, 6, _, _ => ⟨fun h => absurd rfl h, fun _ => k2_mf_2_1_6⟩
  | 1, 7, _, _ => ⟨fun h => absurd rfl h, fun _ => k2_mf_2_1_7⟩
  | 1, e + 8, _, h => absurd h (by omega)
  | 2, _, _, _ => ⟨fun _ => k2_mf_2_2, fun h => absurd h (by decide)⟩
  | 3, _, _, _ => ⟨fun _ => k2_mf_2_3, fun h => absurd h (by decide)⟩
  | 4, _, _, _ => ⟨fun _ => k2_mf_2_4, fun h => absurd h (by decide)⟩
  | 5, _, _, _ => ⟨fun _ => k2_mf_2_5, fun h => absurd h (by decide)⟩
  | 6, _, _, _ => ⟨fun _ => k2_mf_2_6, fun h => absurd h (by decide)⟩
  | 7, _, _, _ => ⟨fun _ => k2_mf_2_7, fun h => absurd h (by decide)⟩
  | d + 8, _, h, _ => absurd h (by omega)
theorem k2_f0 : ∀ d e : Nat, d < 8 → e < 8 → (d + 1 ≠ 2 → K 2 .norm 2 (.var 0) (cFc 0) (pgC (.var 2)) (pgN (.var 2) d)) ∧ (d + 1 = 2 → K 2 .norm 2 (.var 0) (cFc 0) (pgC (.var 2)) (fN2 d e))
  | 0, _, _, _ => ⟨fun _ => k2_f0_0, fun h => absurd h (by decide)⟩
  | 1, 0, _, _ => ⟨fun h => absurd rfl h, fun _ => k2_f0_1_0⟩
  | 1, 1, _, _ => ⟨fun h => absurd rfl h, fun _ => k2_f0_1_1⟩
  | 1, 2, _, _ => ⟨fun h => absurd rfl h, fun _ => k2_f0_1_2⟩
  | 1, 3, _, _ => ⟨fun h => absurd rfl h, fun _ => k2_f0_1_3⟩
  | 1, 4, _, _ => ⟨fun h => absurd rfl h, fun _ => k2_f0_1_4⟩
  | 1, 5, _, _ => ⟨fun h => absurd rfl h, fun _ => k2_f0_1_5⟩
  | 1, 6, _, _ => ⟨fun h => absurd rfl h, fun _ => k2_f0_1_6⟩
  | 1, 7, _, _ => ⟨fun h => absurd rfl h, fun _ => k2_f0_1_7⟩
  | 1, e + 8, _, h => absurd h (by omega)
  | 2, _, _, _ => ⟨fun _ => k2_f0_2, fun h => absurd h (by decide)⟩
  | 3, _, _, _ => ⟨fun _ => k2_f0_3, fun h => absurd h (by decide)⟩
  | 4, _, _, _ => ⟨fun _ => k2_f0_4, fun h => absurd h (by decide)⟩
  | 5, _, _, _ => ⟨fun _ => k2_f0_5, fun h => absurd h (by decide)⟩
  | 6, _, _, _ => ⟨fun _ => k2_f0_6, fun h => absurd h (by decide)⟩
  | 7, _, _, _ => ⟨fun _ => k2_f0_7, fun h => absurd h (by decide)⟩
  | d + 8, _, h, _ => absurd h (by omega)
end VO
