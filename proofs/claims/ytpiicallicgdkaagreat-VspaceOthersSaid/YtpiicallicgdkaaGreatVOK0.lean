/- VspaceOthers: the evaluations of its loop's body, place 0. No conditions beside those in its theorems. -/
import Derived.Test.YtpiicallicgdkaaGreatVOF
set_option linter.unusedVariables false
open Go Eng Go.Proofs Go.RowKit
namespace VO
open Base
theorem k0_other : K 0 (.exit 1) 0 (.var 0) cOther tOther [] := by intro v0 v7; kernel_rfl
theorem k0_a0t : K 0 (.exit 1) 0 (.var 0) (cA 0) (tA 8 true) [] := by intro v0 v7; kernel_rfl
theorem k0_a0f : K 0 (.exit 1) 0 (.var 0) (cA 0) (tA 8 false) [] := by intro v0 v7; kernel_rfl
theorem k0_b0 : K 0 (.exit 1) 0 (.var 0) (cB 0) (tB 8) [] := by intro v0 v7; kernel_rfl
theorem k0_a1t : K 0 (.exit 1) 0 (.var 0) (cA 1) (tA 8 true) [] := by intro v0 v7; kernel_rfl
theorem k0_a1f : K 0 (.exit 1) 0 (.var 0) (cA 1) (tA 8 false) [] := by intro v0 v7; kernel_rfl
theorem k0_b1 : K 0 (.exit 1) 0 (.var 0) (cB 1) (tB 8) [] := by intro v0 v7; kernel_rfl
theorem k0_a2t : K 0 (.exit 1) 0 (.var 0) (cA 2) (tA 11 true) [] := by intro v0 v7; kernel_rfl
theorem k0_a2f : K 0 (.exit 1) 0 (.var 0) (cA 2) (tA 11 false) [] := by intro v0 v7; kernel_rfl
theorem k0_b2 : K 0 (.exit 1) 0 (.var 0) (cB 2) (tB 11) [] := by intro v0 v7; kernel_rfl
theorem k0_a3t : K 0 (.exit 1) 0 (.var 0) (cA 3) (tA 11 true) [] := by intro v0 v7; kernel_rfl
theorem k0_a3f : K 0 (.exit 1) 0 (.var 0) (cA 3) (tA 11 false) [] := by intro v0 v7; kernel_rfl
theorem k0_b3 : K 0 (.exit 1) 0 (.var 0) (cB 3) (tB 11) [] := by intro v0 v7; kernel_rfl
theorem k0_mtHigh : K 0 .norm 0 (.var 0) (cMine 0 8) tHigh [] := by intro v0 v7; kernel_rfl
theorem k0_mt_0 : K 0 .norm 1 pv (cMine 0 8) pLow (pgN pv 0) := by intro v0 v7; kernel_rfl
theorem k0_mt_1 : K 0 .norm 2 pv (cMine 0 8) pLow (pgN pv 1) := by intro v0 v7; kernel_rfl
theorem k0_mt_2 : K 0 .norm 3 pv (cMine 0 8) pLow (pgN pv 2) := by intro v0 v7; kernel_rfl
theorem k0_mt_3 : K 0 .norm 4 pv (cMine 0 8) pLow (pgN pv 3) := by intro v0 v7; kernel_rfl
theorem k0_mt_4 : K 0 .norm 5 pv (cMine 0 8) pLow (pgN pv 4) := by intro v0 v7; kernel_rfl
theorem k0_mt_5 : K 0 .norm 6 pv (cMine 0 8) pLow (pgN pv 5) := by intro v0 v7; kernel_rfl
theorem k0_mt_6 : K 0 .norm 7 pv (cMine 0 8) pLow (pgN pv 6) := by intro v0 v7; kernel_rfl
theorem k0_mt_7 : K 0 .norm 8 pv (cMine 0 8) pLow (pgN pv 7) := by intro v0 v7; kernel_rfl
theorem k0_ut : K 0 .norm 0 (.var 0) (cMine 1 8) [] [] := by intro v0 v7; kernel_rfl
theorem k0_mfHigh : K 0 .norm 0 (.var 0) (cMine 2 11) tHigh [] := by intro v0 v7; kernel_rfl
theorem k0_mfUnal : K 0 .norm 0 (.var 0) (cMine 2 11) tUnal [] := by intro v0 v7; kernel_rfl
theorem k0_mfSmall : K 0 .norm 0 (.var 0) (cMine 2 11) tSmall nAl := by intro v0 v7; kernel_rfl
theorem k0_mfGreat : K 0 .norm 0 (.var 0) (cMine 2 11) tGreat nAl := by intro v0 v7; kernel_rfl
theorem k0_mf_0_0 : K 0 .norm 0 (.var 0) (cMF 0) pLow (pAl 0) := by intro v0 v7; kernel_rfl
theorem k0_mf_0_1 : K 0 .norm 0 (.var 0) (cMF 0) pLow (pAl 1) := by intro v0 v7; kernel_rfl
theorem k0_mf_0_2 : K 0 .norm 0 (.var 0) (cMF 0) pLow (pAl 2) := by intro v0 v7; kernel_rfl
theorem k0_mf_0_3 : K 0 .norm 0 (.var 0) (cMF 0) pLow (pAl 3) := by intro v0 v7; kernel_rfl
theorem k0_mf_0_4 : K 0 .norm 0 (.var 0) (cMF 0) pLow (pAl 4) := by intro v0 v7; kernel_rfl
theorem k0_mf_0_5 : K 0 .norm 0 (.var 0) (cMF 0) pLow (pAl 5) := by intro v0 v7; kernel_rfl
theorem k0_mf_0_6 : K 0 .norm 0 (.var 0) (cMF 0) pLow (pAl 6) := by intro v0 v7; kernel_rfl
theorem k0_mf_0_7 : K 0 .norm 0 (.var 0) (cMF 0) pLow (pAl 7) := by intro v0 v7; kernel_rfl
theorem k0_mf_1_0 : K 0 .norm 0 (.var 0) (cMF 1) pLow (pAl 0) := by intro v0 v7; kernel_rfl
theorem k0_mf_1_1 : K 0 .norm 0 (.var 0) (cMF 1) pLow (pAl 1) := by intro v0 v7; kernel_rfl
theorem k0_mf_1_2 : K 0 .norm 0 (.var 0) (cMF 1) pLow (pAl 2) := by intro v0 v7; kernel_rfl
theorem k0_mf_1_3 : K 0 .norm 0 (.var 0) (cMF 1) pLow (pAl 3) := by intro v0 v7; kernel_rfl
theorem k0_mf_1_4 : K 0 .norm 0 (.var 0) (cMF 1) pLow (pAl 4) := by intro v0 v7; kernel_rfl
theorem k0_mf_1_5 : K 0 .norm 0 (.var 0) (cMF 1) pLow (pAl 5) := by intro v0 v7; kernel_rfl
theorem k0_mf_1_6 : K 0 .norm 0 (.var 0) (cMF 1) pLow (pAl 6) := by intro v0 v7; kernel_rfl
theorem k0_mf_1_7 : K 0 .norm 0 (.var 0) (cMF 1) pLow (pAl 7) := by intro v0 v7; kernel_rfl
theorem k0_mf_2_0 : K 0 .norm 0 (.var 0) (cMF 2) pLow (pAl 0) := by intro v0 v7; kernel_rfl
theorem k0_mf_2_1 : K 0 .norm 0 (.var 0) (cMF 2) pLow (pAl 1) := by intro v0 v7; kernel_rfl
theorem k0_mf_2_2 : K 0 .norm 0 (.var 0) (cMF 2) pLow (pAl 2) := by intro v0 v7; kernel_rfl
theorem k0_mf_2_3 : K 0 .norm 0 (.var 0) (cMF 2) pLow (pAl 3) := by intro v0 v7; kernel_rfl
theorem k0_mf_2_4 : K 0 .norm 0 (.var 0) (cMF 2) pLow (pAl 4) := by intro v0 v7; kernel_rfl
theorem k0_mf_2_5 : K 0 .norm 0 (.var 0) (cMF 2) pLow (pAl 5) := by intro v0 v7; kernel_rfl
theorem k0_mf_2_6 : K 0 .norm 0 (.var 0) (cMF 2) pLow (pAl 6) := by intro v0 v7; kernel_rfl
theorem k0_mf_2_7 : K 0 .norm 0 (.var 0) (cMF 2) pLow (pAl 7) := by intro v0 v7; kernel_rfl
theorem k0_uf : K 0 .norm 0 (.var 0) (cMine 3 11) [] [] := by intro v0 v7; kernel_rfl
theorem k0_fNeg : K 0 .norm 0 (.var 0) cF tCneg [] := by intro v0 v7; kernel_rfl
theorem k0_fOut : K 0 .norm 0 (.var 0) cF tCout [] := by intro v0 v7; kernel_rfl
theorem k0_f0Neg : K 0 .norm 0 (.var 0) (cFc 0) tNneg [] := by intro v0 v7; kernel_rfl
theorem k0_f0Out : K 0 .norm 0 (.var 0) (cFc 0) tNout [] := by intro v0 v7; kernel_rfl
theorem k0_f1Neg : K 0 .norm 0 (.var 0) (cFc 1) tNneg [] := by intro v0 v7; kernel_rfl
theorem k0_f1Out : K 0 .norm 0 (.var 0) (cFc 1) tNout [] := by intro v0 v7; kernel_rfl
theorem k0_f1 : K 0 .norm 0 (.var 0) (cFc 1) (pgC (.var 2)) [] := by intro v0 v7; kernel_rfl
theorem k0_f0_0 : K 0 .norm 0 (.var 0) (cFc 0) (pgC (.var 2)) (pgN (.var 2) 0) := by intro v0 v7; kernel_rfl
theorem k0_f0_1 : K 0 .norm 0 (.var 0) (cFc 0) (pgC (.var 2)) (pgN (.var 2) 1) := by intro v0 v7; kernel_rfl
theorem k0_f0_2 : K 0 .norm 0 (.var 0) (cFc 0) (pgC (.var 2)) (pgN (.var 2) 2) := by intro v0 v7; kernel_rfl
theorem k0_f0_3 : K 0 .norm 0 (.var 0) (cFc 0) (pgC (.var 2)) (pgN (.var 2) 3) := by intro v0 v7; kernel_rfl
theorem k0_f0_4 : K 0 .norm 0 (.var 0) (cFc 0) (pgC (.var 2)) (pgN (.var 2) 4) := by intro v0 v7; kernel_rfl
theorem k0_f0_5 : K 0 .norm 0 (.var 0) (cFc 0) (pgC (.var 2)) (pgN (.var 2) 5) := by intro v0 v7; kernel_rfl
theorem k0_f0_6 : K 0 .norm 0 (.var 0) (cFc 0) (pgC (.var 2)) (pgN (.var 2) 6) := by intro v0 v7; kernel_rfl
theorem k0_f0_7 : K 0 .norm 0 (.var 0) (cFc 0) (pgC (.var 2)) (pgN (.var 2) 7) := by intro v0 v7; kernel_rfl
theorem k0_mf0 : ∀ d e : Nat, d < 8 → e < 8 → (d + 1 ≠ 0 → K 0 .norm 0 (.var 0) (cMF 0) pLow (pAl d)) ∧ (d + 1 = 0 → K 0 .norm 0 (.var 0) (cMF 0) pLow (pAl2 d e))
  | 0, _, _, _ => ⟨fun _ => k0_mf_0_0, fun h => absurd h (by decide)⟩
  | 1, _, _, _ => ⟨fun _ => k0_mf_0_1, fun h => absurd h (by decide)⟩
  | 2, _, _, _ => ⟨fun _ => k0_mf_0_2, fun h => absurd h (by decide)⟩
  | 3, _, _, _ => ⟨fun _ => k0_mf_0_3, fun h => absurd h (by decide)⟩
  | 4, _, _, _ => ⟨fun _ => k0_mf_0_4, fun h => absurd h (by decide)⟩
  | 5, _, _, _ => ⟨fun _ => k0_mf_0_5, fun h => absurd h (by decide)⟩
  | 6, _, _, _ => ⟨fun _ => k0_mf_0_6, fun h => absurd h (by decide)⟩
  | 7, _, _, _ => ⟨fun _ => k0_mf_0_7, fun h => absurd h (by decide)⟩
  | d + 8, _, h, _ => absurd h (by omega)
theorem k0_mf1 : ∀ d e : Nat, d < 8 → e < 8 → (d + 1 ≠ 0 → K 0 .norm 0 (.var 0) (cMF 1) pLow (pAl d)) ∧ (d + 1 = 0 → K 0 .norm 0 (.var 0) (cMF 1) pLow (pAl2 d e))
  | 0, _, _, _ => ⟨fun _ => k0_mf_1_0, fun h => absurd h (by decide)⟩
  | 1, _, _, _ => ⟨fun _ => k0_mf_1_1, fun h => absurd h (by decide)⟩
  | 2, _, _, _ => ⟨fun _ => k0_mf_1_2, fun h => absurd h (by decide)⟩
  | 3, _, _, _ => ⟨fun _ => k0_mf_1_3, fun h => absurd h (by decide)⟩
  | 4, _, _, _ => ⟨fun _ => k0_mf_1_4, fun h => absurd h (by decide)⟩
  | 5, _, _, _ => ⟨fun _ => k0_mf_1_5, fun h => absurd h (by decide)⟩
  | 6, _, _, _ => ⟨fun _ => k0_mf_1_6, fun h => absurd h (by decide)⟩
  | 7, _, _, _ => ⟨fun _ => k0_mf_1_7, fun h => absurd h (by decide)⟩
  | d + 8, _, h, _ => absurd h (by omega)
theorem k0_mf2 : ∀ d e : Nat, d < 8 → e < 8 → (d + 1 ≠ 0 → K 0 .norm 0 (.var 0) (cMF 2) pLow (pAl d)) ∧ (d + 1 = 0 → K 0 .norm 0 (.var 0) (cMF 2) pLow (pAl2 d e))
  | 0, _, _, _ => ⟨fun _ => k0_mf_2_0, fun h => absurd h (by decide)⟩
  | 1, _, _, _ => ⟨fun _ => k0_mf_2_1, fun h => absurd h (by decide)⟩
  | 2, _, _, _ => ⟨fun _ => k0_mf_2_2, fun h => absurd h (by decide)⟩
  | 3, _, _, _ => ⟨fun _ => k0_mf_2_3, fun h => absurd h (by decide)⟩
  | 4, _, _, _ => ⟨fun _ => k0_mf_2_4, fun h => absurd h (by decide)⟩
  | 5, _, _, _ => ⟨fun _ => k0_mf_2_5, fun h => absurd h (by decide)⟩
  | 6, _, _, _ => ⟨fun _ => k0_mf_2_6, fun h => absurd h (by decide)⟩
  | 7, _, _, _ => ⟨fun _ => k0_mf_2_7, fun h => absurd h (by decide)⟩
  | d + 8, _, h, _ => absurd h (by omega)
theorem k0_f0 : ∀ d e : Nat, d < 8 → e < 8 → (d + 1 ≠ 0 → K 0 .norm 0 (.var 0) (cFc 0) (pgC (.var 2)) (pgN (.var 2) d)) ∧ (d + 1 = 0 → K 0 .norm 0 (.var 0) (cFc 0) (pgC (.var 2)) (fN2 d e))
  | 0, _, _, _ => ⟨fun _ => k0_f0_0, fun h => absurd h (by decide)⟩
  | 1, _, _, _ => ⟨fun _ => k0_f0_1, fun h => absurd h (by decide)⟩
  | 2, _, _, _ => ⟨fun _ => k0_f0_2, fun h => absurd h (by decide)⟩
  | 3, _, _, _ => ⟨fun _ => k0_f0_3, fun h => absurd h (by decide)⟩
  | 4, _, _, _ => ⟨fun _ => k0_f0_4, fun h => absurd h (by decide)⟩
  | 5, _, _, _ => ⟨fun _ => k0_f0_5, fun h => absurd h (by decide)⟩
  | 6, _, _, _ => ⟨fun _ => k0_f0_6, fun h => absurd h (by decide)⟩
  | 7, _, _, _ => ⟨fun _ => k0_f0_7, fun h => absurd h (by decide)⟩
  | d + 8, _, h, _ => absurd h (by omega)
end VO
