/- KernelRetry: the call answers true, of any event and address. No conditions beside those in its theorems. -/
import Derived.Test.YtnjinlodmjoibaaGreatKernelRetryE0
import Derived.Test.YtnjinlodmjoibaaGreatKernelRetryE1
import Derived.Test.YtnjinlodmjoibaaGreatKernelRetryE2
import Derived.Test.YtnjinlodmjoibaaGreatKernelRetryE3
set_option linter.unusedVariables false
open Go Eng Go.Proofs Go.RowKit
namespace kernelRetryW
open Base
theorem any2 : ∀ k, k < 8 → run (.int .i64 2) [] k = true
  | 0, _ => r2_0
  | 1, _ => r2_1
  | 2, _ => r2_2
  | 3, _ => r2_3
  | 4, _ => r2_4
  | 5, _ => r2_5
  | 6, _ => r2_6
  | 7, _ => r2_7
  | k + 8, h => absurd h (by omega)
theorem any3 : ∀ k, k < 8 → run (.int .i64 3) [] k = true
  | 0, _ => r3_0
  | 1, _ => r3_1
  | 2, _ => r3_2
  | 3, _ => r3_3
  | 4, _ => r3_4
  | 5, _ => r3_5
  | 6, _ => r3_6
  | 7, _ => r3_7
  | k + 8, h => absurd h (by omega)
theorem any4 : ∀ k, k < 8 → run (.int .i64 4) [] k = true
  | 0, _ => r4_0
  | 1, _ => r4_1
  | 2, _ => r4_2
  | 3, _ => r4_3
  | 4, _ => r4_4
  | 5, _ => r4_5
  | 6, _ => r4_6
  | 7, _ => r4_7
  | k + 8, h => absurd h (by omega)
theorem anyE : ∀ k, k < 8 → run (.sym .i64 (.var 0)) tE k = true
  | 0, _ => rE_0
  | 1, _ => rE_1
  | 2, _ => rE_2
  | 3, _ => rE_3
  | 4, _ => rE_4
  | 5, _ => rE_5
  | 6, _ => rE_6
  | 7, _ => rE_7
  | k + 8, h => absurd h (by omega)
def sig (z0_0 z0_1 z0_2 z0_3 z0_4 z0_5 z0_6 z0_7 z0_8 z0_9 z0_10 z0_11 z0_12 z0_13 z0_14 a1 : Int) : Sig := fun i => match i with | 0 => z0_0 | 1 => z0_1 | 2 => z0_2 | 3 => z0_3 | 4 => z0_4 | 5 => z0_5 | 6 => z0_6 | 7 => z0_7 | 8 => z0_8 | 9 => z0_9 | 10 => z0_10 | 11 => z0_11 | 12 => z0_12 | 13 => z0_13 | 14 => z0_14 | _ => a1
def bnd (z0_0 z0_1 z0_2 z0_3 z0_4 z0_5 z0_6 z0_7 z0_8 z0_9 z0_10 z0_11 z0_12 z0_13 z0_14 a1 : Int) : Nat → Int × Int := fun i => if i = 15 then (0, 18446744073709551615) else ((sig z0_0 z0_1 z0_2 z0_3 z0_4 z0_5 z0_6 z0_7 z0_8 z0_9 z0_10 z0_11 z0_12 z0_13 z0_14 a1) i, (sig z0_0 z0_1 z0_2 z0_3 z0_4 z0_5 z0_6 z0_7 z0_8 z0_9 z0_10 z0_11 z0_12 z0_13 z0_14 a1) i)
theorem hbnd (z0_0 z0_1 z0_2 z0_3 z0_4 z0_5 z0_6 z0_7 z0_8 z0_9 z0_10 z0_11 z0_12 z0_13 z0_14 a1 : Int) (h : 0 ≤ a1 ∧ a1 ≤ 18446744073709551615) : ∀ i, (bnd z0_0 z0_1 z0_2 z0_3 z0_4 z0_5 z0_6 z0_7 z0_8 z0_9 z0_10 z0_11 z0_12 z0_13 z0_14 a1 i).1 ≤ (sig z0_0 z0_1 z0_2 z0_3 z0_4 z0_5 z0_6 z0_7 z0_8 z0_9 z0_10 z0_11 z0_12 z0_13 z0_14 a1) i ∧ (sig z0_0 z0_1 z0_2 z0_3 z0_4 z0_5 z0_6 z0_7 z0_8 z0_9 z0_10 z0_11 z0_12 z0_13 z0_14 a1) i ≤ (bnd z0_0 z0_1 z0_2 z0_3 z0_4 z0_5 z0_6 z0_7 z0_8 z0_9 z0_10 z0_11 z0_12 z0_13 z0_14 a1 i).2 := by
  intro i
  unfold bnd
  by_cases e : i = 15
  · subst e; exact h
  · rw [if_neg e]; exact ⟨Int.le_refl _, Int.le_refl _⟩
set_option maxRecDepth 100000 in
theorem walk (l0 : List Value) (a1 : Int) (h0 : Flat.Cells [.n .i64, .n .i64, .n .i64, .n .u64, .n .u64, .n .u64, .n .u64, .n .u64, .n .u64, .n .u64, .n .u64, .n .u64, .n .i64, .n .i64, .n .i64] l0) (w1 : (Lit.int .u64 a1).wf = true) (w : World) : Calls Tryz.prog 4 #[.agg l0.toArray, .int .u64 a1] w fun e w' => e = .returned (.bool true) ∧ Grown w w' := by
  obtain _ | ⟨_, h0⟩ := h0
  rename_i z0_0 _ _
  obtain _ | ⟨_, h0⟩ := h0
  rename_i z0_1 _ _
  obtain _ | ⟨_, h0⟩ := h0
  rename_i z0_2 _ _
  obtain _ | ⟨_, h0⟩ := h0
  rename_i z0_3 _ _
  obtain _ | ⟨_, h0⟩ := h0
  rename_i z0_4 _ _
  obtain _ | ⟨_, h0⟩ := h0
  rename_i z0_5 _ _
  obtain _ | ⟨_, h0⟩ := h0
  rename_i z0_6 _ _
  obtain _ | ⟨_, h0⟩ := h0
  rename_i z0_7 _ _
  obtain _ | ⟨_, h0⟩ := h0
  rename_i z0_8 _ _
  obtain _ | ⟨_, h0⟩ := h0
  rename_i z0_9 _ _
  obtain _ | ⟨_, h0⟩ := h0
  rename_i z0_10 _ _
  obtain _ | ⟨_, h0⟩ := h0
  rename_i z0_11 _ _
  obtain _ | ⟨_, h0⟩ := h0
  rename_i z0_12 _ _
  obtain _ | ⟨_, h0⟩ := h0
  rename_i z0_13 _ _
  obtain _ | ⟨_, h0⟩ := h0
  rename_i z0_14 _ _
  cases h0
  have m1 : IntKind.u64.min = 0 := by decide
  have m2 : IntKind.u64.max = 18446744073709551615 := by decide
  have h0 : 0 ≤ a1 ∧ a1 ≤ 18446744073709551615 := by
    have h : IntKind.u64.min ≤ a1 ∧ a1 ≤ IntKind.u64.max := by simpa [Lit.wf] using w1
    omega
  have hb := hbnd z0_0 z0_1 z0_2 z0_3 z0_4 z0_5 z0_6 z0_7 z0_8 z0_9 z0_10 z0_11 z0_12 z0_13 z0_14 a1 h0
  obtain ⟨k, ek⟩ := Int.eq_ofNat_of_zero_le (show 0 ≤ a1 % 64 / 8 by omega)
  have hk : k < 8 := by omega
  have hn : Al (NFok (sig z0_0 z0_1 z0_2 z0_3 z0_4 z0_5 z0_6 z0_7 z0_8 z0_9 z0_10 z0_11 z0_12 z0_13 z0_14 a1)) (nt k) := .cons (NFok.ex hb (f := ⟨.bin .quo .u64 (.bin .rem .u64 (.var 15) (.lit 64)) (.lit 8), Int.ofNat k⟩) rfl (show a1 % 64 / 8 = Int.ofNat k from ek)) .nil
  have hl : ∀ C : Cfg, C.fu = Tab.fuT.get → Al (Summ Tryz.prog (sig z0_0 z0_1 z0_2 z0_3 z0_4 z0_5 z0_6 z0_7 z0_8 z0_9 z0_10 z0_11 z0_12 z0_13 z0_14 a1) C) lst := fun C hC => .cons (aw18 _ C hC) (puresOK _ C hC)
  by_cases c2 : z0_0 = 2
  · have ha0 : F2 (AR rho0 (sig z0_0 z0_1 z0_2 z0_3 z0_4 z0_5 z0_6 z0_7 z0_8 z0_9 z0_10 z0_11 z0_12 z0_13 z0_14 a1)) [.int .i64 2, .sym .i64 (.var 1), .sym .i64 (.var 2), .sym .u64 (.var 3), .sym .u64 (.var 4), .sym .u64 (.var 5), .sym .u64 (.var 6), .sym .u64 (.var 7), .sym .u64 (.var 8), .sym .u64 (.var 9), .sym .u64 (.var 10), .sym .u64 (.var 11), .sym .i64 (.var 12), .sym .i64 (.var 13), .sym .i64 (.var 14)] [.int .i64 z0_0, .int .i64 z0_1, .int .i64 z0_2, .int .u64 z0_3, .int .u64 z0_4, .int .u64 z0_5, .int .u64 z0_6, .int .u64 z0_7, .int .u64 z0_8, .int .u64 z0_9, .int .u64 z0_10, .int .u64 z0_11, .int .i64 z0_12, .int .i64 z0_13, .int .i64 z0_14] := (.cons (by show Value.int .i64 z0_0 = Value.int .i64 2; rw [c2]) (.cons rfl (.cons rfl (.cons rfl (.cons rfl (.cons rfl (.cons rfl (.cons rfl (.cons rfl (.cons rfl (.cons rfl (.cons rfl (.cons rfl (.cons rfl (.cons rfl .nil)))))))))))))))
    have hv : F2 (AVR rho0 (sig z0_0 z0_1 z0_2 z0_3 z0_4 z0_5 z0_6 z0_7 z0_8 z0_9 z0_10 z0_11 z0_12 z0_13 z0_14 a1)) [.agg [.int .i64 2, .sym .i64 (.var 1), .sym .i64 (.var 2), .sym .u64 (.var 3), .sym .u64 (.var 4), .sym .u64 (.var 5), .sym .u64 (.var 6), .sym .u64 (.var 7), .sym .u64 (.var 8), .sym .u64 (.var 9), .sym .u64 (.var 10), .sym .u64 (.var 11), .sym .i64 (.var 12), .sym .i64 (.var 13), .sym .i64 (.var 14)], .one (.sym .u64 (.var 15))] [.agg [.int .i64 z0_0, .int .i64 z0_1, .int .i64 z0_2, .int .u64 z0_3, .int .u64 z0_4, .int .u64 z0_5, .int .u64 z0_6, .int .u64 z0_7, .int .u64 z0_8, .int .u64 z0_9, .int .u64 z0_10, .int .u64 z0_11, .int .i64 z0_12, .int .i64 z0_13, .int .i64 z0_14].toArray, .int .u64 a1] := (.cons ⟨_, rfl, ha0⟩ (.cons rfl .nil))
    exact leafW (show says true (eval (cfgW (s8 :: s40 :: [s32]) [] (nt k) lst) 300 X0 (.call 4 [.agg [.int .i64 2, .sym .i64 (.var 1), .sym .i64 (.var 2), .sym .u64 (.var 3), .sym .u64 (.var 4), .sym .u64 (.var 5), .sym .u64 (.var 6), .sym .u64 (.var 7), .sym .u64 (.var 8), .sym .u64 (.var 9), .sym .u64 (.var 10), .sym .u64 (.var 11), .sym .i64 (.var 12), .sym .i64 (.var 13), .sym .i64 (.var 14)], .one (.sym .u64 (.var 15))]) ⟨.nil, 0⟩) = true from any2 k hk) (gs8 _) .nil hn hl hv w
  by_cases c3 : z0_0 = 3
  · have ha0 : F2 (AR rho0 (sig z0_0 z0_1 z0_2 z0_3 z0_4 z0_5 z0_6 z0_7 z0_8 z0_9 z0_10 z0_11 z0_12 z0_13 z0_14 a1)) [.int .i64 3, .sym .i64 (.var 1), .sym .i64 (.var 2), .sym .u64 (.var 3), .sym .u64 (.var 4), .sym .u64 (.var 5), .sym .u64 (.var 6), .sym .u64 (.var 7), .sym .u64 (.var 8), .sym .u64 (.var 9), .sym .u64 (.var 10), .sym .u64 (.var 11), .sym .i64 (.var 12), .sym .i64 (.var 13), .sym .i64 (.var 14)] [.int .i64 z0_0, .int .i64 z0_1, .int .i64 z0_2, .int .u64 z0_3, .int .u64 z0_4, .int .u64 z0_5, .int .u64 z0_6, .int .u64 z0_7, .int .u64 z0_8, .int .u64 z0_9, .int .u64 z0_10, .int .u64 z0_11, .int .i64 z0_12, .int .i64 z0_13, .int .i64 z0_14] := (.cons (by show Value.int .i64 z0_0 = Value.int .i64 3; rw [c3]) (.cons rfl (.cons rfl (.cons rfl (.cons rfl (.cons rfl (.cons rfl (.cons rfl (.cons rfl (.cons rfl (.cons rfl (.cons rfl (.cons rfl (.cons rfl (.cons rfl .nil)))))))))))))))
    have hv : F2 (AVR rho0 (sig z0_0 z0_1 z0_2 z0_3 z0_4 z0_5 z0_6 z0_7 z0_8 z0_9 z0_10 z0_11 z0_12 z0_13 z0_14 a1)) [.agg [.int .i64 3, .sym .i64 (.var 1), .sym .i64 (.var 2), .sym .u64 (.var 3), .sym .u64 (.var 4), .sym .u64 (.var 5), .sym .u64 (.var 6), .sym .u64 (.var 7), .sym .u64 (.var 8), .sym .u64 (.var 9), .sym .u64 (.var 10), .sym .u64 (.var 11), .sym .i64 (.var 12), .sym .i64 (.var 13), .sym .i64 (.var 14)], .one (.sym .u64 (.var 15))] [.agg [.int .i64 z0_0, .int .i64 z0_1, .int .i64 z0_2, .int .u64 z0_3, .int .u64 z0_4, .int .u64 z0_5, .int .u64 z0_6, .int .u64 z0_7, .int .u64 z0_8, .int .u64 z0_9, .int .u64 z0_10, .int .u64 z0_11, .int .i64 z0_12, .int .i64 z0_13, .int .i64 z0_14].toArray, .int .u64 a1] := (.cons ⟨_, rfl, ha0⟩ (.cons rfl .nil))
    exact leafW (show says true (eval (cfgW (s8 :: s40 :: [s32]) [] (nt k) lst) 300 X0 (.call 4 [.agg [.int .i64 3, .sym .i64 (.var 1), .sym .i64 (.var 2), .sym .u64 (.var 3), .sym .u64 (.var 4), .sym .u64 (.var 5), .sym .u64 (.var 6), .sym .u64 (.var 7), .sym .u64 (.var 8), .sym .u64 (.var 9), .sym .u64 (.var 10), .sym .u64 (.var 11), .sym .i64 (.var 12), .sym .i64 (.var 13), .sym .i64 (.var 14)], .one (.sym .u64 (.var 15))]) ⟨.nil, 0⟩) = true from any3 k hk) (gs8 _) .nil hn hl hv w
  by_cases c4 : z0_0 = 4
  · have ha0 : F2 (AR rho0 (sig z0_0 z0_1 z0_2 z0_3 z0_4 z0_5 z0_6 z0_7 z0_8 z0_9 z0_10 z0_11 z0_12 z0_13 z0_14 a1)) [.int .i64 4, .sym .i64 (.var 1), .sym .i64 (.var 2), .sym .u64 (.var 3), .sym .u64 (.var 4), .sym .u64 (.var 5), .sym .u64 (.var 6), .sym .u64 (.var 7), .sym .u64 (.var 8), .sym .u64 (.var 9), .sym .u64 (.var 10), .sym .u64 (.var 11), .sym .i64 (.var 12), .sym .i64 (.var 13), .sym .i64 (.var 14)] [.int .i64 z0_0, .int .i64 z0_1, .int .i64 z0_2, .int .u64 z0_3, .int .u64 z0_4, .int .u64 z0_5, .int .u64 z0_6, .int .u64 z0_7, .int .u64 z0_8, .int .u64 z0_9, .int .u64 z0_10, .int .u64 z0_11, .int .i64 z0_12, .int .i64 z0_13, .int .i64 z0_14] := (.cons (by show Value.int .i64 z0_0 = Value.int .i64 4; rw [c4]) (.cons rfl (.cons rfl (.cons rfl (.cons rfl (.cons rfl (.cons rfl (.cons rfl (.cons rfl (.cons rfl (.cons rfl (.cons rfl (.cons rfl (.cons rfl (.cons rfl .nil)))))))))))))))
    have hv : F2 (AVR rho0 (sig z0_0 z0_1 z0_2 z0_3 z0_4 z0_5 z0_6 z0_7 z0_8 z0_9 z0_10 z0_11 z0_12 z0_13 z0_14 a1)) [.agg [.int .i64 4, .sym .i64 (.var 1), .sym .i64 (.var 2), .sym .u64 (.var 3), .sym .u64 (.var 4), .sym .u64 (.var 5), .sym .u64 (.var 6), .sym .u64 (.var 7), .sym .u64 (.var 8), .sym .u64 (.var 9), .sym .u64 (.var 10), .sym .u64 (.var 11), .sym .i64 (.var 12), .sym .i64 (.var 13), .sym .i64 (.var 14)], .one (.sym .u64 (.var 15))] [.agg [.int .i64 z0_0, .int .i64 z0_1, .int .i64 z0_2, .int .u64 z0_3, .int .u64 z0_4, .int .u64 z0_5, .int .u64 z0_6, .int .u64 z0_7, .int .u64 z0_8, .int .u64 z0_9, .int .u64 z0_10, .int .u64 z0_11, .int .i64 z0_12, .int .i64 z0_13, .int .i64 z0_14].toArray, .int .u64 a1] := (.cons ⟨_, rfl, ha0⟩ (.cons rfl .nil))
    exact leafW (show says true (eval (cfgW (s8 :: s40 :: [s32]) [] (nt k) lst) 300 X0 (.call 4 [.agg [.int .i64 4, .sym .i64 (.var 1), .sym .i64 (.var 2), .sym .u64 (.var 3), .sym .u64 (.var 4), .sym .u64 (.var 5), .sym .u64 (.var 6), .sym .u64 (.var 7), .sym .u64 (.var 8), .sym .u64 (.var 9), .sym .u64 (.var 10), .sym .u64 (.var 11), .sym .i64 (.var 12), .sym .i64 (.var 13), .sym .i64 (.var 14)], .one (.sym .u64 (.var 15))]) ⟨.nil, 0⟩) = true from any4 k hk) (gs8 _) .nil hn hl hv w
  have ha0 : F2 (AR rho0 (sig z0_0 z0_1 z0_2 z0_3 z0_4 z0_5 z0_6 z0_7 z0_8 z0_9 z0_10 z0_11 z0_12 z0_13 z0_14 a1)) [.sym .i64 (.var 0), .sym .i64 (.var 1), .sym .i64 (.var 2), .sym .u64 (.var 3), .sym .u64 (.var 4), .sym .u64 (.var 5), .sym .u64 (.var 6), .sym .u64 (.var 7), .sym .u64 (.var 8), .sym .u64 (.var 9), .sym .u64 (.var 10), .sym .u64 (.var 11), .sym .i64 (.var 12), .sym .i64 (.var 13), .sym .i64 (.var 14)] [.int .i64 z0_0, .int .i64 z0_1, .int .i64 z0_2, .int .u64 z0_3, .int .u64 z0_4, .int .u64 z0_5, .int .u64 z0_6, .int .u64 z0_7, .int .u64 z0_8, .int .u64 z0_9, .int .u64 z0_10, .int .u64 z0_11, .int .i64 z0_12, .int .i64 z0_13, .int .i64 z0_14] := (.cons rfl (.cons rfl (.cons rfl (.cons rfl (.cons rfl (.cons rfl (.cons rfl (.cons rfl (.cons rfl (.cons rfl (.cons rfl (.cons rfl (.cons rfl (.cons rfl (.cons rfl .nil)))))))))))))))
  have hv : F2 (AVR rho0 (sig z0_0 z0_1 z0_2 z0_3 z0_4 z0_5 z0_6 z0_7 z0_8 z0_9 z0_10 z0_11 z0_12 z0_13 z0_14 a1)) [.agg [.sym .i64 (.var 0), .sym .i64 (.var 1), .sym .i64 (.var 2), .sym .u64 (.var 3), .sym .u64 (.var 4), .sym .u64 (.var 5), .sym .u64 (.var 6), .sym .u64 (.var 7), .sym .u64 (.var 8), .sym .u64 (.var 9), .sym .u64 (.var 10), .sym .u64 (.var 11), .sym .i64 (.var 12), .sym .i64 (.var 13), .sym .i64 (.var 14)], .one (.sym .u64 (.var 15))] [.agg [.int .i64 z0_0, .int .i64 z0_1, .int .i64 z0_2, .int .u64 z0_3, .int .u64 z0_4, .int .u64 z0_5, .int .u64 z0_6, .int .u64 z0_7, .int .u64 z0_8, .int .u64 z0_9, .int .u64 z0_10, .int .u64 z0_11, .int .i64 z0_12, .int .i64 z0_13, .int .i64 z0_14].toArray, .int .u64 a1] := (.cons ⟨_, rfl, ha0⟩ (.cons rfl .nil))
  have ht : Al (CFok (sig z0_0 z0_1 z0_2 z0_3 z0_4 z0_5 z0_6 z0_7 z0_8 z0_9 z0_10 z0_11 z0_12 z0_13 z0_14 a1)) tE := (.cons (show CFok (sig z0_0 z0_1 z0_2 z0_3 z0_4 z0_5 z0_6 z0_7 z0_8 z0_9 z0_10 z0_11 z0_12 z0_13 z0_14 a1) ⟨.neq, .var 0, .lit 2, true⟩ from bne_iff_ne.2 c2) (.cons (show CFok (sig z0_0 z0_1 z0_2 z0_3 z0_4 z0_5 z0_6 z0_7 z0_8 z0_9 z0_10 z0_11 z0_12 z0_13 z0_14 a1) ⟨.eql, .var 0, .lit 2, false⟩ from beq_eq_false_iff_ne.2 c2) (.cons (show CFok (sig z0_0 z0_1 z0_2 z0_3 z0_4 z0_5 z0_6 z0_7 z0_8 z0_9 z0_10 z0_11 z0_12 z0_13 z0_14 a1) ⟨.neq, .var 0, .lit 3, true⟩ from bne_iff_ne.2 c3) (.cons (show CFok (sig z0_0 z0_1 z0_2 z0_3 z0_4 z0_5 z0_6 z0_7 z0_8 z0_9 z0_10 z0_11 z0_12 z0_13 z0_14 a1) ⟨.eql, .var 0, .lit 3, false⟩ from beq_eq_false_iff_ne.2 c3) (.cons (show CFok (sig z0_0 z0_1 z0_2 z0_3 z0_4 z0_5 z0_6 z0_7 z0_8 z0_9 z0_10 z0_11 z0_12 z0_13 z0_14 a1) ⟨.neq, .var 0, .lit 4, true⟩ from bne_iff_ne.2 c4) (.cons (show CFok (sig z0_0 z0_1 z0_2 z0_3 z0_4 z0_5 z0_6 z0_7 z0_8 z0_9 z0_10 z0_11 z0_12 z0_13 z0_14 a1) ⟨.eql, .var 0, .lit 4, false⟩ from beq_eq_false_iff_ne.2 c4) .nil))))))
  exact leafW (show says true (eval (cfgW (s8 :: s40 :: [s32]) tE (nt k) lst) 300 X0 (.call 4 [.agg [.sym .i64 (.var 0), .sym .i64 (.var 1), .sym .i64 (.var 2), .sym .u64 (.var 3), .sym .u64 (.var 4), .sym .u64 (.var 5), .sym .u64 (.var 6), .sym .u64 (.var 7), .sym .u64 (.var 8), .sym .u64 (.var 9), .sym .u64 (.var 10), .sym .u64 (.var 11), .sym .i64 (.var 12), .sym .i64 (.var 13), .sym .i64 (.var 14)], .one (.sym .u64 (.var 15))]) ⟨.nil, 0⟩) = true from anyE k hk) (gs8 _) ht hn hl hv w
end kernelRetryW
