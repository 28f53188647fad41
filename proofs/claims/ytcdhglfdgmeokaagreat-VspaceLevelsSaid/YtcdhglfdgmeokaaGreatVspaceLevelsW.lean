/- VspaceLevels: the call answers true, of any two addresses. No conditions beside those in its theorems. -/
import Derived.Test.YtcdhglfdgmeokaaGreatVL0
import Derived.Test.YtcdhglfdgmeokaaGreatVL1
import Derived.Test.YtcdhglfdgmeokaaGreatVL2
import Derived.Test.YtcdhglfdgmeokaaGreatVL3
import Derived.Test.YtcdhglfdgmeokaaGreatVL4
import Derived.Test.YtcdhglfdgmeokaaGreatVL5
import Derived.Test.YtcdhglfdgmeokaaGreatVL6
import Derived.Test.YtcdhglfdgmeokaaGreatVL7
import Derived.Test.YtcdhglfdgmeokaaGreatVL8
import Derived.Test.YtcdhglfdgmeokaaGreatVL9
import Derived.Test.YtcdhglfdgmeokaaGreatVL10
import Derived.Test.YtcdhglfdgmeokaaGreatVL11
import Derived.Test.YtcdhglfdgmeokaaGreatVL12
import Derived.Test.YtcdhglfdgmeokaaGreatVL13
import Derived.Test.YtcdhglfdgmeokaaGreatVL14
import Derived.Test.YtcdhglfdgmeokaaGreatVL15
set_option linter.unusedVariables false
open Go Eng Go.Proofs Go.RowKit
namespace vspaceLevelsW
open Base
theorem any : ∀ i, i < 8 → ∀ j, j < 8 → row i j = true
  | 0, _, 0, _ => r0_0
  | 0, _, 1, _ => r0_1
  | 0, _, 2, _ => r0_2
  | 0, _, 3, _ => r0_3
  | 0, _, 4, _ => r0_4
  | 0, _, 5, _ => r0_5
  | 0, _, 6, _ => r0_6
  | 0, _, 7, _ => r0_7
  | 1, _, 0, _ => r1_0
  | 1, _, 1, _ => r1_1
  | 1, _, 2, _ => r1_2
  | 1, _, 3, _ => r1_3
  | 1, _, 4, _ => r1_4
  | 1, _, 5, _ => r1_5
  | 1, _, 6, _ => r1_6
  | 1, _, 7, _ => r1_7
  | 2, _, 0, _ => r2_0
  | 2, _, 1, _ => r2_1
  | 2, _, 2, _ => r2_2
  | 2, _, 3, _ => r2_3
  | 2, _, 4, _ => r2_4
  | 2, _, 5, _ => r2_5
  | 2, _, 6, _ => r2_6
  | 2, _, 7, _ => r2_7
  | 3, _, 0, _ => r3_0
  | 3, _, 1, _ => r3_1
  | 3, _, 2, _ => r3_2
  | 3, _, 3, _ => r3_3
  | 3, _, 4, _ => r3_4
  | 3, _, 5, _ => r3_5
  | 3, _, 6, _ => r3_6
  | 3, _, 7, _ => r3_7
  | 4, _, 0, _ => r4_0
  | 4, _, 1, _ => r4_1
  | 4, _, 2, _ => r4_2
  | 4, _, 3, _ => r4_3
  | 4, _, 4, _ => r4_4
  | 4, _, 5, _ => r4_5
  | 4, _, 6, _ => r4_6
  | 4, _, 7, _ => r4_7
  | 5, _, 0, _ => r5_0
  | 5, _, 1, _ => r5_1
  | 5, _, 2, _ => r5_2
  | 5, _, 3, _ => r5_3
  | 5, _, 4, _ => r5_4
  | 5, _, 5, _ => r5_5
  | 5, _, 6, _ => r5_6
  | 5, _, 7, _ => r5_7
  | 6, _, 0, _ => r6_0
  | 6, _, 1, _ => r6_1
  | 6, _, 2, _ => r6_2
  | 6, _, 3, _ => r6_3
  | 6, _, 4, _ => r6_4
  | 6, _, 5, _ => r6_5
  | 6, _, 6, _ => r6_6
  | 6, _, 7, _ => r6_7
  | 7, _, 0, _ => r7_0
  | 7, _, 1, _ => r7_1
  | 7, _, 2, _ => r7_2
  | 7, _, 3, _ => r7_3
  | 7, _, 4, _ => r7_4
  | 7, _, 5, _ => r7_5
  | 7, _, 6, _ => r7_6
  | 7, _, 7, _ => r7_7
  | i + 8, h, _, _ => absurd h (by omega)
  | _, _, j + 8, h => absurd h (by omega)
def sig (a0 a1 : Int) : Sig := fun i => match i with | 0 => a0 | _ => a1
def bnd : Nat → Int × Int := fun _ => (0, 18446744073709551615)
theorem hbnd {a0 a1 : Int} (h0 : 0 ≤ a0 ∧ a0 ≤ 18446744073709551615) (h1 : 0 ≤ a1 ∧ a1 ≤ 18446744073709551615) : ∀ i, (bnd i).1 ≤ (sig a0 a1) i ∧ (sig a0 a1) i ≤ (bnd i).2
  | 0 => h0
  | _ + 1 => h1
theorem inEight {p : Nat → Bool} (h : [0, 1, 2, 3, 4, 5, 6, 7].all p = true) {k : Nat} (hk : k < 8) : p k = true := by
  have : k ∈ [0, 1, 2, 3, 4, 5, 6, 7] := by
    have : k = 0 ∨ k = 1 ∨ k = 2 ∨ k = 3 ∨ k = 4 ∨ k = 5 ∨ k = 6 ∨ k = 7 := by omega
    simpa using this
  exact List.all_eq_true.1 h k this
theorem beqF {a b : Nat} (h : a ≠ b) : Nat.beq a b = false := by
  cases e : Nat.beq a b with
  | false => rfl
  | true => exact absurd (beq_eq e) h
theorem facts {a0 a1 : Int} {s4 s5 : Bool} (h0 : 0 ≤ a0 ∧ a0 ≤ 18446744073709551615) (h1 : 0 ≤ a1 ∧ a1 ≤ 18446744073709551615) (h4 : s4 = decide (a1 % 32768 / 4096 = a0 % 32768 / 4096)) (h5 : s5 = decide (a1 % 32768 / 512 = a0 % 32768 / 512)) : Al (CFok (sig a0 a1)) (tab s4 s5) := by
  have hb := hbnd h0 h1
  refine .cons (CFok.ex hb rfl rfl ?_) (.cons (CFok.ex hb rfl rfl ?_) (.cons (CFok.ex hb rfl rfl ?_) (.cons (CFok.ex hb rfl rfl ?_) (.cons (CFok.ex hb rfl rfl ?_) (.cons (CFok.ex hb rfl rfl ?_) (.cons (CFok.ex hb rfl rfl ?_) (.cons (CFok.ex hb rfl rfl ?_) .nil)))))))
  · show decide (a0 % 32768 / 64 < 0) = false; exact decide_eq_false (by omega)
  · show decide (a0 % 32768 / 64 ≥ 512) = false; exact decide_eq_false (by omega)
  · show decide (a1 % 32768 / 64 < 0) = false; exact decide_eq_false (by omega)
  · show decide (a1 % 32768 / 64 ≥ 512) = false; exact decide_eq_false (by omega)
  · show decide (a0 % 32768 ≥ 32768) = false; exact decide_eq_false (by omega)
  · show decide (a1 % 32768 ≥ 32768) = false; exact decide_eq_false (by omega)
  · rw [h5]; show (a1 % 32768 / 512 == a0 % 32768 / 512) = _; rw [Bool.eq_iff_iff, beq_iff_eq, decide_eq_true_iff]
  · rw [h4]; show (a1 % 32768 / 4096 == a0 % 32768 / 4096) = _; rw [Bool.eq_iff_iff, beq_iff_eq, decide_eq_true_iff]
set_option maxRecDepth 100000 in
theorem walk (a0 : Int) (a1 : Int)  (w0 : (Lit.int .u64 a0).wf = true) (w1 : (Lit.int .u64 a1).wf = true) (w : World) : Calls Tryz.prog 6 #[.int .u64 a0, .int .u64 a1] w fun e w' => e = .returned (.bool true) ∧ Grown w w' := by
  have hv : F2 (AVR rho0 (sig a0 a1)) [.one (.sym .u64 (.var 0)), .one (.sym .u64 (.var 1))] [.int .u64 a0, .int .u64 a1] := (.cons rfl (.cons rfl .nil))
  have m1 : IntKind.u64.min = 0 := by decide
  have m2 : IntKind.u64.max = 18446744073709551615 := by decide
  have h0 : 0 ≤ a0 ∧ a0 ≤ 18446744073709551615 := by
    have h : IntKind.u64.min ≤ a0 ∧ a0 ≤ IntKind.u64.max := by simpa [Lit.wf] using w0
    omega
  have h1 : 0 ≤ a1 ∧ a1 ≤ 18446744073709551615 := by
    have h : IntKind.u64.min ≤ a1 ∧ a1 ≤ IntKind.u64.max := by simpa [Lit.wf] using w1
    omega
  have hb := hbnd h0 h1
  obtain ⟨i, ei⟩ := Int.eq_ofNat_of_zero_le (show 0 ≤ a0 % 32768 / 64 / 8 / 8 % 8 by omega)
  obtain ⟨j, ej⟩ := Int.eq_ofNat_of_zero_le (show 0 ≤ a0 % 32768 / 64 / 8 % 8 by omega)
  obtain ⟨k, ek⟩ := Int.eq_ofNat_of_zero_le (show 0 ≤ a1 % 32768 / 64 / 8 / 8 % 8 by omega)
  obtain ⟨l, el⟩ := Int.eq_ofNat_of_zero_le (show 0 ≤ a1 % 32768 / 64 / 8 % 8 by omega)
  have hr := any i (by omega) j (by omega)
  simp only [row, Bool.and_eq_true] at hr
  by_cases hk : k = i
  · subst hk
    by_cases hl : l = j
    · subst hl
      exact leafW (show says true (eval (cfgW [s19] (tab true true) (n4 k l l) lst) 300 X0 (.call 6 [.one (.sym .u64 (.var 0)), .one (.sym .u64 (.var 1))]) ⟨.nil, 0⟩) = true from hr.1) (gs19 _) (facts h0 h1 (decide_eq_true (by omega)).symm (decide_eq_true (by omega)).symm) (.cons (NFok.ex hb (f := ⟨e1 0, Int.ofNat k⟩) rfl (show a0 % 32768 / 64 / 8 / 8 % 8 = Int.ofNat k from by simp only [Int.ofNat_eq_natCast]; omega)) (.cons (NFok.ex hb (f := ⟨e2 0, Int.ofNat l⟩) rfl (show a0 % 32768 / 64 / 8 % 8 = Int.ofNat l from by simp only [Int.ofNat_eq_natCast]; omega)) (.cons (NFok.ex hb (f := ⟨e1 1, Int.ofNat k⟩) rfl (show a1 % 32768 / 64 / 8 / 8 % 8 = Int.ofNat k from by simp only [Int.ofNat_eq_natCast]; omega)) (.cons (NFok.ex hb (f := ⟨e2 1, Int.ofNat l⟩) rfl (show a1 % 32768 / 64 / 8 % 8 = Int.ofNat l from by simp only [Int.ofNat_eq_natCast]; omega)) .nil)))) (lstOK _) hv w
    · have hq := inEight hr.2 (k := l) (by omega)
      simp only [beqF hl, Bool.false_or, Bool.and_eq_true] at hq
      exact leafW (show says true (eval (cfgW [s19] (tab true false) (n4 k j l) lst) 300 X0 (.call 6 [.one (.sym .u64 (.var 0)), .one (.sym .u64 (.var 1))]) ⟨.nil, 0⟩) = true from hq.2) (gs19 _) (facts h0 h1 (decide_eq_true (by omega)).symm (decide_eq_false (by omega)).symm) (.cons (NFok.ex hb (f := ⟨e1 0, Int.ofNat k⟩) rfl (show a0 % 32768 / 64 / 8 / 8 % 8 = Int.ofNat k from by simp only [Int.ofNat_eq_natCast]; omega)) (.cons (NFok.ex hb (f := ⟨e2 0, Int.ofNat j⟩) rfl (show a0 % 32768 / 64 / 8 % 8 = Int.ofNat j from by simp only [Int.ofNat_eq_natCast]; omega)) (.cons (NFok.ex hb (f := ⟨e1 1, Int.ofNat k⟩) rfl (show a1 % 32768 / 64 / 8 / 8 % 8 = Int.ofNat k from by simp only [Int.ofNat_eq_natCast]; omega)) (.cons (NFok.ex hb (f := ⟨e2 1, Int.ofNat l⟩) rfl (show a1 % 32768 / 64 / 8 % 8 = Int.ofNat l from by simp only [Int.ofNat_eq_natCast]; omega)) .nil)))) (lstOK _) hv w
  · have hq := inEight hr.2 (k := k) (by omega)
    simp only [beqF hk, Bool.false_or, Bool.and_eq_true] at hq
    exact leafW (show says true (eval (cfgW [s19] (tab false false) (n3 i j k) lst) 300 X0 (.call 6 [.one (.sym .u64 (.var 0)), .one (.sym .u64 (.var 1))]) ⟨.nil, 0⟩) = true from hq.1) (gs19 _) (facts h0 h1 (decide_eq_false (by omega)).symm (decide_eq_false (by omega)).symm) (.cons (NFok.ex hb (f := ⟨e1 0, Int.ofNat i⟩) rfl (show a0 % 32768 / 64 / 8 / 8 % 8 = Int.ofNat i from by simp only [Int.ofNat_eq_natCast]; omega)) (.cons (NFok.ex hb (f := ⟨e2 0, Int.ofNat j⟩) rfl (show a0 % 32768 / 64 / 8 % 8 = Int.ofNat j from by simp only [Int.ofNat_eq_natCast]; omega)) (.cons (NFok.ex hb (f := ⟨e1 1, Int.ofNat k⟩) rfl (show a1 % 32768 / 64 / 8 / 8 % 8 = Int.ofNat k from by simp only [Int.ofNat_eq_natCast]; omega)) .nil))) (lstOK _) hv w
end vspaceLevelsW
