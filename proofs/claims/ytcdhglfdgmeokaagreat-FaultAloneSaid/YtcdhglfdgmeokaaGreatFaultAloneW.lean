/- FaultAlone: the call answers true, of any address and value. No conditions beside those in its theorems. -/
import Derived.Test.YtcdhglfdgmeokaaGreatFA0
import Derived.Test.YtcdhglfdgmeokaaGreatFA1
import Derived.Test.YtcdhglfdgmeokaaGreatFA2
import Derived.Test.YtcdhglfdgmeokaaGreatFA3
set_option linter.unusedVariables false
open Go Eng Go.Proofs Go.RowKit
namespace faultAloneW
open Base
theorem anyA : ∀ b2 : Bool, run tA [] b2 = true
  | true => rAt
  | false => rAf
theorem anyB : ∀ b2 : Bool, run tB [] b2 = true
  | true => rBt
  | false => rBf
theorem any1 : ∀ k, k < 8 → k ≠ 0 → ∀ b2 : Bool, run tC (n1 k) b2 = true
  | 0, _, h, _ => absurd rfl h
  | 1, _, _, true => r1_1t
  | 1, _, _, false => r1_1f
  | 2, _, _, true => r1_2t
  | 2, _, _, false => r1_2f
  | 3, _, _, true => r1_3t
  | 3, _, _, false => r1_3f
  | 4, _, _, true => r1_4t
  | 4, _, _, false => r1_4f
  | 5, _, _, true => r1_5t
  | 5, _, _, false => r1_5f
  | 6, _, _, true => r1_6t
  | 6, _, _, false => r1_6f
  | 7, _, _, true => r1_7t
  | 7, _, _, false => r1_7f
  | k + 8, h, _, _ => absurd h (by omega)
theorem any2 : ∀ k, k < 8 → k ≠ 0 → ∀ b2 : Bool, run tC (n2 k) b2 = true
  | 0, _, h, _ => absurd rfl h
  | 1, _, _, true => r2_1t
  | 1, _, _, false => r2_1f
  | 2, _, _, true => r2_2t
  | 2, _, _, false => r2_2f
  | 3, _, _, true => r2_3t
  | 3, _, _, false => r2_3f
  | 4, _, _, true => r2_4t
  | 4, _, _, false => r2_4f
  | 5, _, _, true => r2_5t
  | 5, _, _, false => r2_5f
  | 6, _, _, true => r2_6t
  | 6, _, _, false => r2_6f
  | 7, _, _, true => r2_7t
  | 7, _, _, false => r2_7f
  | k + 8, h, _, _ => absurd h (by omega)
theorem any3 : ∀ k, k < 8 → k ≠ 0 → ∀ b2 : Bool, run tC (n3 k) b2 = true
  | 0, _, h, _ => absurd rfl h
  | 1, _, _, true => r3_1t
  | 1, _, _, false => r3_1f
  | 2, _, _, true => r3_2t
  | 2, _, _, false => r3_2f
  | 3, _, _, true => r3_3t
  | 3, _, _, false => r3_3f
  | 4, _, _, true => r3_4t
  | 4, _, _, false => r3_4f
  | 5, _, _, true => r3_5t
  | 5, _, _, false => r3_5f
  | 6, _, _, true => r3_6t
  | 6, _, _, false => r3_6f
  | 7, _, _, true => r3_7t
  | 7, _, _, false => r3_7f
  | k + 8, h, _, _ => absurd h (by omega)
theorem any4 : ∀ k, k < 8 → ∀ b2 : Bool, run tD (n4 k) b2 = true
  | 0, _, true => r4_0t
  | 0, _, false => r4_0f
  | 1, _, true => r4_1t
  | 1, _, false => r4_1f
  | 2, _, true => r4_2t
  | 2, _, false => r4_2f
  | 3, _, true => r4_3t
  | 3, _, false => r4_3f
  | 4, _, true => r4_4t
  | 4, _, false => r4_4f
  | 5, _, true => r4_5t
  | 5, _, false => r4_5f
  | 6, _, true => r4_6t
  | 6, _, false => r4_6f
  | 7, _, true => r4_7t
  | 7, _, false => r4_7f
  | k + 8, h, _ => absurd h (by omega)
def sig (a0 a1 : Int) : Sig := fun i => match i with | 0 => a0 | _ => a1
def bnd (a1 : Int) : Nat → Int × Int := fun i => match i with | 0 => (0, 32767) | _ => (a1, a1)
theorem hbnd {a0 a1 : Int} (h0 : 0 ≤ a0) (h1 : a0 ≤ 32767) : ∀ i, (bnd a1 i).1 ≤ (sig a0 a1) i ∧ (sig a0 a1) i ≤ (bnd a1 i).2
  | 0 => ⟨h0, h1⟩
  | _ + 1 => ⟨Int.le_refl _, Int.le_refl _⟩
theorem off (x : Int) (h0 : 0 ≤ x) (h1 : x < 64) : binDen .and .u64 (binDen .shr .u64 x 0) 63 = x := by
  obtain ⟨n, rfl⟩ := Int.eq_ofNat_of_zero_le h0
  have hn : n < 64 := by omega
  have h2 : binDen .shr .u64 (n : Int) 0 = (n : Int) := by simp [binDen]
  rw [h2]
  have h3 : ∀ n, n < 64 → binDen .and .u64 ((n : Nat) : Int) 63 = (n : Int) := by decide +kernel
  exact h3 n hn
set_option maxRecDepth 100000 in
theorem walk (a0 : Int) (a1 : Int) (b2 : Bool)  (w0 : (Lit.int .u64 a0).wf = true) (w1 : (Lit.int .u64 a1).wf = true) (w : World) : Calls Tryz.prog 14 #[.int .u64 a0, .int .u64 a1, .bool b2] w fun e w' => e = .returned (.bool true) ∧ Grown w w' := by
  have hv : F2 (AVR rho0 (sig a0 a1)) [.one (.sym .u64 (.var 0)), .one (.sym .u64 (.var 1)), .one (.bool b2)] [.int .u64 a0, .int .u64 a1, .bool b2] := (.cons rfl (.cons rfl (.cons rfl .nil)))
  have wf0 : 0 ≤ a0 ∧ a0 < 18446744073709551616 := by
    have h1 : IntKind.u64.min ≤ a0 ∧ a0 ≤ IntKind.u64.max := by simpa [Lit.wf] using w0
    have h2 : IntKind.u64.min = 0 := by decide
    have h3 : IntKind.u64.max = 18446744073709551615 := by decide
    omega
  by_cases hA : a0 ≥ 32768
  · exact leafW (show says true (eval (cfgW (s59 :: s132 :: [s19]) tA [] lst) 300 X0 (.call 14 [.one (.sym .u64 (.var 0)), .one (.sym .u64 (.var 1)), .one (.bool b2)]) ⟨.nil, 0⟩) = true from anyA b2) (gs59 _) (.cons (show CFok (sig a0 a1) ⟨.geq, .var 0, .lit 32768, true⟩ from decide_eq_true hA) .nil) .nil (fun C hC => .cons (aw58 _ C hC) .nil) hv w
  · by_cases hB : a0.tmod 8 = 0
    · have hb := hbnd (a1 := a1) wf0.1 (show a0 ≤ 32767 by omega)
      have hB' : a0 % 8 = 0 := by rw [← IntWalk.rem_in a0 8 wf0.1]; exact hB
      obtain ⟨k1, e1⟩ := Int.eq_ofNat_of_zero_le (show 0 ≤ a0 / 64 / 8 / 8 % 8 by omega)
      obtain ⟨k2, e2⟩ := Int.eq_ofNat_of_zero_le (show 0 ≤ a0 / 64 / 8 % 8 by omega)
      obtain ⟨k3, e3⟩ := Int.eq_ofNat_of_zero_le (show 0 ≤ a0 / 64 % 8 by omega)
      by_cases z1 : k1 = 0
      · by_cases z2 : k2 = 0
        · by_cases z3 : k3 = 0
          · obtain ⟨k, e⟩ := Int.eq_ofNat_of_zero_le (show 0 ≤ a0 / 8 by omega)
            have hk : k < 8 := by omega
            have ho : NFok (sig a0 a1) ⟨(.bin .and .u64 (.bin .shr .u64 (.var 0) (.lit 0)) (.lit 63)), Int.ofNat (8 * k)⟩ := by
              show binDen .and .u64 (binDen .shr .u64 a0 0) 63 = Int.ofNat (8 * k)
              rw [off a0 wf0.1 (by omega)]
              simp only [Int.ofNat_eq_natCast]
              omega
            exact leafW (show says true (eval (cfgW (s59 :: s132 :: [s19]) tD (n4 k) lst) 300 X0 (.call 14 [.one (.sym .u64 (.var 0)), .one (.sym .u64 (.var 1)), .one (.bool b2)]) ⟨.nil, 0⟩) = true from any4 k hk b2) (gs59 _) (.cons (CFok.ex hb (f := ⟨.geq, .var 0, .lit 32768, false⟩) rfl rfl (by simp only [E.ex, sig, cmpDen]; exact decide_eq_false (by omega))) (.cons (CFok.ex hb (f := ⟨.lss, (.conv .i64 (.bin .quo .u64 (.var 0) (.lit 64))), .lit 0, false⟩) rfl rfl (by simp only [E.ex, exBin, sig, cmpDen]; exact decide_eq_false (by omega))) (.cons (CFok.ex hb (f := ⟨.geq, (.conv .i64 (.bin .quo .u64 (.var 0) (.lit 64))), .lit 512, false⟩) rfl rfl (by simp only [E.ex, exBin, sig, cmpDen]; exact decide_eq_false (by omega))) (.cons (CFok.ex hb (f := ⟨.lss, .var 0, .lit 64, true⟩) rfl rfl (by simp only [E.ex, sig, cmpDen]; exact decide_eq_true (by omega))) .nil)))) (.cons (NFok.ex hb (f := ⟨(.bin .rem .u64 (.var 0) (.lit 8)), 0⟩) rfl (by simp only [E.ex, exBin, sig]; omega)) (.cons (NFok.ex hb (f := ⟨(.bin .rem .i64 (.bin .quo .i64 (.bin .quo .i64 (.conv .i64 (.bin .quo .u64 (.var 0) (.lit 64))) (.lit 8)) (.lit 8)) (.lit 8)), 0⟩) rfl (by simp only [E.ex, exBin, sig]; omega)) (.cons (NFok.ex hb (f := ⟨(.bin .rem .i64 (.bin .quo .i64 (.conv .i64 (.bin .quo .u64 (.var 0) (.lit 64))) (.lit 8)) (.lit 8)), 0⟩) rfl (by simp only [E.ex, exBin, sig]; omega)) (.cons (NFok.ex hb (f := ⟨(.bin .rem .i64 (.conv .i64 (.bin .quo .u64 (.var 0) (.lit 64))) (.lit 8)), 0⟩) rfl (by simp only [E.ex, exBin, sig]; omega)) (.cons (NFok.ex hb (f := ⟨(.bin .rem .i64 (.conv .i64 (.bin .quo .u64 (.var 0) (.lit 64))) (.lit 4)), 0⟩) rfl (by simp only [E.ex, exBin, sig]; omega)) (.cons ho .nil)))))) (fun C hC => .cons (aw58 _ C hC) .nil) hv w
          · exact leafW (show says true (eval (cfgW (s59 :: s132 :: [s19]) tC (n3 k3) lst) 300 X0 (.call 14 [.one (.sym .u64 (.var 0)), .one (.sym .u64 (.var 1)), .one (.bool b2)]) ⟨.nil, 0⟩) = true from any3 k3 (by omega) z3 b2) (gs59 _) (.cons (CFok.ex hb (f := ⟨.geq, .var 0, .lit 32768, false⟩) rfl rfl (by simp only [E.ex, sig, cmpDen]; exact decide_eq_false (by omega))) (.cons (CFok.ex hb (f := ⟨.lss, (.conv .i64 (.bin .quo .u64 (.var 0) (.lit 64))), .lit 0, false⟩) rfl rfl (by simp only [E.ex, exBin, sig, cmpDen]; exact decide_eq_false (by omega))) (.cons (CFok.ex hb (f := ⟨.geq, (.conv .i64 (.bin .quo .u64 (.var 0) (.lit 64))), .lit 512, false⟩) rfl rfl (by simp only [E.ex, exBin, sig, cmpDen]; exact decide_eq_false (by omega))) .nil))) (.cons (NFok.ex hb (f := ⟨(.bin .rem .u64 (.var 0) (.lit 8)), 0⟩) rfl (by simp only [E.ex, exBin, sig]; omega)) (.cons (NFok.ex hb (f := ⟨(.bin .rem .i64 (.bin .quo .i64 (.bin .quo .i64 (.conv .i64 (.bin .quo .u64 (.var 0) (.lit 64))) (.lit 8)) (.lit 8)) (.lit 8)), 0⟩) rfl (by simp only [E.ex, exBin, sig]; omega)) (.cons (NFok.ex hb (f := ⟨(.bin .rem .i64 (.bin .quo .i64 (.conv .i64 (.bin .quo .u64 (.var 0) (.lit 64))) (.lit 8)) (.lit 8)), 0⟩) rfl (by simp only [E.ex, exBin, sig]; omega)) (.cons (NFok.ex hb (f := ⟨(.bin .rem .i64 (.conv .i64 (.bin .quo .u64 (.var 0) (.lit 64))) (.lit 8)), Int.ofNat k3⟩) rfl (by simp only [E.ex, exBin, sig]; simp only [Int.ofNat_eq_natCast]; omega)) .nil)))) (fun C hC => .cons (aw58 _ C hC) .nil) hv w
        · exact leafW (show says true (eval (cfgW (s59 :: s132 :: [s19]) tC (n2 k2) lst) 300 X0 (.call 14 [.one (.sym .u64 (.var 0)), .one (.sym .u64 (.var 1)), .one (.bool b2)]) ⟨.nil, 0⟩) = true from any2 k2 (by omega) z2 b2) (gs59 _) (.cons (CFok.ex hb (f := ⟨.geq, .var 0, .lit 32768, false⟩) rfl rfl (by simp only [E.ex, sig, cmpDen]; exact decide_eq_false (by omega))) (.cons (CFok.ex hb (f := ⟨.lss, (.conv .i64 (.bin .quo .u64 (.var 0) (.lit 64))), .lit 0, false⟩) rfl rfl (by simp only [E.ex, exBin, sig, cmpDen]; exact decide_eq_false (by omega))) (.cons (CFok.ex hb (f := ⟨.geq, (.conv .i64 (.bin .quo .u64 (.var 0) (.lit 64))), .lit 512, false⟩) rfl rfl (by simp only [E.ex, exBin, sig, cmpDen]; exact decide_eq_false (by omega))) .nil))) (.cons (NFok.ex hb (f := ⟨(.bin .rem .u64 (.var 0) (.lit 8)), 0⟩) rfl (by simp only [E.ex, exBin, sig]; omega)) (.cons (NFok.ex hb (f := ⟨(.bin .rem .i64 (.bin .quo .i64 (.bin .quo .i64 (.conv .i64 (.bin .quo .u64 (.var 0) (.lit 64))) (.lit 8)) (.lit 8)) (.lit 8)), 0⟩) rfl (by simp only [E.ex, exBin, sig]; omega)) (.cons (NFok.ex hb (f := ⟨(.bin .rem .i64 (.bin .quo .i64 (.conv .i64 (.bin .quo .u64 (.var 0) (.lit 64))) (.lit 8)) (.lit 8)), Int.ofNat k2⟩) rfl (by simp only [E.ex, exBin, sig]; simp only [Int.ofNat_eq_natCast]; omega)) .nil))) (fun C hC => .cons (aw58 _ C hC) .nil) hv w
      · exact leafW (show says true (eval (cfgW (s59 :: s132 :: [s19]) tC (n1 k1) lst) 300 X0 (.call 14 [.one (.sym .u64 (.var 0)), .one (.sym .u64 (.var 1)), .one (.bool b2)]) ⟨.nil, 0⟩) = true from any1 k1 (by omega) z1 b2) (gs59 _) (.cons (CFok.ex hb (f := ⟨.geq, .var 0, .lit 32768, false⟩) rfl rfl (by simp only [E.ex, sig, cmpDen]; exact decide_eq_false (by omega))) (.cons (CFok.ex hb (f := ⟨.lss, (.conv .i64 (.bin .quo .u64 (.var 0) (.lit 64))), .lit 0, false⟩) rfl rfl (by simp only [E.ex, exBin, sig, cmpDen]; exact decide_eq_false (by omega))) (.cons (CFok.ex hb (f := ⟨.geq, (.conv .i64 (.bin .quo .u64 (.var 0) (.lit 64))), .lit 512, false⟩) rfl rfl (by simp only [E.ex, exBin, sig, cmpDen]; exact decide_eq_false (by omega))) .nil))) (.cons (NFok.ex hb (f := ⟨(.bin .rem .u64 (.var 0) (.lit 8)), 0⟩) rfl (by simp only [E.ex, exBin, sig]; omega)) (.cons (NFok.ex hb (f := ⟨(.bin .rem .i64 (.bin .quo .i64 (.bin .quo .i64 (.conv .i64 (.bin .quo .u64 (.var 0) (.lit 64))) (.lit 8)) (.lit 8)) (.lit 8)), Int.ofNat k1⟩) rfl (by simp only [E.ex, exBin, sig]; simp only [Int.ofNat_eq_natCast]; omega)) .nil)) (fun C hC => .cons (aw58 _ C hC) .nil) hv w
    · exact leafW (show says true (eval (cfgW (s59 :: s132 :: [s19]) tB [] lst) 300 X0 (.call 14 [.one (.sym .u64 (.var 0)), .one (.sym .u64 (.var 1)), .one (.bool b2)]) ⟨.nil, 0⟩) = true from anyB b2) (gs59 _) (.cons (show CFok (sig a0 a1) ⟨.geq, .var 0, .lit 32768, false⟩ from decide_eq_false hA) (.cons (show CFok (sig a0 a1) ⟨.neq, (.bin .rem .u64 (.var 0) (.lit 8)), .lit 0, true⟩ from bne_iff_ne.2 hB) .nil)) .nil (fun C hC => .cons (aw58 _ C hC) .nil) hv w
end faultAloneW
