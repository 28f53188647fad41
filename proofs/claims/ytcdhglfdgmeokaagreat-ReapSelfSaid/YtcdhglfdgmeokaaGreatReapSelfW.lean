/- ReapSelf: the call answers true, of any two numbers. No conditions beside those in its theorems. -/
import Derived.Test.YtcdhglfdgmeokaaGreatRS0
import Derived.Test.YtcdhglfdgmeokaaGreatRS1
import Derived.Test.YtcdhglfdgmeokaaGreatRS2
set_option linter.unusedVariables false
open Go Eng Go.Proofs Go.RowKit
namespace reapSelfW
open Base
theorem any0 : ∀ i, i < 2 → run 2 0 i = true
  | 0, _ => r0_0
  | 1, _ => r0_1
  | i + 2, h => absurd h (by omega)
theorem any1 : ∀ i, i < 4 → run 4 1 i = true
  | 0, _ => r1_0
  | 1, _ => r1_1
  | 2, _ => r1_2
  | 3, _ => r1_3
  | i + 4, h => absurd h (by omega)
theorem any2 : ∀ i, i < 8 → run 8 2 i = true
  | 0, _ => r2_0
  | 1, _ => r2_1
  | 2, _ => r2_2
  | 3, _ => r2_3
  | 4, _ => r2_4
  | 5, _ => r2_5
  | 6, _ => r2_6
  | 7, _ => r2_7
  | i + 8, h => absurd h (by omega)
theorem any3 : ∀ i, i < 16 → run 16 3 i = true
  | 0, _ => r3_0
  | 1, _ => r3_1
  | 2, _ => r3_2
  | 3, _ => r3_3
  | 4, _ => r3_4
  | 5, _ => r3_5
  | 6, _ => r3_6
  | 7, _ => r3_7
  | 8, _ => r3_8
  | 9, _ => r3_9
  | 10, _ => r3_10
  | 11, _ => r3_11
  | 12, _ => r3_12
  | 13, _ => r3_13
  | 14, _ => r3_14
  | 15, _ => r3_15
  | i + 16, h => absurd h (by omega)
def sig (a0 a1 : Int) : Sig := fun i => match i with | 0 => a0 | _ => a1
theorem leaf {n k i : Nat} {a0 a1 : Int} (hr : run n k i = true) (h0 : low ((4 : Nat) : Int) a0 = Int.ofNat k) (hk : k < 4) (hn : okLow 1 n = true) (hn2 : n ≤ 1000) (h1 : low (n : Int) a1 = Int.ofNat i) (hi : i < n) (w : World) :
    Calls Tryz.prog 11 #[.int .i64 a0, .int .i64 a1] w fun e w' => e = .returned (.bool true) ∧ Grown w w' := by
  have hc : CfgOK Tryz.prog (cfg (lst n k i)) (sig a0 a1) := ok _ _ _ _ (fun _ _ _ _ h => nomatch h) (fun _ _ h => nomatch h)
  have hl : Al (Summ Tryz.prog (sig a0 a1) (cfg (lst n k i))) (lst n k i) := .cons (aw37 _ _ rfl) (.cons (summLow _ rfl _ low0 (by omega) h0 hk) (.cons (summLow _ rfl _ (i := 1) hn hn2 h1 hi) .nil))
  have hx : ExtOK (cfg (lst n k i)) Tryz.prog (sig a0 a1) := (Go.Proofs.Ins.extI_ok (ExtS.sort sortOK (ExtS.of hl))).ok rfl
  have hv : F2 (AVR rho0 (sig a0 a1)) [.one (.sym .i64 (.var 0)), .one (.sym .i64 (.var 1))] [.int .i64 a0, .int .i64 a1] := (.cons rfl (.cons rfl .nil))
  exact calls_true hc hx hr hv w
set_option maxRecDepth 100000 in
theorem walk (a0 : Int) (a1 : Int)   (w : World) : Calls Tryz.prog 11 #[.int .i64 a0, .int .i64 a1] w fun e w' => e = .returned (.bool true) ∧ Grown w w' := by
  obtain ⟨k, hk, h0⟩ := low_nat (n := 4) (by omega) a0
  match k, hk, h0 with
  | 0, hk, h0 =>
    obtain ⟨i, hi, h1⟩ := low_nat (n := 2) (by omega) a1
    exact leaf (any0 i hi) h0 hk low2 (by omega) h1 hi w
  | 1, hk, h0 =>
    obtain ⟨i, hi, h1⟩ := low_nat (n := 4) (by omega) a1
    exact leaf (any1 i hi) h0 hk low4 (by omega) h1 hi w
  | 2, hk, h0 =>
    obtain ⟨i, hi, h1⟩ := low_nat (n := 8) (by omega) a1
    exact leaf (any2 i hi) h0 hk low8 (by omega) h1 hi w
  | 3, hk, h0 =>
    obtain ⟨i, hi, h1⟩ := low_nat (n := 16) (by omega) a1
    exact leaf (any3 i hi) h0 hk low16 (by omega) h1 hi w
  | k + 4, hk, _ => exact absurd hk (by omega)
end reapSelfW
