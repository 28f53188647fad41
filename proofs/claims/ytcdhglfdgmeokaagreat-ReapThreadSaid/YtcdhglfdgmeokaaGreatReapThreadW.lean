/- ReapThread: the call answers true, of any arguments. No conditions. -/
import Derived.Test.YtcdhglfdgmeokaaGreatA37
set_option linter.unusedVariables false
open Go Eng Go.Proofs Go.RowKit
namespace reapThreadW
open Base
noncomputable def lst (m0 m : Nat) : List SumE := [⟨37, [], .one (.bool true)⟩, ⟨40, [.one (.sym .i64 (.var 0)), .one (.int .i64 ((3 : Nat) : Int))], .one (.int .i64 (Int.ofNat m0))⟩]
noncomputable def nt (k0 k : Nat) : List NF := [⟨.bin .and .i64 (.var 0) (.lit 1), Int.ofNat k0⟩]
noncomputable def run (m0 k0 : Nat) : Bool := says true (eval (cfgW [s19] [] (nt k0 0) (lst m0 0)) 300 X0 (.call 9 [.one (.sym .i64 (.var 0))]) ⟨.nil, 0⟩)
theorem okLow : isLow 0 ((3 : Nat) : Int) (eval cfg0 100 X0 (.call 40 [.one (.sym .i64 (.var 0)), .one (.int .i64 ((3 : Nat) : Int))]) ⟨.nil, 0⟩) = true := by decide +kernel
theorem r0_0 : run 0 0 = true := by decide +kernel
theorem r0_1 : run 0 1 = true := by decide +kernel
theorem r1_0 : run 1 0 = true := by decide +kernel
theorem r1_1 : run 1 1 = true := by decide +kernel
theorem r2_0 : run 2 0 = true := by decide +kernel
theorem r2_1 : run 2 1 = true := by decide +kernel
theorem any : ∀ m, m < 3 → ∀ k, k ≤ 1 → run m k = true
  | 0, _, 0, _ => r0_0
  | 0, _, 1, _ => r0_1
  | 1, _, 0, _ => r1_0
  | 1, _, 1, _ => r1_1
  | 2, _, 0, _ => r2_0
  | 2, _, 1, _ => r2_1
  | m + 3, h, _, _ => absurd h (by omega)
  | _, _, k + 2, h => absurd h (by omega)
def sig (a0 : Int) : Sig := fun i => match i with  | _ => a0
set_option maxRecDepth 100000 in
theorem walk (a0 : Int)   (w : World) : Calls Tryz.prog 9 #[.int .i64 a0] w fun e w' => e = .returned (.bool true) ∧ Grown w w' := by
  obtain ⟨m, hm, hl⟩ := low_nat (n := 3) (by omega) a0
  obtain ⟨k, hk, he⟩ := and_small a0 (m := 1) (by omega)
  have hv : F2 (AVR rho0 (sig a0)) [.one (.sym .i64 (.var 0))] [.int .i64 a0] := (.cons rfl .nil)
  have hk : says true (eval (cfgW [s19] [] (nt k 0) (lst m 0)) 300 X0 (.call 9 [.one (.sym .i64 (.var 0))]) ⟨.nil, 0⟩) = true := any m hm k hk
  have hn : Al (NFok (sig a0)) (nt k 0) := .cons (show NFok (sig a0) ⟨.bin .and .i64 (.var 0) (.lit 1), Int.ofNat k⟩ from he) .nil
  have hl : ∀ C : Cfg, C.fu = Tab.fuT.get → Al (Summ Tryz.prog (sig a0) C) (lst m 0) := fun C hC => .cons (aw37 _ C hC) (.cons (summLow C hC _ okLow (by omega) hl hm) .nil)
  exact leafW hk (gs19 _) .nil hn hl hv w
end reapThreadW
