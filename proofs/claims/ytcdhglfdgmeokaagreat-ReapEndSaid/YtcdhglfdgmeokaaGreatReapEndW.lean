/- ReapEnd: the call answers true, of any arguments. No conditions. -/
import Derived.Test.YtcdhglfdgmeokaaGreatA37
set_option linter.unusedVariables false
open Go Eng Go.Proofs Go.RowKit
namespace reapEndW
open Base
noncomputable def lst (m : Nat) : List SumE := [⟨37, [], .one (.bool true)⟩]
noncomputable def nt (k0 k : Nat) : List NF := [⟨.bin .and .i64 (.var 0) (.lit 1), Int.ofNat k0⟩]
noncomputable def run (k0 : Nat) (b1 : Bool) : Bool := says true (eval (cfgW [s19] [] (nt k0 0) (lst  0)) 300 X0 (.call 10 [.one (.sym .i64 (.var 0)), .one (.bool b1)]) ⟨.nil, 0⟩)
theorem r0t : run 0 true = true := by decide +kernel
theorem r0f : run 0 false = true := by decide +kernel
theorem r1t : run 1 true = true := by decide +kernel
theorem r1f : run 1 false = true := by decide +kernel
theorem any : ∀ k, k ≤ 1 → ∀ b1 : Bool, run k b1 = true
  | 0, _, true => r0t
  | 0, _, false => r0f
  | 1, _, true => r1t
  | 1, _, false => r1f
  | k + 2, h, _ => absurd h (by omega)
def sig (a0 : Int) : Sig := fun i => match i with  | _ => a0
set_option maxRecDepth 100000 in
theorem walk (a0 : Int) (b1 : Bool)   (w : World) : Calls Tryz.prog 10 #[.int .i64 a0, .bool b1] w fun e w' => e = .returned (.bool true) ∧ Grown w w' := by
  obtain ⟨k, hk, he⟩ := and_small a0 (m := 1) (by omega)
  have hv : F2 (AVR rho0 (sig a0)) [.one (.sym .i64 (.var 0)), .one (.bool b1)] [.int .i64 a0, .bool b1] := (.cons rfl (.cons rfl .nil))
  have hk : says true (eval (cfgW [s19] [] (nt k 0) (lst 0)) 300 X0 (.call 10 [.one (.sym .i64 (.var 0)), .one (.bool b1)]) ⟨.nil, 0⟩) = true := any k hk b1
  have hn : Al (NFok (sig a0)) (nt k 0) := .cons (show NFok (sig a0) ⟨.bin .and .i64 (.var 0) (.lit 1), Int.ofNat k⟩ from he) .nil
  have hl : ∀ C : Cfg, C.fu = Tab.fuT.get → Al (Summ Tryz.prog (sig a0) C) (lst 0) := fun C hC => .cons (aw37 _ C hC) .nil
  exact leafW hk (gs19 _) .nil hn hl hv w
end reapEndW
