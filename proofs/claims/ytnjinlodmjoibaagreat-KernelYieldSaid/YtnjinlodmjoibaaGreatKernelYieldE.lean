/- KernelYield: what is evaluated, with which answers. No conditions beside those in its theorems. -/
import Derived.Test.YtnjinlodmjoibaaGreatA18
set_option linter.unusedVariables false
open Go Eng Go.Proofs Go.RowKit
namespace kernelYieldW
open Base
noncomputable def lst (m0 : Nat) : List SumE := ⟨18, [], .one (.bool true)⟩ :: ⟨10, [.one (.sym .i64 (.var 0)), .one (.int .i64 ((8 : Nat) : Int))], .one (.int .i64 (Int.ofNat m0))⟩ :: []
noncomputable def run (m0 : Nat) : Bool := says true (eval (cfgW (s8 :: s40 :: [s32]) [] [] (lst m0)) 300 X0 (.call 3 [.one (.sym .i64 (.var 0))]) ⟨.nil, 0⟩)
theorem okLow0 : isLow 0 ((8 : Nat) : Int) (eval cfg0 100 X0 (.call 10 [.one (.sym .i64 (.var 0)), .one (.int .i64 ((8 : Nat) : Int))]) ⟨.nil, 0⟩) = true := by decide +kernel
end kernelYieldW
