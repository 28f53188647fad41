/- VspaceRemap: what is evaluated, with which answers. No conditions beside those in its theorems. -/
import Derived.Test.YtpiicallicgdkaaGreatA38
import Derived.Test.YtpiicallicgdkaaGreatPU
set_option linter.unusedVariables false
open Go Eng Go.Proofs Go.RowKit
namespace vspaceRemapW
open Base
noncomputable def lst (m0 m1 m2 : Nat) : List SumE := ⟨38, [], .one (.bool true)⟩ :: ⟨11, [.one (.sym .i64 (.var 0)), .one (.int .i64 ((3 : Nat) : Int))], .one (.int .i64 (Int.ofNat m0))⟩ :: ⟨11, [.one (.sym .i64 (.var 1)), .one (.int .i64 ((3 : Nat) : Int))], .one (.int .i64 (Int.ofNat m1))⟩ :: ⟨11, [.one (.sym .i64 (.var 2)), .one (.int .i64 ((8 : Nat) : Int))], .one (.int .i64 (Int.ofNat m2))⟩ :: pures
noncomputable def run (m0 m1 m2 : Nat) : Bool := says true (eval (cfgW (s30 :: [s20]) [] [] (lst m0 m1 m2)) 300 X0 (.call 5 [.one (.sym .i64 (.var 0)), .one (.sym .i64 (.var 1)), .one (.sym .i64 (.var 2)), .one (.sym .u64 (.var 3))]) ⟨.nil, 0⟩)
theorem okLow0 : isLow 0 ((3 : Nat) : Int) (eval cfg0 100 X0 (.call 11 [.one (.sym .i64 (.var 0)), .one (.int .i64 ((3 : Nat) : Int))]) ⟨.nil, 0⟩) = true := by decide +kernel
theorem okLow1 : isLow 1 ((3 : Nat) : Int) (eval cfg0 100 X0 (.call 11 [.one (.sym .i64 (.var 1)), .one (.int .i64 ((3 : Nat) : Int))]) ⟨.nil, 0⟩) = true := by decide +kernel
theorem okLow2 : isLow 2 ((8 : Nat) : Int) (eval cfg0 100 X0 (.call 11 [.one (.sym .i64 (.var 2)), .one (.int .i64 ((8 : Nat) : Int))]) ⟨.nil, 0⟩) = true := by decide +kernel
end vspaceRemapW
