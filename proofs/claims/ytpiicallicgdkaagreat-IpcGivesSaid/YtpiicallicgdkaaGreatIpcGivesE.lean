/- IpcGives: what is evaluated, with which answers. No conditions beside those in its theorems. -/
import Derived.Test.YtpiicallicgdkaaGreatA27
import Derived.Test.YtpiicallicgdkaaGreatPU
set_option linter.unusedVariables false
open Go Eng Go.Proofs Go.RowKit
namespace ipcGivesW
open Base
noncomputable def lst (m0 m1 : Nat) : List SumE := ⟨27, [], .one (.bool true)⟩ :: ⟨11, [.one (.sym .i64 (.var 0)), .one (.int .i64 ((17 : Nat) : Int))], .one (.int .i64 (Int.ofNat m0))⟩ :: ⟨11, [.one (.sym .i64 (.var 1)), .one (.int .i64 ((17 : Nat) : Int))], .one (.int .i64 (Int.ofNat m1))⟩ :: pures
noncomputable def run (m0 m1 : Nat) (b2 : Bool) : Bool := says true (eval (cfgW [s20] [] [] (lst m0 m1)) 300 X0 (.call 4 [.one (.sym .i64 (.var 0)), .one (.sym .i64 (.var 1)), .one (.bool b2)]) ⟨.nil, 0⟩)
theorem okLow0 : isLow 0 ((17 : Nat) : Int) (eval cfg0 100 X0 (.call 11 [.one (.sym .i64 (.var 0)), .one (.int .i64 ((17 : Nat) : Int))]) ⟨.nil, 0⟩) = true := by decide +kernel
theorem okLow1 : isLow 1 ((17 : Nat) : Int) (eval cfg0 100 X0 (.call 11 [.one (.sym .i64 (.var 1)), .one (.int .i64 ((17 : Nat) : Int))]) ⟨.nil, 0⟩) = true := by decide +kernel
end ipcGivesW
