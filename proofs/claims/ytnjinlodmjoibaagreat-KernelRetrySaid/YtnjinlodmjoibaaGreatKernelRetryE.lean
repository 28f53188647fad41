/- KernelRetry: what is evaluated, with which facts. No conditions beside those in its theorems. -/
import Derived.Test.YtnjinlodmjoibaaGreatA18
import Derived.Test.YtnjinlodmjoibaaGreatPU
import Derived.Test.YtnjinlodmjoibaaGreatFlat
set_option linter.unusedVariables false
open Go Eng Go.Proofs Go.RowKit
namespace kernelRetryW
open Base
noncomputable def lst : List SumE := ⟨18, [], .one (.bool true)⟩ :: pures
def nt (k : Nat) : List NF := [⟨.bin .quo .u64 (.bin .rem .u64 (.var 15) (.lit 64)) (.lit 8), Int.ofNat k⟩]
def tE : List CF := [⟨.neq, .var 0, .lit 2, true⟩, ⟨.eql, .var 0, .lit 2, false⟩, ⟨.neq, .var 0, .lit 3, true⟩, ⟨.eql, .var 0, .lit 3, false⟩, ⟨.neq, .var 0, .lit 4, true⟩, ⟨.eql, .var 0, .lit 4, false⟩]
noncomputable def run (kk : A) (t : List CF) (k : Nat) : Bool := says true (eval (cfgW (s8 :: s40 :: [s32]) t (nt k) lst) 300 X0 (.call 4 [.agg [kk, .sym .i64 (.var 1), .sym .i64 (.var 2), .sym .u64 (.var 3), .sym .u64 (.var 4), .sym .u64 (.var 5), .sym .u64 (.var 6), .sym .u64 (.var 7), .sym .u64 (.var 8), .sym .u64 (.var 9), .sym .u64 (.var 10), .sym .u64 (.var 11), .sym .i64 (.var 12), .sym .i64 (.var 13), .sym .i64 (.var 14)], .one (.sym .u64 (.var 15))]) ⟨.nil, 0⟩)
end kernelRetryW
