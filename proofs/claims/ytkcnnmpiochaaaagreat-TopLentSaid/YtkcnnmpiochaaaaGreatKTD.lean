/- TopLent: what is evaluated. No conditions beside those in its theorems. -/
import Derived.Test.YtkcnnmpiochaaaaGreatKTMd
set_option linter.unusedVariables false
open Go Eng Go.Proofs Go.RowKit
namespace TopL
open Base
noncomputable def lst : List SumE := ⟨15, [], .one (.bool true)⟩ :: ⟨7, [.one (.sym .i64 (.var 0)), .one (.int .i64 ((512 : Nat) : Int))], .one (.sym .i64 (.var 10))⟩ :: ⟨7, [.one (.sym .i64 (.var 1)), .one (.int .i64 ((512 : Nat) : Int))], .one (.sym .i64 (.var 11))⟩ :: ⟨7, [.one (.sym .i64 (.var 2)), .one (.int .i64 ((8 : Nat) : Int))], .one (.sym .i64 (.var 12))⟩ :: pus
/-- a summary is looked for at these functions only -/
noncomputable def cfgG (t : List CF) (n : List NF) : Cfg := { cfgM t n lst with ext := fun f args h => @Bool.rec (fun _ => Option (AV × H)) none ((cfgM t n lst).ext f args h) (hasBit 2239744744524469655325139274778143245928983895389396457659112605491370665665273170485493450349299663040 f) }
noncomputable def run (t : List CF) (n : List NF) : Bool := says true (eval (cfgG t n) 300 X0 (.call 5 [.one (.sym .i64 (.var 0)), .one (.sym .i64 (.var 1)), .one (.sym .i64 (.var 2)), .one (.sym .u64 (.var 3)), .one (.sym .u64 (.var 4))]) ⟨.nil, 0⟩)
end TopL
