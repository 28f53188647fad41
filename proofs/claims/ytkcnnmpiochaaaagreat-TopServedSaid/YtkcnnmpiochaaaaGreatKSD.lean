/- TopServed: what is evaluated. No conditions beside those in its theorems. -/
import Derived.Test.YtkcnnmpiochaaaaGreatKSMd
set_option linter.unusedVariables false
open Go Eng Go.Proofs Go.RowKit
namespace TopS
open Base
noncomputable def lst (r : Nat) (q : A) : List SumE := ⟨15, [], .one (.bool true)⟩ :: ⟨7, [.one (.sym .i64 (.var 0)), .one (.int .i64 ((512 : Nat) : Int))], .one (.sym .i64 (.var 10))⟩ :: ⟨7, [.one (.sym .i64 (.var 1)), .one (.int .i64 ((8 : Nat) : Int))], .one q⟩ :: ⟨7, [.one (.sym .i64 (.var 2)), .one (.int .i64 ((3 : Nat) : Int))], .one (.int .i64 (Int.ofNat r))⟩ :: pus
/-- a summary is looked for at these functions only -/
noncomputable def cfgG (t : List CF) (n : List NF) (l : List SumE) : Cfg := { cfgM t n l with ext := fun f args h => @Bool.rec (fun _ => Option (AV × H)) none ((cfgM t n l).ext f args h) (hasBit 2239744744524469655325139274778143245928983895389396457659112605491370665665273170485493450366479532224 f) }
noncomputable def args (w : Bool) : List AV := [.one (.sym .i64 (.var 0)), .one (.sym .i64 (.var 1)), .one (.sym .i64 (.var 2)), .one (.bool w), .one (.sym .u64 (.var 4)), .agg [.sym .u64 (.var 5), .sym .u64 (.var 6), .sym .u64 (.var 7), .sym .u64 (.var 8), .sym .u64 (.var 9), .sym .u64 (.var 20), .sym .u64 (.var 21)]]
/-- the access that faults again -/
noncomputable def run (t : List CF) (n : List NF) (r : Nat) (w : Bool) : Bool := says true (eval (cfgG t n (lst r (.sym .i64 (.var 11)))) 300 X0 (.call 4 (args w)) ⟨.nil, 0⟩)
/-- the access that is done: what lies behind it for each place in the frame -/
noncomputable def runT (t : List CF) (n : List NF) (r : Nat) (w : Bool) : Bool := runS (cfgG t n (lst r (.sym .i64 (.var 11)))) (fun k => cfgG (xCo k t) (xNo k n) (lst r (.int .i64 (Int.ofNat k)))) 8 300 4 19 (args w)
end TopS
