/- ReapSelf: what is evaluated, with which answers. No conditions beside those in its theorems. -/
import Derived.Test.YtcdhglfdgmeokaaGreatA37
import Derived.Test.YtcdhglfdgmeokaaGreatIns2
set_option linter.unusedVariables false
open Go Eng Go.Proofs Go.RowKit
namespace reapSelfW
open Base
noncomputable def lst (n k i : Nat) : List SumE := [⟨37, [], .one (.bool true)⟩, ⟨40, [.one (.sym .i64 (.var 0)), .one (.int .i64 ((4 : Nat) : Int))], .one (.int .i64 (Int.ofNat k))⟩, ⟨40, [.one (.sym .i64 (.var 1)), .one (.int .i64 (n : Int))], .one (.int .i64 (Int.ofNat i))⟩]
noncomputable def cfg (l : List SumE) : Cfg := { ty := Tab.tyT.get, fu := Tab.fuT.get, cmp := fun _ _ _ => none, ext := Go.Proofs.Ins.extI (extS 314 5 [392, 423] (extT l)) }
noncomputable def run (n k i : Nat) : Bool := says true (eval (cfg (lst n k i)) 300 X0 (.call 11 [.one (.sym .i64 (.var 0)), .one (.sym .i64 (.var 1))]) ⟨.nil, 0⟩)
noncomputable def okLow (j n : Nat) : Bool := isLow j (n : Int) (eval cfg0 100 X0 (.call 40 [.one (.sym .i64 (.var j)), .one (.int .i64 (n : Int))]) ⟨.nil, 0⟩)
theorem low0 : okLow 0 4 = true := by decide +kernel
theorem low2 : okLow 1 2 = true := by decide +kernel
theorem low4 : okLow 1 4 = true := by decide +kernel
theorem low8 : okLow 1 8 = true := by decide +kernel
theorem low16 : okLow 1 16 = true := by decide +kernel
end reapSelfW
