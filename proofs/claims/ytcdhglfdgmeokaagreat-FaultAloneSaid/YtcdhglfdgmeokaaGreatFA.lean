/- FaultAlone: what is evaluated, with which facts. No conditions beside those in its theorems. -/
import Derived.Test.YtcdhglfdgmeokaaGreatA58
set_option linter.unusedVariables false
open Go Eng Go.Proofs Go.RowKit
namespace faultAloneW
open Base
noncomputable def lst : List SumE := [⟨58, [], .one (.bool true)⟩]
noncomputable def tA : List CF := [⟨.geq, .var 0, .lit 32768, true⟩]
noncomputable def tB : List CF := [⟨.geq, .var 0, .lit 32768, false⟩, ⟨.neq, (.bin .rem .u64 (.var 0) (.lit 8)), .lit 0, true⟩]
noncomputable def tC : List CF := [⟨.geq, .var 0, .lit 32768, false⟩, ⟨.lss, (.conv .i64 (.bin .quo .u64 (.var 0) (.lit 64))), .lit 0, false⟩, ⟨.geq, (.conv .i64 (.bin .quo .u64 (.var 0) (.lit 64))), .lit 512, false⟩]
noncomputable def tD : List CF := [⟨.geq, .var 0, .lit 32768, false⟩, ⟨.lss, (.conv .i64 (.bin .quo .u64 (.var 0) (.lit 64))), .lit 0, false⟩, ⟨.geq, (.conv .i64 (.bin .quo .u64 (.var 0) (.lit 64))), .lit 512, false⟩, ⟨.lss, .var 0, .lit 64, true⟩]
noncomputable def n1 (k : Nat) : List NF := [⟨(.bin .rem .u64 (.var 0) (.lit 8)), 0⟩, ⟨(.bin .rem .i64 (.bin .quo .i64 (.bin .quo .i64 (.conv .i64 (.bin .quo .u64 (.var 0) (.lit 64))) (.lit 8)) (.lit 8)) (.lit 8)), Int.ofNat k⟩]
noncomputable def n2 (k : Nat) : List NF := [⟨(.bin .rem .u64 (.var 0) (.lit 8)), 0⟩, ⟨(.bin .rem .i64 (.bin .quo .i64 (.bin .quo .i64 (.conv .i64 (.bin .quo .u64 (.var 0) (.lit 64))) (.lit 8)) (.lit 8)) (.lit 8)), 0⟩, ⟨(.bin .rem .i64 (.bin .quo .i64 (.conv .i64 (.bin .quo .u64 (.var 0) (.lit 64))) (.lit 8)) (.lit 8)), Int.ofNat k⟩]
noncomputable def n3 (k : Nat) : List NF := [⟨(.bin .rem .u64 (.var 0) (.lit 8)), 0⟩, ⟨(.bin .rem .i64 (.bin .quo .i64 (.bin .quo .i64 (.conv .i64 (.bin .quo .u64 (.var 0) (.lit 64))) (.lit 8)) (.lit 8)) (.lit 8)), 0⟩, ⟨(.bin .rem .i64 (.bin .quo .i64 (.conv .i64 (.bin .quo .u64 (.var 0) (.lit 64))) (.lit 8)) (.lit 8)), 0⟩, ⟨(.bin .rem .i64 (.conv .i64 (.bin .quo .u64 (.var 0) (.lit 64))) (.lit 8)), Int.ofNat k⟩]
noncomputable def n4 (k : Nat) : List NF := [⟨(.bin .rem .u64 (.var 0) (.lit 8)), 0⟩, ⟨(.bin .rem .i64 (.bin .quo .i64 (.bin .quo .i64 (.conv .i64 (.bin .quo .u64 (.var 0) (.lit 64))) (.lit 8)) (.lit 8)) (.lit 8)), 0⟩, ⟨(.bin .rem .i64 (.bin .quo .i64 (.conv .i64 (.bin .quo .u64 (.var 0) (.lit 64))) (.lit 8)) (.lit 8)), 0⟩, ⟨(.bin .rem .i64 (.conv .i64 (.bin .quo .u64 (.var 0) (.lit 64))) (.lit 8)), 0⟩, ⟨(.bin .rem .i64 (.conv .i64 (.bin .quo .u64 (.var 0) (.lit 64))) (.lit 4)), 0⟩, ⟨(.bin .and .u64 (.bin .shr .u64 (.var 0) (.lit 0)) (.lit 63)), Int.ofNat (8 * k)⟩]
noncomputable def run (t : List CF) (n : List NF) (b2 : Bool) : Bool := says true (eval (cfgW (s59 :: s132 :: [s19]) t n lst) 300 X0 (.call 14 [.one (.sym .u64 (.var 0)), .one (.sym .u64 (.var 1)), .one (.bool b2)]) ⟨.nil, 0⟩)
end faultAloneW
