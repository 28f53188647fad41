/- AuditBoots: New, up to the objects that are made: one thread. No conditions. -/
import Derived.Test.YtikjmnimdlcehaaGreatBG
set_option linter.unusedVariables false
open Go Eng Go.Proofs Go.RowKit
set_option maxRecDepth 100000
namespace Boots
open Base
theorem p1_P1A1_0 : p1M 11 54 (.bin .quo .i64 (.bin .sub .i64 (.var 0) (.lit 7)) (.lit 1)) 1 1 false mP1A1 = true := by decide +kernel
theorem p1_P1A2_0 : p1M 11 54 (.bin .quo .i64 (.bin .sub .i64 (.var 0) (.lit 7)) (.lit 1)) 2 1 false mP1A2 = true := by decide +kernel
theorem p1_P1A3_0 : p1M 11 54 (.bin .quo .i64 (.bin .sub .i64 (.var 0) (.lit 7)) (.lit 1)) 3 1 false mP1A3 = true := by decide +kernel
theorem p1_S1A1_0 : p1M 11 54 (.bin .quo .i64 (.bin .sub .i64 (.var 0) (.lit 8)) (.lit 1)) 1 1 true mS1A1 = true := by decide +kernel
theorem p1_S1A2_0 : p1M 11 54 (.bin .quo .i64 (.bin .sub .i64 (.var 0) (.lit 8)) (.lit 1)) 2 1 true mS1A2 = true := by decide +kernel
theorem p1_S1A3_0 : p1M 11 54 (.bin .quo .i64 (.bin .sub .i64 (.var 0) (.lit 8)) (.lit 1)) 3 1 true mS1A3 = true := by decide +kernel
end Boots
