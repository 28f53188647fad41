/- AuditBoots: New, up to the objects that are made: 3 threads, no shared endpoint. No conditions. -/
import Derived.Test.YtikjmnimdlcehaaGreatBG
set_option linter.unusedVariables false
open Go Eng Go.Proofs Go.RowKit
set_option maxRecDepth 100000
namespace Boots
open Base
theorem p1_P3A1_0 : p1M 33 3 (.lit 4) 1 3 false mP3A1 = true := by decide +kernel
theorem p1_P3A1_1 : p1M 36 3 (.lit 5) 1 3 false mP3A1 = true := by decide +kernel
theorem p1_P3A1_2 : p1M 39 3 (.lit 6) 1 3 false mP3A1 = true := by decide +kernel
theorem p1_P3A1_3 : p1M 42 3 (.lit 7) 1 3 false mP3A1 = true := by decide +kernel
theorem p1_P3A1_4 : p1M 45 3 (.lit 8) 1 3 false mP3A1 = true := by decide +kernel
theorem p1_P3A1_5 : p1M 48 3 (.lit 9) 1 3 false mP3A1 = true := by decide +kernel
theorem p1_P3A1_6 : p1M 51 3 (.lit 10) 1 3 false mP3A1 = true := by decide +kernel
theorem p1_P3A1_7 : p1M 54 3 (.lit 11) 1 3 false mP3A1 = true := by decide +kernel
theorem p1_P3A1_8 : p1M 57 3 (.lit 12) 1 3 false mP3A1 = true := by decide +kernel
theorem p1_P3A1_9 : p1M 60 3 (.lit 13) 1 3 false mP3A1 = true := by decide +kernel
theorem p1_P3A1_10 : p1M 63 2 (.lit 14) 1 3 false mP3A1 = true := by decide +kernel
theorem p1_P3A2_0 : p1M 33 3 (.lit 4) 2 3 false mP3A2 = true := by decide +kernel
theorem p1_P3A2_1 : p1M 36 3 (.lit 5) 2 3 false mP3A2 = true := by decide +kernel
theorem p1_P3A2_2 : p1M 39 3 (.lit 6) 2 3 false mP3A2 = true := by decide +kernel
theorem p1_P3A2_3 : p1M 42 3 (.lit 7) 2 3 false mP3A2 = true := by decide +kernel
theorem p1_P3A2_4 : p1M 45 3 (.lit 8) 2 3 false mP3A2 = true := by decide +kernel
theorem p1_P3A2_5 : p1M 48 3 (.lit 9) 2 3 false mP3A2 = true := by decide +kernel
theorem p1_P3A2_6 : p1M 51 3 (.lit 10) 2 3 false mP3A2 = true := by decide +kernel
theorem p1_P3A2_7 : p1M 54 3 (.lit 11) 2 3 false mP3A2 = true := by decide +kernel
theorem p1_P3A2_8 : p1M 57 3 (.lit 12) 2 3 false mP3A2 = true := by decide +kernel
theorem p1_P3A2_9 : p1M 60 3 (.lit 13) 2 3 false mP3A2 = true := by decide +kernel
theorem p1_P3A2_10 : p1M 63 2 (.lit 14) 2 3 false mP3A2 = true := by decide +kernel
theorem p1_P3A3_0 : p1M 33 3 (.lit 4) 3 3 false mP3A3 = true := by decide +kernel
theorem p1_P3A3_1 : p1M 36 3 (.lit 5) 3 3 false mP3A3 = true := by decide +kernel
theorem p1_P3A3_2 : p1M 39 3 (.lit 6) 3 3 false mP3A3 = true := by decide +kernel
theorem p1_P3A3_3 : p1M 42 3 (.lit 7) 3 3 false mP3A3 = true := by decide +kernel
theorem p1_P3A3_4 : p1M 45 3 (.lit 8) 3 3 false mP3A3 = true := by decide +kernel
theorem p1_P3A3_5 : p1M 48 3 (.lit 9) 3 3 false mP3A3 = true := by decide +kernel
theorem p1_P3A3_6 : p1M 51 3 (.lit 10) 3 3 false mP3A3 = true := by decide +kernel
theorem p1_P3A3_7 : p1M 54 3 (.lit 11) 3 3 false mP3A3 = true := by decide +kernel
theorem p1_P3A3_8 : p1M 57 3 (.lit 12) 3 3 false mP3A3 = true := by decide +kernel
theorem p1_P3A3_9 : p1M 60 3 (.lit 13) 3 3 false mP3A3 = true := by decide +kernel
theorem p1_P3A3_10 : p1M 63 2 (.lit 14) 3 3 false mP3A3 = true := by decide +kernel
end Boots
