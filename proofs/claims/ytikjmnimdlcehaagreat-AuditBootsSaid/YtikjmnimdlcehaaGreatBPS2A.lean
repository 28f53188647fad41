/- AuditBoots: New, up to the objects that are made: 2 threads, a shared endpoint. No conditions. -/
import Derived.Test.YtikjmnimdlcehaaGreatBG
set_option linter.unusedVariables false
open Go Eng Go.Proofs Go.RowKit
set_option maxRecDepth 100000
namespace Boots
open Base
theorem p1_S2A1_0 : p1M 22 1 (.lit 3) 1 2 true mS2A1 = true := by decide +kernel
theorem p1_S2A1_1 : p1M 23 2 (.lit 4) 1 2 true mS2A1 = true := by decide +kernel
theorem p1_S2A1_2 : p1M 25 2 (.lit 5) 1 2 true mS2A1 = true := by decide +kernel
theorem p1_S2A1_3 : p1M 27 2 (.lit 6) 1 2 true mS2A1 = true := by decide +kernel
theorem p1_S2A1_4 : p1M 29 2 (.lit 7) 1 2 true mS2A1 = true := by decide +kernel
theorem p1_S2A1_5 : p1M 31 2 (.lit 8) 1 2 true mS2A1 = true := by decide +kernel
theorem p1_S2A1_6 : p1M 33 2 (.lit 9) 1 2 true mS2A1 = true := by decide +kernel
theorem p1_S2A1_7 : p1M 35 2 (.lit 10) 1 2 true mS2A1 = true := by decide +kernel
theorem p1_S2A1_8 : p1M 37 2 (.lit 11) 1 2 true mS2A1 = true := by decide +kernel
theorem p1_S2A1_9 : p1M 39 2 (.lit 12) 1 2 true mS2A1 = true := by decide +kernel
theorem p1_S2A1_10 : p1M 41 2 (.lit 13) 1 2 true mS2A1 = true := by decide +kernel
theorem p1_S2A1_11 : p1M 43 2 (.lit 14) 1 2 true mS2A1 = true := by decide +kernel
theorem p1_S2A1_12 : p1M 45 2 (.lit 15) 1 2 true mS2A1 = true := by decide +kernel
theorem p1_S2A1_13 : p1M 47 2 (.lit 16) 1 2 true mS2A1 = true := by decide +kernel
theorem p1_S2A1_14 : p1M 49 2 (.lit 17) 1 2 true mS2A1 = true := by decide +kernel
theorem p1_S2A1_15 : p1M 51 2 (.lit 18) 1 2 true mS2A1 = true := by decide +kernel
theorem p1_S2A1_16 : p1M 53 2 (.lit 19) 1 2 true mS2A1 = true := by decide +kernel
theorem p1_S2A1_17 : p1M 55 2 (.lit 20) 1 2 true mS2A1 = true := by decide +kernel
theorem p1_S2A1_18 : p1M 57 2 (.lit 21) 1 2 true mS2A1 = true := by decide +kernel
theorem p1_S2A1_19 : p1M 59 2 (.lit 22) 1 2 true mS2A1 = true := by decide +kernel
theorem p1_S2A1_20 : p1M 61 2 (.lit 23) 1 2 true mS2A1 = true := by decide +kernel
theorem p1_S2A1_21 : p1M 63 2 (.lit 24) 1 2 true mS2A1 = true := by decide +kernel
theorem p1_S2A2_0 : p1M 22 1 (.lit 3) 2 2 true mS2A2 = true := by decide +kernel
theorem p1_S2A2_1 : p1M 23 2 (.lit 4) 2 2 true mS2A2 = true := by decide +kernel
theorem p1_S2A2_2 : p1M 25 2 (.lit 5) 2 2 true mS2A2 = true := by decide +kernel
theorem p1_S2A2_3 : p1M 27 2 (.lit 6) 2 2 true mS2A2 = true := by decide +kernel
theorem p1_S2A2_4 : p1M 29 2 (.lit 7) 2 2 true mS2A2 = true := by decide +kernel
theorem p1_S2A2_5 : p1M 31 2 (.lit 8) 2 2 true mS2A2 = true := by decide +kernel
theorem p1_S2A2_6 : p1M 33 2 (.lit 9) 2 2 true mS2A2 = true := by decide +kernel
theorem p1_S2A2_7 : p1M 35 2 (.lit 10) 2 2 true mS2A2 = true := by decide +kernel
theorem p1_S2A2_8 : p1M 37 2 (.lit 11) 2 2 true mS2A2 = true := by decide +kernel
theorem p1_S2A2_9 : p1M 39 2 (.lit 12) 2 2 true mS2A2 = true := by decide +kernel
theorem p1_S2A2_10 : p1M 41 2 (.lit 13) 2 2 true mS2A2 = true := by decide +kernel
theorem p1_S2A2_11 : p1M 43 2 (.lit 14) 2 2 true mS2A2 = true := by decide +kernel
theorem p1_S2A2_12 : p1M 45 2 (.lit 15) 2 2 true mS2A2 = true := by decide +kernel
theorem p1_S2A2_13 : p1M 47 2 (.lit 16) 2 2 true mS2A2 = true := by decide +kernel
theorem p1_S2A2_14 : p1M 49 2 (.lit 17) 2 2 true mS2A2 = true := by decide +kernel
theorem p1_S2A2_15 : p1M 51 2 (.lit 18) 2 2 true mS2A2 = true := by decide +kernel
theorem p1_S2A2_16 : p1M 53 2 (.lit 19) 2 2 true mS2A2 = true := by decide +kernel
theorem p1_S2A2_17 : p1M 55 2 (.lit 20) 2 2 true mS2A2 = true := by decide +kernel
theorem p1_S2A2_18 : p1M 57 2 (.lit 21) 2 2 true mS2A2 = true := by decide +kernel
theorem p1_S2A2_19 : p1M 59 2 (.lit 22) 2 2 true mS2A2 = true := by decide +kernel
theorem p1_S2A2_20 : p1M 61 2 (.lit 23) 2 2 true mS2A2 = true := by decide +kernel
theorem p1_S2A2_21 : p1M 63 2 (.lit 24) 2 2 true mS2A2 = true := by decide +kernel
theorem p1_S2A3_0 : p1M 22 1 (.lit 3) 3 2 true mS2A3 = true := by decide +kernel
theorem p1_S2A3_1 : p1M 23 2 (.lit 4) 3 2 true mS2A3 = true := by decide +kernel
theorem p1_S2A3_2 : p1M 25 2 (.lit 5) 3 2 true mS2A3 = true := by decide +kernel
theorem p1_S2A3_3 : p1M 27 2 (.lit 6) 3 2 true mS2A3 = true := by decide +kernel
theorem p1_S2A3_4 : p1M 29 2 (.lit 7) 3 2 true mS2A3 = true := by decide +kernel
theorem p1_S2A3_5 : p1M 31 2 (.lit 8) 3 2 true mS2A3 = true := by decide +kernel
theorem p1_S2A3_6 : p1M 33 2 (.lit 9) 3 2 true mS2A3 = true := by decide +kernel
theorem p1_S2A3_7 : p1M 35 2 (.lit 10) 3 2 true mS2A3 = true := by decide +kernel
theorem p1_S2A3_8 : p1M 37 2 (.lit 11) 3 2 true mS2A3 = true := by decide +kernel
theorem p1_S2A3_9 : p1M 39 2 (.lit 12) 3 2 true mS2A3 = true := by decide +kernel
theorem p1_S2A3_10 : p1M 41 2 (.lit 13) 3 2 true mS2A3 = true := by decide +kernel
theorem p1_S2A3_11 : p1M 43 2 (.lit 14) 3 2 true mS2A3 = true := by decide +kernel
theorem p1_S2A3_12 : p1M 45 2 (.lit 15) 3 2 true mS2A3 = true := by decide +kernel
theorem p1_S2A3_13 : p1M 47 2 (.lit 16) 3 2 true mS2A3 = true := by decide +kernel
theorem p1_S2A3_14 : p1M 49 2 (.lit 17) 3 2 true mS2A3 = true := by decide +kernel
theorem p1_S2A3_15 : p1M 51 2 (.lit 18) 3 2 true mS2A3 = true := by decide +kernel
theorem p1_S2A3_16 : p1M 53 2 (.lit 19) 3 2 true mS2A3 = true := by decide +kernel
theorem p1_S2A3_17 : p1M 55 2 (.lit 20) 3 2 true mS2A3 = true := by decide +kernel
theorem p1_S2A3_18 : p1M 57 2 (.lit 21) 3 2 true mS2A3 = true := by decide +kernel
theorem p1_S2A3_19 : p1M 59 2 (.lit 22) 3 2 true mS2A3 = true := by decide +kernel
theorem p1_S2A3_20 : p1M 61 2 (.lit 23) 3 2 true mS2A3 = true := by decide +kernel
theorem p1_S2A3_21 : p1M 63 2 (.lit 24) 3 2 true mS2A3 = true := by decide +kernel
end Boots
