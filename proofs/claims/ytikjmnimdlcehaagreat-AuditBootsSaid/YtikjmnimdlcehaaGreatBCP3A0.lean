/- AuditBoots: what is changed in the view of a boot is found: 3 threads, no shared endpoint, part 1. No conditions. -/
import Derived.Test.YtikjmnimdlcehaaGreatBH
set_option linter.unusedVariables false
open Go Eng Go.Proofs Go.RowKit
set_option maxRecDepth 100000
namespace Boots
open Base
theorem p4_P3A_0_0 : p4 4 11 sP3A (low1 0) vP3A = true := by decide +kernel
theorem p4_P3A_1_1 : p4 4 11 sP3A (low2 1 22 1) vP3A = true := by decide +kernel
theorem p4_P3A_1_4 : p4 4 11 sP3A (low2 1 22 4) vP3A = true := by decide +kernel
theorem p4_P3A_1_7 : p4 4 11 sP3A (low2 1 22 7) vP3A = true := by decide +kernel
theorem p4_P3A_1_10 : p4 4 11 sP3A (low2 1 22 10) vP3A = true := by decide +kernel
theorem p4_P3A_1_13 : p4 4 11 sP3A (low2 1 22 13) vP3A = true := by decide +kernel
theorem p4_P3A_1_16 : p4 4 11 sP3A (low2 1 22 16) vP3A = true := by decide +kernel
theorem p4_P3A_1_19 : p4 4 11 sP3A (low2 1 22 19) vP3A = true := by decide +kernel
theorem p4_P3A_3_0 : p4 4 11 sP3A (low2 3 14 0) vP3A = true := by decide +kernel
theorem p4_P3A_3_3 : p4 4 11 sP3A (low2 3 14 3) vP3A = true := by decide +kernel
theorem p4_P3A_3_6 : p4 4 11 sP3A (low2 3 14 6) vP3A = true := by decide +kernel
theorem p4_P3A_3_9 : p4 4 11 sP3A (low2 3 14 9) vP3A = true := by decide +kernel
theorem p4_P3A_3_12 : p4 4 11 sP3A (low2 3 14 12) vP3A = true := by decide +kernel
theorem p4_P3A_4_1 : p4 4 11 sP3A (low2 4 3 1) vP3A = true := by decide +kernel
end Boots
