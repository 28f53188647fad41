/- AuditBoots: what is changed in the view of a boot is found: 3 threads, no shared endpoint, part 3. No conditions. -/
import Derived.Test.YtikjmnimdlcehaaGreatBH
set_option linter.unusedVariables false
open Go Eng Go.Proofs Go.RowKit
set_option maxRecDepth 100000
namespace Boots
open Base
theorem p4_P3A_1_0 : p4 4 11 sP3A (low2 1 22 0) vP3A = true := by decide +kernel
theorem p4_P3A_1_3 : p4 4 11 sP3A (low2 1 22 3) vP3A = true := by decide +kernel
theorem p4_P3A_1_6 : p4 4 11 sP3A (low2 1 22 6) vP3A = true := by decide +kernel
theorem p4_P3A_1_9 : p4 4 11 sP3A (low2 1 22 9) vP3A = true := by decide +kernel
theorem p4_P3A_1_12 : p4 4 11 sP3A (low2 1 22 12) vP3A = true := by decide +kernel
theorem p4_P3A_1_15 : p4 4 11 sP3A (low2 1 22 15) vP3A = true := by decide +kernel
theorem p4_P3A_1_18 : p4 4 11 sP3A (low2 1 22 18) vP3A = true := by decide +kernel
theorem p4_P3A_1_21 : p4 4 11 sP3A (low2 1 22 21) vP3A = true := by decide +kernel
theorem p4_P3A_3_2 : p4 4 11 sP3A (low2 3 14 2) vP3A = true := by decide +kernel
theorem p4_P3A_3_5 : p4 4 11 sP3A (low2 3 14 5) vP3A = true := by decide +kernel
theorem p4_P3A_3_8 : p4 4 11 sP3A (low2 3 14 8) vP3A = true := by decide +kernel
theorem p4_P3A_3_11 : p4 4 11 sP3A (low2 3 14 11) vP3A = true := by decide +kernel
theorem p4_P3A_4_0 : p4 4 11 sP3A (low2 4 3 0) vP3A = true := by decide +kernel
end Boots
