/- AuditBoots: what is changed in the view of a boot is found: 3 threads, no shared endpoint, part 2. No conditions. -/
import Derived.Test.YtikjmnimdlcehaaGreatBH
set_option linter.unusedVariables false
open Go Eng Go.Proofs Go.RowKit
set_option maxRecDepth 100000
namespace Boots
open Base
theorem p4_P3A_2_0 : p4 4 11 sP3A (low1 2) vP3A = true := by decide +kernel
theorem p4_P3A_1_2 : p4 4 11 sP3A (low2 1 22 2) vP3A = true := by decide +kernel
theorem p4_P3A_1_5 : p4 4 11 sP3A (low2 1 22 5) vP3A = true := by decide +kernel
theorem p4_P3A_1_8 : p4 4 11 sP3A (low2 1 22 8) vP3A = true := by decide +kernel
theorem p4_P3A_1_11 : p4 4 11 sP3A (low2 1 22 11) vP3A = true := by decide +kernel
theorem p4_P3A_1_14 : p4 4 11 sP3A (low2 1 22 14) vP3A = true := by decide +kernel
theorem p4_P3A_1_17 : p4 4 11 sP3A (low2 1 22 17) vP3A = true := by decide +kernel
theorem p4_P3A_1_20 : p4 4 11 sP3A (low2 1 22 20) vP3A = true := by decide +kernel
theorem p4_P3A_3_1 : p4 4 11 sP3A (low2 3 14 1) vP3A = true := by decide +kernel
theorem p4_P3A_3_4 : p4 4 11 sP3A (low2 3 14 4) vP3A = true := by decide +kernel
theorem p4_P3A_3_7 : p4 4 11 sP3A (low2 3 14 7) vP3A = true := by decide +kernel
theorem p4_P3A_3_10 : p4 4 11 sP3A (low2 3 14 10) vP3A = true := by decide +kernel
theorem p4_P3A_3_13 : p4 4 11 sP3A (low2 3 14 13) vP3A = true := by decide +kernel
theorem p4_P3A_4_2 : p4 4 11 sP3A (low2 4 3 2) vP3A = true := by decide +kernel
end Boots
