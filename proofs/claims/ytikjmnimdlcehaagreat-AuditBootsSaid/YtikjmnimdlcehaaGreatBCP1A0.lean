/- AuditBoots: what is changed in the view of a boot is found: 1 threads, no shared endpoint, part 1. No conditions. -/
import Derived.Test.YtikjmnimdlcehaaGreatBH
set_option linter.unusedVariables false
open Go Eng Go.Proofs Go.RowKit
set_option maxRecDepth 100000
namespace Boots
open Base
theorem p4_P1A_0_0 : p4 4 54 sP1A (low1 0) vP1A = true := by decide +kernel
theorem p4_P1A_2_0 : p4 4 54 sP1A (low1 2) vP1A = true := by decide +kernel
theorem p4_P1A_1_0 : p4 4 54 sP1A (low2 1 8 0) vP1A = true := by decide +kernel
theorem p4_P1A_1_1 : p4 4 54 sP1A (low2 1 8 1) vP1A = true := by decide +kernel
theorem p4_P1A_1_2 : p4 4 54 sP1A (low2 1 8 2) vP1A = true := by decide +kernel
theorem p4_P1A_1_3 : p4 4 54 sP1A (low2 1 8 3) vP1A = true := by decide +kernel
theorem p4_P1A_1_4 : p4 4 54 sP1A (low2 1 8 4) vP1A = true := by decide +kernel
theorem p4_P1A_1_5 : p4 4 54 sP1A (low2 1 8 5) vP1A = true := by decide +kernel
theorem p4_P1A_1_6 : p4 4 54 sP1A (low2 1 8 6) vP1A = true := by decide +kernel
theorem p4_P1A_1_7 : p4 4 54 sP1A (low2 1 8 7) vP1A = true := by decide +kernel
theorem p4_P1A_3_0 : p4 4 54 sP1A (low2 3 4 0) vP1A = true := by decide +kernel
theorem p4_P1A_3_1 : p4 4 54 sP1A (low2 3 4 1) vP1A = true := by decide +kernel
theorem p4_P1A_3_2 : p4 4 54 sP1A (low2 3 4 2) vP1A = true := by decide +kernel
theorem p4_P1A_3_3 : p4 4 54 sP1A (low2 3 4 3) vP1A = true := by decide +kernel
theorem p4_P1A_4_0 : p4 4 54 sP1A (low2 4 1 0) vP1A = true := by decide +kernel
end Boots
