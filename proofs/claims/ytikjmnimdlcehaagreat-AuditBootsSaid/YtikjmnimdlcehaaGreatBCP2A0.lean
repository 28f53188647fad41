/- AuditBoots: what is changed in the view of a boot is found: 2 threads, no shared endpoint, part 1. No conditions. -/
import Derived.Test.YtikjmnimdlcehaaGreatBH
set_option linter.unusedVariables false
open Go Eng Go.Proofs Go.RowKit
set_option maxRecDepth 100000
namespace Boots
open Base
theorem p4_P2A_0_0 : p4 4 22 sP2A (low1 0) vP2A = true := by decide +kernel
theorem p4_P2A_1_0 : p4 4 22 sP2A (low2 1 15 0) vP2A = true := by decide +kernel
theorem p4_P2A_1_2 : p4 4 22 sP2A (low2 1 15 2) vP2A = true := by decide +kernel
theorem p4_P2A_1_4 : p4 4 22 sP2A (low2 1 15 4) vP2A = true := by decide +kernel
theorem p4_P2A_1_6 : p4 4 22 sP2A (low2 1 15 6) vP2A = true := by decide +kernel
theorem p4_P2A_1_8 : p4 4 22 sP2A (low2 1 15 8) vP2A = true := by decide +kernel
theorem p4_P2A_1_10 : p4 4 22 sP2A (low2 1 15 10) vP2A = true := by decide +kernel
theorem p4_P2A_1_12 : p4 4 22 sP2A (low2 1 15 12) vP2A = true := by decide +kernel
theorem p4_P2A_1_14 : p4 4 22 sP2A (low2 1 15 14) vP2A = true := by decide +kernel
theorem p4_P2A_3_1 : p4 4 22 sP2A (low2 3 9 1) vP2A = true := by decide +kernel
theorem p4_P2A_3_3 : p4 4 22 sP2A (low2 3 9 3) vP2A = true := by decide +kernel
theorem p4_P2A_3_5 : p4 4 22 sP2A (low2 3 9 5) vP2A = true := by decide +kernel
theorem p4_P2A_3_7 : p4 4 22 sP2A (low2 3 9 7) vP2A = true := by decide +kernel
theorem p4_P2A_4_0 : p4 4 22 sP2A (low2 4 2 0) vP2A = true := by decide +kernel
end Boots
