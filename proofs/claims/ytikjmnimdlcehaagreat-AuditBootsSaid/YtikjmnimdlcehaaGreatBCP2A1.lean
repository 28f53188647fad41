/- AuditBoots: what is changed in the view of a boot is found: 2 threads, no shared endpoint, part 2. No conditions. -/
import Derived.Test.YtikjmnimdlcehaaGreatBH
set_option linter.unusedVariables false
open Go Eng Go.Proofs Go.RowKit
set_option maxRecDepth 100000
namespace Boots
open Base
theorem p4_P2A_2_0 : p4 4 22 sP2A (low1 2) vP2A = true := by decide +kernel
theorem p4_P2A_1_1 : p4 4 22 sP2A (low2 1 15 1) vP2A = true := by decide +kernel
theorem p4_P2A_1_3 : p4 4 22 sP2A (low2 1 15 3) vP2A = true := by decide +kernel
theorem p4_P2A_1_5 : p4 4 22 sP2A (low2 1 15 5) vP2A = true := by decide +kernel
theorem p4_P2A_1_7 : p4 4 22 sP2A (low2 1 15 7) vP2A = true := by decide +kernel
theorem p4_P2A_1_9 : p4 4 22 sP2A (low2 1 15 9) vP2A = true := by decide +kernel
theorem p4_P2A_1_11 : p4 4 22 sP2A (low2 1 15 11) vP2A = true := by decide +kernel
theorem p4_P2A_1_13 : p4 4 22 sP2A (low2 1 15 13) vP2A = true := by decide +kernel
theorem p4_P2A_3_0 : p4 4 22 sP2A (low2 3 9 0) vP2A = true := by decide +kernel
theorem p4_P2A_3_2 : p4 4 22 sP2A (low2 3 9 2) vP2A = true := by decide +kernel
theorem p4_P2A_3_4 : p4 4 22 sP2A (low2 3 9 4) vP2A = true := by decide +kernel
theorem p4_P2A_3_6 : p4 4 22 sP2A (low2 3 9 6) vP2A = true := by decide +kernel
theorem p4_P2A_3_8 : p4 4 22 sP2A (low2 3 9 8) vP2A = true := by decide +kernel
theorem p4_P2A_4_1 : p4 4 22 sP2A (low2 4 2 1) vP2A = true := by decide +kernel
end Boots
