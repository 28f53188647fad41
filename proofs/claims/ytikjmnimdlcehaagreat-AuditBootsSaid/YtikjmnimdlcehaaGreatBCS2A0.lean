/- AuditBoots: what is changed in the view of a boot is found: 2 threads, a shared endpoint, part 1. No conditions. -/
import Derived.Test.YtikjmnimdlcehaaGreatBH
set_option linter.unusedVariables false
open Go Eng Go.Proofs Go.RowKit
set_option maxRecDepth 100000
namespace Boots
open Base
theorem p4_S2A_0_0 : p4 3 22 sS2A (low1 0) vS2A = true := by decide +kernel
theorem p4_S2A_1_0 : p4 3 22 sS2A (low2 1 18 0) vS2A = true := by decide +kernel
theorem p4_S2A_1_2 : p4 3 22 sS2A (low2 1 18 2) vS2A = true := by decide +kernel
theorem p4_S2A_1_4 : p4 3 22 sS2A (low2 1 18 4) vS2A = true := by decide +kernel
theorem p4_S2A_1_6 : p4 3 22 sS2A (low2 1 18 6) vS2A = true := by decide +kernel
theorem p4_S2A_1_8 : p4 3 22 sS2A (low2 1 18 8) vS2A = true := by decide +kernel
theorem p4_S2A_1_10 : p4 3 22 sS2A (low2 1 18 10) vS2A = true := by decide +kernel
theorem p4_S2A_1_12 : p4 3 22 sS2A (low2 1 18 12) vS2A = true := by decide +kernel
theorem p4_S2A_1_14 : p4 3 22 sS2A (low2 1 18 14) vS2A = true := by decide +kernel
theorem p4_S2A_1_16 : p4 3 22 sS2A (low2 1 18 16) vS2A = true := by decide +kernel
theorem p4_S2A_3_0 : p4 3 22 sS2A (low2 3 10 0) vS2A = true := by decide +kernel
theorem p4_S2A_3_2 : p4 3 22 sS2A (low2 3 10 2) vS2A = true := by decide +kernel
theorem p4_S2A_3_4 : p4 3 22 sS2A (low2 3 10 4) vS2A = true := by decide +kernel
theorem p4_S2A_3_6 : p4 3 22 sS2A (low2 3 10 6) vS2A = true := by decide +kernel
theorem p4_S2A_3_8 : p4 3 22 sS2A (low2 3 10 8) vS2A = true := by decide +kernel
theorem p4_S2A_4_0 : p4 3 22 sS2A (low2 4 2 0) vS2A = true := by decide +kernel
end Boots
