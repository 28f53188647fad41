/- AuditBoots: what is changed in the view of a boot is found: 2 threads, a shared endpoint, part 2. No conditions. -/
import Derived.Test.YtikjmnimdlcehaaGreatBH
set_option linter.unusedVariables false
open Go Eng Go.Proofs Go.RowKit
set_option maxRecDepth 100000
namespace Boots
open Base
theorem p4_S2A_2_0 : p4 3 22 sS2A (low1 2) vS2A = true := by decide +kernel
theorem p4_S2A_1_1 : p4 3 22 sS2A (low2 1 18 1) vS2A = true := by decide +kernel
theorem p4_S2A_1_3 : p4 3 22 sS2A (low2 1 18 3) vS2A = true := by decide +kernel
theorem p4_S2A_1_5 : p4 3 22 sS2A (low2 1 18 5) vS2A = true := by decide +kernel
theorem p4_S2A_1_7 : p4 3 22 sS2A (low2 1 18 7) vS2A = true := by decide +kernel
theorem p4_S2A_1_9 : p4 3 22 sS2A (low2 1 18 9) vS2A = true := by decide +kernel
theorem p4_S2A_1_11 : p4 3 22 sS2A (low2 1 18 11) vS2A = true := by decide +kernel
theorem p4_S2A_1_13 : p4 3 22 sS2A (low2 1 18 13) vS2A = true := by decide +kernel
theorem p4_S2A_1_15 : p4 3 22 sS2A (low2 1 18 15) vS2A = true := by decide +kernel
theorem p4_S2A_1_17 : p4 3 22 sS2A (low2 1 18 17) vS2A = true := by decide +kernel
theorem p4_S2A_3_1 : p4 3 22 sS2A (low2 3 10 1) vS2A = true := by decide +kernel
theorem p4_S2A_3_3 : p4 3 22 sS2A (low2 3 10 3) vS2A = true := by decide +kernel
theorem p4_S2A_3_5 : p4 3 22 sS2A (low2 3 10 5) vS2A = true := by decide +kernel
theorem p4_S2A_3_7 : p4 3 22 sS2A (low2 3 10 7) vS2A = true := by decide +kernel
theorem p4_S2A_3_9 : p4 3 22 sS2A (low2 3 10 9) vS2A = true := by decide +kernel
theorem p4_S2A_4_1 : p4 3 22 sS2A (low2 4 2 1) vS2A = true := by decide +kernel
end Boots
