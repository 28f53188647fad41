/- AuditBoots: what is changed in the view of a boot is found: 1 threads, a shared endpoint, part 1. No conditions. -/
import Derived.Test.YtikjmnimdlcehaaGreatBH
set_option linter.unusedVariables false
open Go Eng Go.Proofs Go.RowKit
set_option maxRecDepth 100000
namespace Boots
open Base
theorem p4_S1A_0_0 : p4 3 54 sS1A (low1 0) vS1A = true := by decide +kernel
theorem p4_S1A_2_0 : p4 3 54 sS1A (low1 2) vS1A = true := by decide +kernel
theorem p4_S1A_1_0 : p4 3 54 sS1A (low2 1 9 0) vS1A = true := by decide +kernel
theorem p4_S1A_1_1 : p4 3 54 sS1A (low2 1 9 1) vS1A = true := by decide +kernel
theorem p4_S1A_1_2 : p4 3 54 sS1A (low2 1 9 2) vS1A = true := by decide +kernel
theorem p4_S1A_1_3 : p4 3 54 sS1A (low2 1 9 3) vS1A = true := by decide +kernel
theorem p4_S1A_1_4 : p4 3 54 sS1A (low2 1 9 4) vS1A = true := by decide +kernel
theorem p4_S1A_1_5 : p4 3 54 sS1A (low2 1 9 5) vS1A = true := by decide +kernel
theorem p4_S1A_1_6 : p4 3 54 sS1A (low2 1 9 6) vS1A = true := by decide +kernel
theorem p4_S1A_1_7 : p4 3 54 sS1A (low2 1 9 7) vS1A = true := by decide +kernel
theorem p4_S1A_1_8 : p4 3 54 sS1A (low2 1 9 8) vS1A = true := by decide +kernel
theorem p4_S1A_3_0 : p4 3 54 sS1A (low2 3 5 0) vS1A = true := by decide +kernel
theorem p4_S1A_3_1 : p4 3 54 sS1A (low2 3 5 1) vS1A = true := by decide +kernel
theorem p4_S1A_3_2 : p4 3 54 sS1A (low2 3 5 2) vS1A = true := by decide +kernel
theorem p4_S1A_3_3 : p4 3 54 sS1A (low2 3 5 3) vS1A = true := by decide +kernel
theorem p4_S1A_3_4 : p4 3 54 sS1A (low2 3 5 4) vS1A = true := by decide +kernel
theorem p4_S1A_4_0 : p4 3 54 sS1A (low2 4 1 0) vS1A = true := by decide +kernel
end Boots
