/- AuditBoots: what is changed in the view of a boot is found: 3 threads, a shared endpoint, part 2. No conditions. -/
import Derived.Test.YtikjmnimdlcehaaGreatBH
set_option linter.unusedVariables false
open Go Eng Go.Proofs Go.RowKit
set_option maxRecDepth 100000
namespace Boots
open Base
theorem p4_S3A_2_0 : p4 3 12 sS3A (low1 2) vS3A = true := by decide +kernel
theorem p4_S3A_1_2 : p4 3 12 sS3A (low2 1 27 2) vS3A = true := by decide +kernel
theorem p4_S3A_1_5 : p4 3 12 sS3A (low2 1 27 5) vS3A = true := by decide +kernel
theorem p4_S3A_1_8 : p4 3 12 sS3A (low2 1 27 8) vS3A = true := by decide +kernel
theorem p4_S3A_1_11 : p4 3 12 sS3A (low2 1 27 11) vS3A = true := by decide +kernel
theorem p4_S3A_1_14 : p4 3 12 sS3A (low2 1 27 14) vS3A = true := by decide +kernel
theorem p4_S3A_1_17 : p4 3 12 sS3A (low2 1 27 17) vS3A = true := by decide +kernel
theorem p4_S3A_1_20 : p4 3 12 sS3A (low2 1 27 20) vS3A = true := by decide +kernel
theorem p4_S3A_1_23 : p4 3 12 sS3A (low2 1 27 23) vS3A = true := by decide +kernel
theorem p4_S3A_1_26 : p4 3 12 sS3A (low2 1 27 26) vS3A = true := by decide +kernel
theorem p4_S3A_3_2 : p4 3 12 sS3A (low2 3 15 2) vS3A = true := by decide +kernel
theorem p4_S3A_3_5 : p4 3 12 sS3A (low2 3 15 5) vS3A = true := by decide +kernel
theorem p4_S3A_3_8 : p4 3 12 sS3A (low2 3 15 8) vS3A = true := by decide +kernel
theorem p4_S3A_3_11 : p4 3 12 sS3A (low2 3 15 11) vS3A = true := by decide +kernel
theorem p4_S3A_3_14 : p4 3 12 sS3A (low2 3 15 14) vS3A = true := by decide +kernel
theorem p4_S3A_4_2 : p4 3 12 sS3A (low2 4 3 2) vS3A = true := by decide +kernel
end Boots
