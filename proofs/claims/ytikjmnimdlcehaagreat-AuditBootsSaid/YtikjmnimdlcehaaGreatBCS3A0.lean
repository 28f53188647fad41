/- AuditBoots: what is changed in the view of a boot is found: 3 threads, a shared endpoint, part 1. No conditions. -/
import Derived.Test.YtikjmnimdlcehaaGreatBH
set_option linter.unusedVariables false
open Go Eng Go.Proofs Go.RowKit
set_option maxRecDepth 100000
namespace Boots
open Base
theorem p4_S3A_0_0 : p4 3 12 sS3A (low1 0) vS3A = true := by decide +kernel
theorem p4_S3A_1_1 : p4 3 12 sS3A (low2 1 27 1) vS3A = true := by decide +kernel
theorem p4_S3A_1_4 : p4 3 12 sS3A (low2 1 27 4) vS3A = true := by decide +kernel
theorem p4_S3A_1_7 : p4 3 12 sS3A (low2 1 27 7) vS3A = true := by decide +kernel
theorem p4_S3A_1_10 : p4 3 12 sS3A (low2 1 27 10) vS3A = true := by decide +kernel
theorem p4_S3A_1_13 : p4 3 12 sS3A (low2 1 27 13) vS3A = true := by decide +kernel
theorem p4_S3A_1_16 : p4 3 12 sS3A (low2 1 27 16) vS3A = true := by decide +kernel
theorem p4_S3A_1_19 : p4 3 12 sS3A (low2 1 27 19) vS3A = true := by decide +kernel
theorem p4_S3A_1_22 : p4 3 12 sS3A (low2 1 27 22) vS3A = true := by decide +kernel
theorem p4_S3A_1_25 : p4 3 12 sS3A (low2 1 27 25) vS3A = true := by decide +kernel
theorem p4_S3A_3_1 : p4 3 12 sS3A (low2 3 15 1) vS3A = true := by decide +kernel
theorem p4_S3A_3_4 : p4 3 12 sS3A (low2 3 15 4) vS3A = true := by decide +kernel
theorem p4_S3A_3_7 : p4 3 12 sS3A (low2 3 15 7) vS3A = true := by decide +kernel
theorem p4_S3A_3_10 : p4 3 12 sS3A (low2 3 15 10) vS3A = true := by decide +kernel
theorem p4_S3A_3_13 : p4 3 12 sS3A (low2 3 15 13) vS3A = true := by decide +kernel
theorem p4_S3A_4_1 : p4 3 12 sS3A (low2 4 3 1) vS3A = true := by decide +kernel
end Boots
