/- AuditBoots: what is changed in the view of a boot is found: 3 threads, a shared endpoint, part 3. No conditions. -/
import Derived.Test.YtikjmnimdlcehaaGreatBH
set_option linter.unusedVariables false
open Go Eng Go.Proofs Go.RowKit
set_option maxRecDepth 100000
namespace Boots
open Base
theorem p4_S3A_1_0 : p4 3 12 sS3A (low2 1 27 0) vS3A = true := by decide +kernel
theorem p4_S3A_1_3 : p4 3 12 sS3A (low2 1 27 3) vS3A = true := by decide +kernel
theorem p4_S3A_1_6 : p4 3 12 sS3A (low2 1 27 6) vS3A = true := by decide +kernel
theorem p4_S3A_1_9 : p4 3 12 sS3A (low2 1 27 9) vS3A = true := by decide +kernel
theorem p4_S3A_1_12 : p4 3 12 sS3A (low2 1 27 12) vS3A = true := by decide +kernel
theorem p4_S3A_1_15 : p4 3 12 sS3A (low2 1 27 15) vS3A = true := by decide +kernel
theorem p4_S3A_1_18 : p4 3 12 sS3A (low2 1 27 18) vS3A = true := by decide +kernel
theorem p4_S3A_1_21 : p4 3 12 sS3A (low2 1 27 21) vS3A = true := by decide +kernel
theorem p4_S3A_1_24 : p4 3 12 sS3A (low2 1 27 24) vS3A = true := by decide +kernel
theorem p4_S3A_3_0 : p4 3 12 sS3A (low2 3 15 0) vS3A = true := by decide +kernel
theorem p4_S3A_3_3 : p4 3 12 sS3A (low2 3 15 3) vS3A = true := by decide +kernel
theorem p4_S3A_3_6 : p4 3 12 sS3A (low2 3 15 6) vS3A = true := by decide +kernel
theorem p4_S3A_3_9 : p4 3 12 sS3A (low2 3 15 9) vS3A = true := by decide +kernel
theorem p4_S3A_3_12 : p4 3 12 sS3A (low2 3 15 12) vS3A = true := by decide +kernel
theorem p4_S3A_4_0 : p4 3 12 sS3A (low2 4 3 0) vS3A = true := by decide +kernel
end Boots
