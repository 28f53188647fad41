/- AuditBoots: New, up to the objects that are made: 3 threads, a shared endpoint. No conditions. -/
import Derived.Test.YtikjmnimdlcehaaGreatBG
set_option linter.unusedVariables false
open Go Eng Go.Proofs Go.RowKit
set_option maxRecDepth 100000
namespace Boots
open Base
theorem p1_S3A1_0 : p1M 33 1 (.lit 3) 1 3 true mS3A1 = true := by decide +kernel
theorem p1_S3A1_1 : p1M 34 3 (.lit 4) 1 3 true mS3A1 = true := by decide +kernel
theorem p1_S3A1_2 : p1M 37 3 (.lit 5) 1 3 true mS3A1 = true := by decide +kernel
theorem p1_S3A1_3 : p1M 40 3 (.lit 6) 1 3 true mS3A1 = true := by decide +kernel
theorem p1_S3A1_4 : p1M 43 3 (.lit 7) 1 3 true mS3A1 = true := by decide +kernel
theorem p1_S3A1_5 : p1M 46 3 (.lit 8) 1 3 true mS3A1 = true := by decide +kernel
theorem p1_S3A1_6 : p1M 49 3 (.lit 9) 1 3 true mS3A1 = true := by decide +kernel
theorem p1_S3A1_7 : p1M 52 3 (.lit 10) 1 3 true mS3A1 = true := by decide +kernel
theorem p1_S3A1_8 : p1M 55 3 (.lit 11) 1 3 true mS3A1 = true := by decide +kernel
theorem p1_S3A1_9 : p1M 58 3 (.lit 12) 1 3 true mS3A1 = true := by decide +kernel
theorem p1_S3A1_10 : p1M 61 3 (.lit 13) 1 3 true mS3A1 = true := by decide +kernel
theorem p1_S3A1_11 : p1M 64 1 (.lit 14) 1 3 true mS3A1 = true := by decide +kernel
theorem p1_S3A2_0 : p1M 33 1 (.lit 3) 2 3 true mS3A2 = true := by decide +kernel
theorem p1_S3A2_1 : p1M 34 3 (.lit 4) 2 3 true mS3A2 = true := by decide +kernel
theorem p1_S3A2_2 : p1M 37 3 (.lit 5) 2 3 true mS3A2 = true := by decide +kernel
theorem p1_S3A2_3 : p1M 40 3 (.lit 6) 2 3 true mS3A2 = true := by decide +kernel
theorem p1_S3A2_4 : p1M 43 3 (.lit 7) 2 3 true mS3A2 = true := by decide +kernel
theorem p1_S3A2_5 : p1M 46 3 (.lit 8) 2 3 true mS3A2 = true := by decide +kernel
theorem p1_S3A2_6 : p1M 49 3 (.lit 9) 2 3 true mS3A2 = true := by decide +kernel
theorem p1_S3A2_7 : p1M 52 3 (.lit 10) 2 3 true mS3A2 = true := by decide +kernel
theorem p1_S3A2_8 : p1M 55 3 (.lit 11) 2 3 true mS3A2 = true := by decide +kernel
theorem p1_S3A2_9 : p1M 58 3 (.lit 12) 2 3 true mS3A2 = true := by decide +kernel
theorem p1_S3A2_10 : p1M 61 3 (.lit 13) 2 3 true mS3A2 = true := by decide +kernel
theorem p1_S3A2_11 : p1M 64 1 (.lit 14) 2 3 true mS3A2 = true := by decide +kernel
theorem p1_S3A3_0 : p1M 33 1 (.lit 3) 3 3 true mS3A3 = true := by decide +kernel
theorem p1_S3A3_1 : p1M 34 3 (.lit 4) 3 3 true mS3A3 = true := by decide +kernel
theorem p1_S3A3_2 : p1M 37 3 (.lit 5) 3 3 true mS3A3 = true := by decide +kernel
theorem p1_S3A3_3 : p1M 40 3 (.lit 6) 3 3 true mS3A3 = true := by decide +kernel
theorem p1_S3A3_4 : p1M 43 3 (.lit 7) 3 3 true mS3A3 = true := by decide +kernel
theorem p1_S3A3_5 : p1M 46 3 (.lit 8) 3 3 true mS3A3 = true := by decide +kernel
theorem p1_S3A3_6 : p1M 49 3 (.lit 9) 3 3 true mS3A3 = true := by decide +kernel
theorem p1_S3A3_7 : p1M 52 3 (.lit 10) 3 3 true mS3A3 = true := by decide +kernel
theorem p1_S3A3_8 : p1M 55 3 (.lit 11) 3 3 true mS3A3 = true := by decide +kernel
theorem p1_S3A3_9 : p1M 58 3 (.lit 12) 3 3 true mS3A3 = true := by decide +kernel
theorem p1_S3A3_10 : p1M 61 3 (.lit 13) 3 3 true mS3A3 = true := by decide +kernel
theorem p1_S3A3_11 : p1M 64 1 (.lit 14) 3 3 true mS3A3 = true := by decide +kernel
end Boots
