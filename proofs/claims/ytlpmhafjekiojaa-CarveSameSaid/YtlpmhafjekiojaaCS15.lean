/- CarveSame: evaluations, part 16. No conditions. -/
import Derived.Test.YtlpmhafjekiojaaCS
open Go Eng Go.Proofs Go.RowKit
namespace carveSameW
theorem e90 : (rows 66 56 10 && (some0 67)) = true := by decide +kernel
theorem e91 : (rows 67 1 11 && (rows 67 12 11)) = true := by decide +kernel
theorem e92 : (rows 67 23 11 && (rows 67 34 11)) = true := by decide +kernel
theorem e93 : (rows 67 45 11 && (rows 67 56 11)) = true := by decide +kernel
theorem e94 : (some0 68 && (rows 68 1 11)) = true := by decide +kernel
theorem e95 : (rows 68 12 11 && (rows 68 23 11)) = true := by decide +kernel
end carveSameW
