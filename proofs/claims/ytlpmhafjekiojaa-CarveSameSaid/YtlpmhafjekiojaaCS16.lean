/- CarveSame: evaluations, part 17. No conditions. -/
import Derived.Test.YtlpmhafjekiojaaCS
open Go Eng Go.Proofs Go.RowKit
namespace carveSameW
theorem e96 : (rows 68 34 11 && (rows 68 45 11)) = true := by decide +kernel
theorem e97 : (rows 68 56 11 && (rows 68 67 1 && (some0 69))) = true := by decide +kernel
theorem e98 : (rows 69 1 11 && (rows 69 12 11)) = true := by decide +kernel
theorem e99 : (rows 69 23 11 && (rows 69 34 11)) = true := by decide +kernel
theorem e100 : (rows 69 45 11 && (rows 69 56 11)) = true := by decide +kernel
theorem e101 : (rows 69 67 2) = true := by decide +kernel
end carveSameW
