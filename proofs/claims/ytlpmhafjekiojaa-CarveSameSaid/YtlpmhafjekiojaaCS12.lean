/- CarveSame: evaluations, part 13. No conditions. -/
import Derived.Test.YtlpmhafjekiojaaCS
open Go Eng Go.Proofs Go.RowKit
namespace carveSameW
theorem e72 : (some0 61 && (rows 61 1 12)) = true := by decide +kernel
theorem e73 : (rows 61 13 12 && (rows 61 25 12)) = true := by decide +kernel
theorem e74 : (rows 61 37 12 && (rows 61 49 12)) = true := by decide +kernel
theorem e75 : (some0 62 && (rows 62 1 11)) = true := by decide +kernel
theorem e76 : (rows 62 12 11 && (rows 62 23 11)) = true := by decide +kernel
theorem e77 : (rows 62 34 11 && (rows 62 45 11)) = true := by decide +kernel
end carveSameW
