/- CarveSame: evaluations, part 7. No conditions. -/
import Derived.Test.YtlpmhafjekiojaaCS
open Go Eng Go.Proofs Go.RowKit
namespace carveSameW
theorem e36 : (rows 45 15 14 && (rows 45 29 14)) = true := by decide +kernel
theorem e37 : (rows 45 43 2 && (some0 46 && (rows 46 1 14))) = true := by decide +kernel
theorem e38 : (rows 46 15 14 && (rows 46 29 14)) = true := by decide +kernel
theorem e39 : (rows 46 43 3 && (some0 47 && (rows 47 1 13))) = true := by decide +kernel
theorem e40 : (rows 47 14 13 && (rows 47 27 13)) = true := by decide +kernel
theorem e41 : (rows 47 40 7 && (some0 48 && (rows 48 1 13))) = true := by decide +kernel
end carveSameW
