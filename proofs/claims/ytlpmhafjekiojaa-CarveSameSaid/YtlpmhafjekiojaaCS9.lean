/- CarveSame: evaluations, part 10. No conditions. -/
import Derived.Test.YtlpmhafjekiojaaCS
open Go Eng Go.Proofs Go.RowKit
namespace carveSameW
theorem e54 : (some0 54 && (rows 54 1 12)) = true := by decide +kernel
theorem e55 : (rows 54 13 12 && (rows 54 25 12)) = true := by decide +kernel
theorem e56 : (rows 54 37 12 && (rows 54 49 5 && (some0 55))) = true := by decide +kernel
theorem e57 : (rows 55 1 12 && (rows 55 13 12)) = true := by decide +kernel
theorem e58 : (rows 55 25 12 && (rows 55 37 12)) = true := by decide +kernel
theorem e59 : (rows 55 49 6 && (some0 56 && (rows 56 1 12))) = true := by decide +kernel
end carveSameW
