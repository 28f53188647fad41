/- CarveSame: evaluations, part 11. No conditions. -/
import Derived.Test.YtlpmhafjekiojaaCS
open Go Eng Go.Proofs Go.RowKit
namespace carveSameW
theorem e60 : (rows 56 13 12 && (rows 56 25 12)) = true := by decide +kernel
theorem e61 : (rows 56 37 12 && (rows 56 49 7 && (some0 57))) = true := by decide +kernel
theorem e62 : (rows 57 1 12 && (rows 57 13 12)) = true := by decide +kernel
theorem e63 : (rows 57 25 12 && (rows 57 37 12)) = true := by decide +kernel
theorem e64 : (rows 57 49 8 && (some0 58 && (rows 58 1 12))) = true := by decide +kernel
theorem e65 : (rows 58 13 12 && (rows 58 25 12)) = true := by decide +kernel
end carveSameW
