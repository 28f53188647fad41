/- CarveSame: evaluations, part 9. No conditions. -/
import Derived.Test.YtlpmhafjekiojaaCS
open Go Eng Go.Proofs Go.RowKit
namespace carveSameW
theorem e48 : (rows 51 14 13 && (rows 51 27 13)) = true := by decide +kernel
theorem e49 : (rows 51 40 11 && (some0 52 && (rows 52 1 13))) = true := by decide +kernel
theorem e50 : (rows 52 14 13 && (rows 52 27 13)) = true := by decide +kernel
theorem e51 : (rows 52 40 12 && (some0 53)) = true := by decide +kernel
theorem e52 : (rows 53 1 13 && (rows 53 14 13)) = true := by decide +kernel
theorem e53 : (rows 53 27 13 && (rows 53 40 13)) = true := by decide +kernel
end carveSameW
