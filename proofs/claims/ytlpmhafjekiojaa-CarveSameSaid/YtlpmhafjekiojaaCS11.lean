/- CarveSame: evaluations, part 12. No conditions. -/
import Derived.Test.YtlpmhafjekiojaaCS
open Go Eng Go.Proofs Go.RowKit
namespace carveSameW
theorem e66 : (rows 58 37 12 && (rows 58 49 9 && (some0 59))) = true := by decide +kernel
theorem e67 : (rows 59 1 12 && (rows 59 13 12)) = true := by decide +kernel
theorem e68 : (rows 59 25 12 && (rows 59 37 12)) = true := by decide +kernel
theorem e69 : (rows 59 49 10 && (some0 60 && (rows 60 1 12))) = true := by decide +kernel
theorem e70 : (rows 60 13 12 && (rows 60 25 12)) = true := by decide +kernel
theorem e71 : (rows 60 37 12 && (rows 60 49 11)) = true := by decide +kernel
end carveSameW
