/- CarveSame: evaluations, part 6. No conditions. -/
import Derived.Test.YtlpmhafjekiojaaCS
open Go Eng Go.Proofs Go.RowKit
namespace carveSameW
theorem e30 : (rows 42 1 14 && (rows 42 15 14)) = true := by decide +kernel
theorem e31 : (rows 42 29 13 && (some0 43 && (rows 43 1 14))) = true := by decide +kernel
theorem e32 : (rows 43 15 14 && (rows 43 29 14)) = true := by decide +kernel
theorem e33 : (some0 44 && (rows 44 1 14)) = true := by decide +kernel
theorem e34 : (rows 44 15 14 && (rows 44 29 14 && (rows 44 43 1))) = true := by decide +kernel
theorem e35 : (some0 45 && (rows 45 1 14)) = true := by decide +kernel
end carveSameW
