/- CarveSame: evaluations, part 14. No conditions. -/
import Derived.Test.YtlpmhafjekiojaaCS
open Go Eng Go.Proofs Go.RowKit
namespace carveSameW
theorem e78 : (rows 62 56 6 && (some0 63 && (rows 63 1 11))) = true := by decide +kernel
theorem e79 : (rows 63 12 11 && (rows 63 23 11)) = true := by decide +kernel
theorem e80 : (rows 63 34 11 && (rows 63 45 11)) = true := by decide +kernel
theorem e81 : (rows 63 56 7 && (some0 64 && (rows 64 1 11))) = true := by decide +kernel
theorem e82 : (rows 64 12 11 && (rows 64 23 11)) = true := by decide +kernel
theorem e83 : (rows 64 34 11 && (rows 64 45 11)) = true := by decide +kernel
end carveSameW
