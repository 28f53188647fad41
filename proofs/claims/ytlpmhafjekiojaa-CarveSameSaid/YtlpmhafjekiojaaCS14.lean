/- CarveSame: evaluations, part 15. No conditions. -/
import Derived.Test.YtlpmhafjekiojaaCS
open Go Eng Go.Proofs Go.RowKit
namespace carveSameW
theorem e84 : (rows 64 56 8 && (some0 65 && (rows 65 1 11))) = true := by decide +kernel
theorem e85 : (rows 65 12 11 && (rows 65 23 11)) = true := by decide +kernel
theorem e86 : (rows 65 34 11 && (rows 65 45 11)) = true := by decide +kernel
theorem e87 : (rows 65 56 9 && (some0 66 && (rows 66 1 11))) = true := by decide +kernel
theorem e88 : (rows 66 12 11 && (rows 66 23 11)) = true := by decide +kernel
theorem e89 : (rows 66 34 11 && (rows 66 45 11)) = true := by decide +kernel
end carveSameW
