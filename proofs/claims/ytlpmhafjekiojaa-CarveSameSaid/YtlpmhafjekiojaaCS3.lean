/- CarveSame: evaluations, part 4. No conditions. -/
import Derived.Test.YtlpmhafjekiojaaCS
open Go Eng Go.Proofs Go.RowKit
namespace carveSameW
theorem e18 : (rows 34 1 16 && (rows 34 17 16 && (rows 34 33 1))) = true := by decide +kernel
theorem e19 : (some0 35 && (rows 35 1 16)) = true := by decide +kernel
theorem e20 : (rows 35 17 16 && (rows 35 33 2 && (some0 36))) = true := by decide +kernel
theorem e21 : (rows 36 1 15 && (rows 36 16 15)) = true := by decide +kernel
theorem e22 : (rows 36 31 5 && (some0 37 && (rows 37 1 15))) = true := by decide +kernel
theorem e23 : (rows 37 16 15 && (rows 37 31 6 && (some0 38))) = true := by decide +kernel
end carveSameW
