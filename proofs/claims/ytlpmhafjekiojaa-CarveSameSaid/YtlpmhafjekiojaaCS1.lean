/- CarveSame: evaluations, part 2. No conditions. -/
import Derived.Test.YtlpmhafjekiojaaCS
open Go Eng Go.Proofs Go.RowKit
namespace carveSameW
theorem e6 : (some0 22 && (rows 22 1 19 && (rows 22 20 2 && (some0 23)))) = true := by decide +kernel
theorem e7 : (rows 23 1 19 && (rows 23 20 3 && (some0 24))) = true := by decide +kernel
theorem e8 : (rows 24 1 19 && (rows 24 20 4 && (some0 25))) = true := by decide +kernel
theorem e9 : (rows 25 1 18 && (rows 25 19 6 && (some0 26))) = true := by decide +kernel
theorem e10 : (rows 26 1 18 && (rows 26 19 7 && (some0 27))) = true := by decide +kernel
theorem e11 : (rows 27 1 18 && (rows 27 19 8 && (some0 28))) = true := by decide +kernel
end carveSameW
