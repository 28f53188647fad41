/- CarveSame: evaluations, part 5. No conditions. -/
import Derived.Test.YtlpmhafjekiojaaCS
open Go Eng Go.Proofs Go.RowKit
namespace carveSameW
theorem e24 : (rows 38 1 15 && (rows 38 16 15)) = true := by decide +kernel
theorem e25 : (rows 38 31 7 && (some0 39 && (rows 39 1 15))) = true := by decide +kernel
theorem e26 : (rows 39 16 15 && (rows 39 31 8 && (some0 40))) = true := by decide +kernel
theorem e27 : (rows 40 1 15 && (rows 40 16 15)) = true := by decide +kernel
theorem e28 : (rows 40 31 9 && (some0 41 && (rows 41 1 14))) = true := by decide +kernel
theorem e29 : (rows 41 15 14 && (rows 41 29 12 && (some0 42))) = true := by decide +kernel
end carveSameW
