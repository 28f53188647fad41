/- CarveSame: evaluations, part 8. No conditions. -/
import Derived.Test.YtlpmhafjekiojaaCS
open Go Eng Go.Proofs Go.RowKit
namespace carveSameW
theorem e42 : (rows 48 14 13 && (rows 48 27 13)) = true := by decide +kernel
theorem e43 : (rows 48 40 8 && (some0 49 && (rows 49 1 13))) = true := by decide +kernel
theorem e44 : (rows 49 14 13 && (rows 49 27 13)) = true := by decide +kernel
theorem e45 : (rows 49 40 9 && (some0 50 && (rows 50 1 13))) = true := by decide +kernel
theorem e46 : (rows 50 14 13 && (rows 50 27 13)) = true := by decide +kernel
theorem e47 : (rows 50 40 10 && (some0 51 && (rows 51 1 13))) = true := by decide +kernel
end carveSameW
