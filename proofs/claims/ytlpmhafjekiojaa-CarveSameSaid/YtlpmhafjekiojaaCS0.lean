/- CarveSame: evaluations, part 1. No conditions. -/
import Derived.Test.YtlpmhafjekiojaaCS
open Go Eng Go.Proofs Go.RowKit
namespace carveSameW
theorem e0 : (some0 0 && (some0 1 && (some0 2 && (rows 2 1 1 && (some0 3 && (rows 3 1 2 && (some0 4 && (rows 4 1 3 && (some0 5 && (rows 5 1 4 && (some0 6 && (rows 6 1 5 && (some0 7 && (rows 7 1 6 && (some0 8 && (rows 8 1 7 && (some0 9))))))))))))))))) = true := by decide +kernel
theorem e1 : (rows 9 1 8 && (some0 10 && (rows 10 1 9 && (some0 11 && (rows 11 1 10 && (some0 12 && (rows 12 1 11 && (some0 13)))))))) = true := by decide +kernel
theorem e2 : (rows 13 1 12 && (some0 14 && (rows 14 1 13 && (some0 15 && (rows 15 1 14 && (some0 16)))))) = true := by decide +kernel
theorem e3 : (rows 16 1 15 && (some0 17 && (rows 17 1 16 && (some0 18)))) = true := by decide +kernel
theorem e4 : (rows 18 1 17 && (some0 19 && (rows 19 1 18 && (some0 20)))) = true := by decide +kernel
theorem e5 : (rows 20 1 19 && (some0 21 && (rows 21 1 20))) = true := by decide +kernel
end carveSameW
