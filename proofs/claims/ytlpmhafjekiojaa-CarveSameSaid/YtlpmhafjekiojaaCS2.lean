/- CarveSame: evaluations, part 3. No conditions. -/
import Derived.Test.YtlpmhafjekiojaaCS
open Go Eng Go.Proofs Go.RowKit
namespace carveSameW
theorem e12 : (rows 28 1 17 && (rows 28 18 10 && (some0 29))) = true := by decide +kernel
theorem e13 : (rows 29 1 17 && (rows 29 18 11 && (some0 30))) = true := by decide +kernel
theorem e14 : (rows 30 1 17 && (rows 30 18 12 && (some0 31))) = true := by decide +kernel
theorem e15 : (rows 31 1 17 && (rows 31 18 13 && (some0 32))) = true := by decide +kernel
theorem e16 : (rows 32 1 16 && (rows 32 17 15 && (some0 33))) = true := by decide +kernel
theorem e17 : (rows 33 1 16 && (rows 33 17 16 && (some0 34))) = true := by decide +kernel
end carveSameW
