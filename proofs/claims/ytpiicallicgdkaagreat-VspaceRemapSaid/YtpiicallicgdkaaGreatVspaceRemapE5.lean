/- VspaceRemap: evaluations, part 6. No conditions beside those in its theorems. -/
import Derived.Test.YtpiicallicgdkaaGreatVspaceRemapE
set_option linter.unusedVariables false
open Go Eng Go.Proofs Go.RowKit
namespace vspaceRemapW
open Base
theorem e2_1_4 : (List.range' 4 4).all (fun m => run 2 1 m) = true := by decide +kernel
theorem e2_2_0 : (List.range' 0 4).all (fun m => run 2 2 m) = true := by decide +kernel
theorem e2_2_4 : (List.range' 4 4).all (fun m => run 2 2 m) = true := by decide +kernel
end vspaceRemapW
