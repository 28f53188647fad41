/- VspaceRemap: evaluations, part 5. No conditions beside those in its theorems. -/
import Derived.Test.YtpiicallicgdkaaGreatVspaceRemapE
set_option linter.unusedVariables false
open Go Eng Go.Proofs Go.RowKit
namespace vspaceRemapW
open Base
theorem e2_0_0 : (List.range' 0 4).all (fun m => run 2 0 m) = true := by decide +kernel
theorem e2_0_4 : (List.range' 4 4).all (fun m => run 2 0 m) = true := by decide +kernel
theorem e2_1_0 : (List.range' 0 4).all (fun m => run 2 1 m) = true := by decide +kernel
end vspaceRemapW
