/- VspaceRemap: evaluations, part 2. No conditions beside those in its theorems. -/
import Derived.Test.YtpiicallicgdkaaGreatVspaceRemapE
set_option linter.unusedVariables false
open Go Eng Go.Proofs Go.RowKit
namespace vspaceRemapW
open Base
theorem e0_1_4 : (List.range' 4 4).all (fun m => run 0 1 m) = true := by decide +kernel
theorem e0_2_0 : (List.range' 0 4).all (fun m => run 0 2 m) = true := by decide +kernel
theorem e0_2_4 : (List.range' 4 4).all (fun m => run 0 2 m) = true := by decide +kernel
end vspaceRemapW
