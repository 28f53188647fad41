/- VspaceRemap: evaluations, part 4. No conditions beside those in its theorems. -/
import Derived.Test.YtpiicallicgdkaaGreatVspaceRemapE
set_option linter.unusedVariables false
open Go Eng Go.Proofs Go.RowKit
namespace vspaceRemapW
open Base
theorem e1_1_4 : (List.range' 4 4).all (fun m => run 1 1 m) = true := by decide +kernel
theorem e1_2_0 : (List.range' 0 4).all (fun m => run 1 2 m) = true := by decide +kernel
theorem e1_2_4 : (List.range' 4 4).all (fun m => run 1 2 m) = true := by decide +kernel
end vspaceRemapW
