/- FaultRepaired: evaluations, part 7. No conditions beside those in its theorems. -/
import Derived.Test.YtpiicallicgdkaaGreatFaultRepairedE
set_option linter.unusedVariables false
open Go Eng Go.Proofs Go.RowKit
namespace faultRepairedW
open Base
theorem e6_t_0 : (List.range' 0 4).all (fun m => run 6 m true) = true := by decide +kernel
theorem e6_t_4 : (List.range' 4 4).all (fun m => run 6 m true) = true := by decide +kernel
theorem e6_f_0 : (List.range' 0 4).all (fun m => run 6 m false) = true := by decide +kernel
theorem e6_f_4 : (List.range' 4 4).all (fun m => run 6 m false) = true := by decide +kernel
end faultRepairedW
