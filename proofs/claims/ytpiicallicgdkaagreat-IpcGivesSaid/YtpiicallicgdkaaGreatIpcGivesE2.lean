/- IpcGives: evaluations, part 3. No conditions beside those in its theorems. -/
import Derived.Test.YtpiicallicgdkaaGreatIpcGivesE
set_option linter.unusedVariables false
open Go Eng Go.Proofs Go.RowKit
namespace ipcGivesW
open Base
theorem e5_t_0 : (List.range' 0 17).all (fun m => run 5 m true) = true := by decide +kernel
theorem e5_f_0 : (List.range' 0 17).all (fun m => run 5 m false) = true := by decide +kernel
theorem e6_t_0 : (List.range' 0 17).all (fun m => run 6 m true) = true := by decide +kernel
theorem e6_f_0 : (List.range' 0 17).all (fun m => run 6 m false) = true := by decide +kernel
theorem e7_t_0 : (List.range' 0 17).all (fun m => run 7 m true) = true := by decide +kernel
end ipcGivesW
