/- IpcGives: evaluations, part 7. No conditions beside those in its theorems. -/
import Derived.Test.YtpiicallicgdkaaGreatIpcGivesE
set_option linter.unusedVariables false
open Go Eng Go.Proofs Go.RowKit
namespace ipcGivesW
open Base
theorem e15_t_0 : (List.range' 0 17).all (fun m => run 15 m true) = true := by decide +kernel
theorem e15_f_0 : (List.range' 0 17).all (fun m => run 15 m false) = true := by decide +kernel
theorem e16_t_0 : (List.range' 0 17).all (fun m => run 16 m true) = true := by decide +kernel
theorem e16_f_0 : (List.range' 0 17).all (fun m => run 16 m false) = true := by decide +kernel
end ipcGivesW
