/- IpcGives: evaluations, part 6. No conditions beside those in its theorems. -/
import Derived.Test.YtpiicallicgdkaaGreatIpcGivesE
set_option linter.unusedVariables false
open Go Eng Go.Proofs Go.RowKit
namespace ipcGivesW
open Base
theorem e12_f_0 : (List.range' 0 17).all (fun m => run 12 m false) = true := by decide +kernel
theorem e13_t_0 : (List.range' 0 17).all (fun m => run 13 m true) = true := by decide +kernel
theorem e13_f_0 : (List.range' 0 17).all (fun m => run 13 m false) = true := by decide +kernel
theorem e14_t_0 : (List.range' 0 17).all (fun m => run 14 m true) = true := by decide +kernel
theorem e14_f_0 : (List.range' 0 17).all (fun m => run 14 m false) = true := by decide +kernel
end ipcGivesW
