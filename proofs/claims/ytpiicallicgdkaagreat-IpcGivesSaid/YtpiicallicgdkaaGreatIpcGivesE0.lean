/- IpcGives: evaluations, part 1. No conditions beside those in its theorems. -/
import Derived.Test.YtpiicallicgdkaaGreatIpcGivesE
set_option linter.unusedVariables false
open Go Eng Go.Proofs Go.RowKit
namespace ipcGivesW
open Base
theorem e0_t_0 : (List.range' 0 17).all (fun m => run 0 m true) = true := by decide +kernel
theorem e0_f_0 : (List.range' 0 17).all (fun m => run 0 m false) = true := by decide +kernel
theorem e1_t_0 : (List.range' 0 17).all (fun m => run 1 m true) = true := by decide +kernel
theorem e1_f_0 : (List.range' 0 17).all (fun m => run 1 m false) = true := by decide +kernel
theorem e2_t_0 : (List.range' 0 17).all (fun m => run 2 m true) = true := by decide +kernel
end ipcGivesW
