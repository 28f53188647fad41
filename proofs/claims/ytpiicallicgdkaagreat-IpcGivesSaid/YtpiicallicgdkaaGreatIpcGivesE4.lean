/- IpcGives: evaluations, part 5. No conditions beside those in its theorems. -/
import Derived.Test.YtpiicallicgdkaaGreatIpcGivesE
set_option linter.unusedVariables false
open Go Eng Go.Proofs Go.RowKit
namespace ipcGivesW
open Base
theorem e10_t_0 : (List.range' 0 17).all (fun m => run 10 m true) = true := by decide +kernel
theorem e10_f_0 : (List.range' 0 17).all (fun m => run 10 m false) = true := by decide +kernel
theorem e11_t_0 : (List.range' 0 17).all (fun m => run 11 m true) = true := by decide +kernel
theorem e11_f_0 : (List.range' 0 17).all (fun m => run 11 m false) = true := by decide +kernel
theorem e12_t_0 : (List.range' 0 17).all (fun m => run 12 m true) = true := by decide +kernel
end ipcGivesW
