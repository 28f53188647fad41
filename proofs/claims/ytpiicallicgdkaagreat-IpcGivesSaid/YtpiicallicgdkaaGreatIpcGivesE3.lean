/- IpcGives: evaluations, part 4. No conditions beside those in its theorems. -/
import Derived.Test.YtpiicallicgdkaaGreatIpcGivesE
set_option linter.unusedVariables false
open Go Eng Go.Proofs Go.RowKit
namespace ipcGivesW
open Base
theorem e7_f_0 : (List.range' 0 17).all (fun m => run 7 m false) = true := by decide +kernel
theorem e8_t_0 : (List.range' 0 17).all (fun m => run 8 m true) = true := by decide +kernel
theorem e8_f_0 : (List.range' 0 17).all (fun m => run 8 m false) = true := by decide +kernel
theorem e9_t_0 : (List.range' 0 17).all (fun m => run 9 m true) = true := by decide +kernel
theorem e9_f_0 : (List.range' 0 17).all (fun m => run 9 m false) = true := by decide +kernel
end ipcGivesW
