/- IpcGives: evaluations, part 2. No conditions beside those in its theorems. -/
import Derived.Test.YtpiicallicgdkaaGreatIpcGivesE
set_option linter.unusedVariables false
open Go Eng Go.Proofs Go.RowKit
namespace ipcGivesW
open Base
theorem e2_f_0 : (List.range' 0 17).all (fun m => run 2 m false) = true := by decide +kernel
theorem e3_t_0 : (List.range' 0 17).all (fun m => run 3 m true) = true := by decide +kernel
theorem e3_f_0 : (List.range' 0 17).all (fun m => run 3 m false) = true := by decide +kernel
theorem e4_t_0 : (List.range' 0 17).all (fun m => run 4 m true) = true := by decide +kernel
theorem e4_f_0 : (List.range' 0 17).all (fun m => run 4 m false) = true := by decide +kernel
end ipcGivesW
