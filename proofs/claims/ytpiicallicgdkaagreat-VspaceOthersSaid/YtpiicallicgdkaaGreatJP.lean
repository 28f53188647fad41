/- Closed facts of the program alone, one by one. No conditions. -/
import Derived.Test.YtpiicallicgdkaaGreatRows
import Derived.JoinedOf
import Derived.KernelRfl
open Go
namespace JP
set_option maxRecDepth 100000
theorem p1 : laidOutB Go.Proofs.YtpiicallicgdkaaGreat.Tryz.pinned.checked.prog = true := by kernel_rfl
theorem p2 : mapsRowed Go.Proofs.YtpiicallicgdkaaGreat.Tryz.pinned.checked.prog = true := by kernel_rfl
theorem p6 : (Go.Proofs.YtpiicallicgdkaaGreat.Tryz.pinned.checked.prog.stops == []) = true := by kernel_rfl
theorem p8 : (Go.Proofs.YtpiicallicgdkaaGreat.Tryz.pinned.checked.prog.stopKnobs == []) = true := by kernel_rfl
theorem p22 : (Go.Proofs.YtpiicallicgdkaaGreat.Rows.faultRepairedRow.plainKeys == Go.Proofs.YtpiicallicgdkaaGreat.Tryz.pinned.checked.prog.plainKeys) = true := by kernel_rfl
theorem p24 : Go.Proofs.YtpiicallicgdkaaGreat.Tryz.pinned.checked.prog.stopsHeard = true := by kernel_rfl
theorem p25 : Go.Proofs.YtpiicallicgdkaaGreat.Tryz.pinned.checked.prog.mayEnter = true := by kernel_rfl
theorem p26 : (Go.Proofs.YtpiicallicgdkaaGreat.Rows.faultRepairedRow.lifted == Go.Proofs.YtpiicallicgdkaaGreat.Tryz.pinned.checked.prog.liftsFinal) = true := by kernel_rfl
theorem p27 : (Go.Proofs.YtpiicallicgdkaaGreat.Tryz.pinned.checked.prog.make == some Go.Proofs.YtpiicallicgdkaaGreat.Rows.faultRepairedRow.make) = true := by kernel_rfl
end JP
