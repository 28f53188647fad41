/- FaultAlone: evaluations, part 1. No conditions beside those in its theorems. -/
import Derived.Test.YtcdhglfdgmeokaaGreatFA
set_option linter.unusedVariables false
open Go Eng Go.Proofs Go.RowKit
namespace faultAloneW
open Base
theorem rAt : run tA [] true = true := by decide +kernel
theorem rBt : run tB [] true = true := by decide +kernel
theorem rAf : run tA [] false = true := by decide +kernel
theorem rBf : run tB [] false = true := by decide +kernel
theorem r3_1t : run tC (n3 1) true = true := by decide +kernel
theorem r3_1f : run tC (n3 1) false = true := by decide +kernel
theorem r2_2t : run tC (n2 2) true = true := by decide +kernel
theorem r2_2f : run tC (n2 2) false = true := by decide +kernel
theorem r1_3t : run tC (n1 3) true = true := by decide +kernel
theorem r1_3f : run tC (n1 3) false = true := by decide +kernel
theorem r3_5t : run tC (n3 5) true = true := by decide +kernel
theorem r3_5f : run tC (n3 5) false = true := by decide +kernel
theorem r2_6t : run tC (n2 6) true = true := by decide +kernel
theorem r2_6f : run tC (n2 6) false = true := by decide +kernel
theorem r1_7t : run tC (n1 7) true = true := by decide +kernel
theorem r1_7f : run tC (n1 7) false = true := by decide +kernel
theorem r4_0t : run tD (n4 0) true = true := by decide +kernel
theorem r4_0f : run tD (n4 0) false = true := by decide +kernel
theorem r4_4t : run tD (n4 4) true = true := by decide +kernel
theorem r4_4f : run tD (n4 4) false = true := by decide +kernel
end faultAloneW
