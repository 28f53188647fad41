/- FaultAlone: evaluations, part 2. No conditions beside those in its theorems. -/
import Derived.Test.YtcdhglfdgmeokaaGreatFA
set_option linter.unusedVariables false
open Go Eng Go.Proofs Go.RowKit
namespace faultAloneW
open Base
theorem r3_2t : run tC (n3 2) true = true := by decide +kernel
theorem r3_2f : run tC (n3 2) false = true := by decide +kernel
theorem r2_3t : run tC (n2 3) true = true := by decide +kernel
theorem r2_3f : run tC (n2 3) false = true := by decide +kernel
theorem r1_4t : run tC (n1 4) true = true := by decide +kernel
theorem r1_4f : run tC (n1 4) false = true := by decide +kernel
theorem r3_6t : run tC (n3 6) true = true := by decide +kernel
theorem r3_6f : run tC (n3 6) false = true := by decide +kernel
theorem r2_7t : run tC (n2 7) true = true := by decide +kernel
theorem r2_7f : run tC (n2 7) false = true := by decide +kernel
theorem r4_1t : run tD (n4 1) true = true := by decide +kernel
theorem r4_1f : run tD (n4 1) false = true := by decide +kernel
theorem r4_5t : run tD (n4 5) true = true := by decide +kernel
theorem r4_5f : run tD (n4 5) false = true := by decide +kernel
end faultAloneW
