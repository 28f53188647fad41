/- FaultAlone: evaluations, part 3. No conditions beside those in its theorems. -/
import Derived.Test.YtcdhglfdgmeokaaGreatFA
set_option linter.unusedVariables false
open Go Eng Go.Proofs Go.RowKit
namespace faultAloneW
open Base
theorem r1_1t : run tC (n1 1) true = true := by decide +kernel
theorem r1_1f : run tC (n1 1) false = true := by decide +kernel
theorem r3_3t : run tC (n3 3) true = true := by decide +kernel
theorem r3_3f : run tC (n3 3) false = true := by decide +kernel
theorem r2_4t : run tC (n2 4) true = true := by decide +kernel
theorem r2_4f : run tC (n2 4) false = true := by decide +kernel
theorem r1_5t : run tC (n1 5) true = true := by decide +kernel
theorem r1_5f : run tC (n1 5) false = true := by decide +kernel
theorem r3_7t : run tC (n3 7) true = true := by decide +kernel
theorem r3_7f : run tC (n3 7) false = true := by decide +kernel
theorem r4_2t : run tD (n4 2) true = true := by decide +kernel
theorem r4_2f : run tD (n4 2) false = true := by decide +kernel
theorem r4_6t : run tD (n4 6) true = true := by decide +kernel
theorem r4_6f : run tD (n4 6) false = true := by decide +kernel
end faultAloneW
