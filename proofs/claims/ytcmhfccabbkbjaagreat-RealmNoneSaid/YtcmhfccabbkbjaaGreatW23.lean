/- awake() of chapter 23, which answers true. No conditions. -/
import Derived.Test.YtcmhfccabbkbjaaGreatB
open Go Eng Go.Proofs Go.RowKit
namespace Base
theorem awake23 : says true (eval cfg0 300 X0 (.call 21 []) ⟨.nil, 0⟩) = true := by decide +kernel
end Base
