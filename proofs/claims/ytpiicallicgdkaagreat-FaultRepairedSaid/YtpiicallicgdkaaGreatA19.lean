/- awake() of chapter 27 answers true wherever it is called. No conditions. -/
import Derived.Test.YtpiicallicgdkaaGreatG7
open Go Eng Go.Proofs Go.RowKit
namespace Base
theorem awake19 : says true (eval (cfgW (s7 :: s30 :: [s20]) [] [] []) 300 X0 (.call 19 []) ⟨.nil, 0⟩) = true := by decide +kernel
theorem aw19 (σ : Sig) : ∀ C : Cfg, C.fu = Tab.fuT.get → Summ Tryz.prog σ C ⟨19, [], .one (.bool true)⟩ := fun C hC => summW (gs7 σ) C hC awake19
end Base
