/- awake() of chapter 24 answers true wherever it is called. No conditions. -/
import Derived.Test.YtpiicallicgdkaaGreatG30
open Go Eng Go.Proofs Go.RowKit
namespace Base
theorem awake38 : says true (eval (cfgW (s30 :: [s20]) [] [] []) 300 X0 (.call 38 []) ⟨.nil, 0⟩) = true := by decide +kernel
theorem aw38 (σ : Sig) : ∀ C : Cfg, C.fu = Tab.fuT.get → Summ Tryz.prog σ C ⟨38, [], .one (.bool true)⟩ := fun C hC => summW (gs30 σ) C hC awake38
end Base
