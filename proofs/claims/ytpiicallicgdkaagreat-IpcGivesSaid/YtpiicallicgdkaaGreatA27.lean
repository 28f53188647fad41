/- awake() of chapter 26 answers true wherever it is called. No conditions. -/
import Derived.Test.YtpiicallicgdkaaGreatW
open Go Eng Go.Proofs Go.RowKit
namespace Base
theorem awake27 : says true (eval (cfgW [s20] [] [] []) 300 X0 (.call 27 []) ⟨.nil, 0⟩) = true := by decide +kernel
theorem aw27 (σ : Sig) : ∀ C : Cfg, C.fu = Tab.fuT.get → Summ Tryz.prog σ C ⟨27, [], .one (.bool true)⟩ := fun C hC => summW (gs20 σ) C hC awake27
end Base
