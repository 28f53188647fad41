/- awake() of chapter 24 answers true wherever it is called. No conditions. -/
import Derived.Test.YtcdhglfdgmeokaaGreatG132
open Go Eng Go.Proofs Go.RowKit
namespace Base
theorem awake34 : says true (eval (cfgW (s132 :: [s19]) [] [] []) 300 X0 (.call 34 []) ⟨.nil, 0⟩) = true := by decide +kernel
theorem aw34 (σ : Sig) : ∀ C : Cfg, C.fu = Tab.fuT.get → Summ Tryz.prog σ C ⟨34, [], .one (.bool true)⟩ := fun C hC => summW (gs132 σ) C hC awake34
end Base
