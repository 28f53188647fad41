/- awake() of chapter 25 answers true wherever it is called. No conditions. -/
import Derived.Test.YtcdhglfdgmeokaaGreatG132
open Go Eng Go.Proofs Go.RowKit
namespace Base
theorem awake37 : says true (eval (cfgW (s132 :: [s19]) [] [] []) 300 X0 (.call 37 []) ⟨.nil, 0⟩) = true := by decide +kernel
theorem aw37 (σ : Sig) : ∀ C : Cfg, C.fu = Tab.fuT.get → Summ Tryz.prog σ C ⟨37, [], .one (.bool true)⟩ := fun C hC => summW (gs132 σ) C hC awake37
end Base
