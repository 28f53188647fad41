/- awake() of chapter 27 answers true wherever it is called. No conditions. -/
import Derived.Test.YtcdhglfdgmeokaaGreatG59
open Go Eng Go.Proofs Go.RowKit
namespace Base
theorem awake58 : says true (eval (cfgW (s59 :: s132 :: [s19]) [] [] []) 300 X0 (.call 58 []) ⟨.nil, 0⟩) = true := by decide +kernel
theorem aw58 (σ : Sig) : ∀ C : Cfg, C.fu = Tab.fuT.get → Summ Tryz.prog σ C ⟨58, [], .one (.bool true)⟩ := fun C hC => summW (gs59 σ) C hC awake58
end Base
