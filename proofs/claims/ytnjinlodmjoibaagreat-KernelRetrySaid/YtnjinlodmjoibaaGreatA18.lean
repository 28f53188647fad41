/- awake() of chapter 29 answers true wherever it is called. No conditions. -/
import Derived.Test.YtnjinlodmjoibaaGreatG8
open Go Eng Go.Proofs Go.RowKit
namespace Base
theorem awake18 : says true (eval (cfgW (s8 :: s40 :: [s32]) [] [] []) 300 X0 (.call 18 []) ⟨.nil, 0⟩) = true := by decide +kernel
theorem aw18 (σ : Sig) : ∀ C : Cfg, C.fu = Tab.fuT.get → Summ Tryz.prog σ C ⟨18, [], .one (.bool true)⟩ := fun C hC => summW (gs8 σ) C hC awake18
end Base
