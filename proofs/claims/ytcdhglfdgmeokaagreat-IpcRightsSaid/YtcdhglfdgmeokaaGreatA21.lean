/- awake() of chapter 26 answers true wherever it is called. No conditions. -/
import Derived.Test.YtcdhglfdgmeokaaGreatW
open Go Eng Go.Proofs Go.RowKit
namespace Base
theorem awake21 : says true (eval (cfgW [s19] [] [] []) 300 X0 (.call 21 []) ⟨.nil, 0⟩) = true := by decide +kernel
theorem aw21 (σ : Sig) : ∀ C : Cfg, C.fu = Tab.fuT.get → Summ Tryz.prog σ C ⟨21, [], .one (.bool true)⟩ := fun C hC => summW (gs19 σ) C hC awake21
end Base
