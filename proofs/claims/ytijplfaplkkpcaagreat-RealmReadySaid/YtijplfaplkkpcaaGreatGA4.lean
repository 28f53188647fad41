/- The arena's Add, four of its places. No conditions beside those in its theorems. -/
import Derived.Test.YtijplfaplkkpcaaGreatGA0
set_option linter.unusedVariables false
set_option linter.unusedSimpArgs false
set_option linter.unusedSectionVars false
set_option linter.constructorNameAsVariable false
set_option maxRecDepth 100000
noncomputable section
namespace V
open Go Eng
def AqC:List Eng.Item:=Dc.Eh WD.fu nA [16,17,18,19]
def ApI:BP:=Zs.DP WD AqC
theorem Ni:AZ WD ApI:=Bk BZ GM (by decide +kernel)
end V
end
