/- The arena's Add, four of its places. No conditions beside those in its theorems. -/
import Derived.Test.YtijplfaplkkpcaaGreatGA0
set_option linter.unusedVariables false
set_option linter.unusedSimpArgs false
set_option linter.unusedSectionVars false
set_option linter.constructorNameAsVariable false
set_option maxRecDepth 100000
noncomputable section
namespace V
open Go Eng
def AqB:List Eng.Item:=Dc.Eh WD.fu nA [12,13,14,15]
def ApH:BP:=Zs.DP WD AqB
theorem Nh:AZ WD ApH:=Bk BZ GM (by decide +kernel)
end V
end
