/- The arena's Add, four of its places. No conditions beside those in its theorems. -/
import Derived.Test.YtijplfaplkkpcaaGreatGA0
set_option linter.unusedVariables false
set_option linter.unusedSimpArgs false
set_option linter.unusedSectionVars false
set_option linter.constructorNameAsVariable false
set_option maxRecDepth 100000
noncomputable section
namespace V
open Go Eng
def Aq9:List Eng.Item:=Dc.Eh WD.fu nA [4,5,6,7]
def ApF:BP:=Zs.DP WD Aq9
theorem Nf:AZ WD ApF:=Bk BZ GM (by decide +kernel)
end V
end
