/- The law, called with more than 60 acts. No conditions beside those in its theorems. -/
import Derived.Test.YtijplfaplkkpcaaGreatE20
set_option linter.unusedVariables false
set_option linter.unusedSimpArgs false
set_option linter.unusedSectionVars false
set_option linter.constructorNameAsVariable false
set_option maxRecDepth 100000
noncomputable section
namespace V
open Go Eng
def n26:List Nat:=[0xcbe54941bfe419ff964d46359c495c2c22d6f422]
def i26:List Eng.Item:=Dc.items WD.fu n26
def e26:BP:=e0.DP WD i26
theorem AmL:AZ WD e26:=Bk BZ Nc (by decide +kernel)
end V
end
