/- The run of Start, by evaluation. No conditions beside those in its theorems. -/
import Derived.Test.YtijplfaplkkpcaaGreatE16
set_option linter.unusedVariables false
set_option linter.unusedSimpArgs false
set_option linter.unusedSectionVars false
set_option linter.constructorNameAsVariable false
set_option maxRecDepth 100000
noncomputable section
namespace V
open Go Eng Go.Proofs
def frB:FR:=⟨T.ofList [.one (.rc 640 (.lit 0) 0)],.nil,[]⟩
def hB:H:=Aa [] 0
def ev3:OR:=GY (eval (CS WD) 400 X4 (.code kR3 frB) hB) fun fr h=>GY (eval (CS WD) 400 X4 (.code kS4 fr) h) fun fr h=>eval (CS WD) 400 X4 (.code kR6 fr) h
def LR(fr:FR)(i:Nat)(v:AV):Bool:=match T.get fr.pt i with |some u=>AV.AJ u v|none=>false
def AlO(r:OR):Bool:=match r with
 |some (.code .norm fr h)=>((stB.all fun p=>hasB h p.1 p.2)&&(Gc stB stN&&Nat.ble h.next stN))&&(LR fr 0 (.one (.rc 640 (.lit 0) 0))&&(LR fr 3 (.one (.ptr 43 0))&&(LR fr 5 (.one (.int .i64 0))&&fr.marks.isEmpty)))
 |_=>false
theorem Asn:AlO ev3=true:=by decide +kernel
end V
end
