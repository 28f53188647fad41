/- The law's own parts, and that awake answers true. No conditions beside those in its theorems. -/
import Derived.Test.YtijplfaplkkpcaaGreatE12
import Derived.Test.YtijplfaplkkpcaaGreatE14
set_option linter.unusedVariables false
set_option linter.unusedSimpArgs false
set_option linter.unusedSectionVars false
set_option linter.constructorNameAsVariable false
set_option maxRecDepth 100000
noncomputable section
section
open Go Eng Go.Proofs
namespace Eng
variable {P:Program} {b:Frame} {a:Act} {w:World}
theorem El.Aee{c1 c2:Code}{o:Out}{Q1 Q:Act->World->Prop}(h1:El P c1 b a w .norm Q1)(h2:∀a' w',Q1 a' w'->El P c2 b a' w' o Q):El P (.seq c1 c2) b a w o Q:=
 DE (by simp) fun k cs=>by
  obtain⟨a1,w1,q1,s1⟩:=h1 _ (.code c2::k) cs .code;obtain⟨a2,w2,q2,s2⟩:=h2 a1 w1 q1 _ k cs .code;exact⟨a2,w2,q2,.of_steps (.head stepR_seq s1) s2⟩
end Eng
namespace V
def bd4:Code:=(Tryz.f4.body).getD .skip
def sqA(c:Code):Code:=match c with |.seq a _=>a|_=>.skip
def UA(c:Code):Code:=match c with |.seq _ b=>b|_=>.skip
def X4:Ctx:=⟨4,98,10,none⟩
def kR0:Code:=sqA bd4
def kS1:Code:=sqA (UA bd4)
def kR3:Code:=sqA (UA (UA bd4))
def kS4:Code:=sqA (UA (UA (UA bd4)))
def kR6:Code:=sqA (sqA (UA (UA (UA (UA bd4)))))
def kLp:Code:=UA (sqA (UA (UA (UA (UA bd4)))))
def Aay:Code:=UA (UA (UA (UA (UA bd4))))
theorem Ams:bd4=.seq kR0 (.seq kS1 (.seq kR3 (.seq kS4 (.seq (.seq kR6 kLp) Aay)))):=by kernel_rfl
def Acx(r:OR):Bool:=match r with |some (.code .ret fr _)=>(match T.get fr.pt 2 with |some v=>AV.AJ v (.one (.bool true))&&fr.marks.isEmpty|none=>false)|_=>false
def fr0:FR:=⟨.nil,.nil,[]⟩
theorem AmM:Acx (eval (CS WD) 400 X4 (.code Aay fr0) (Aa [] 0))=true:=by decide +kernel
end V
end
end
