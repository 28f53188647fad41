/- The arena's Add, its cases joined. No conditions beside those in its theorems. -/
import Derived.Test.YtijplfaplkkpcaaGreatE18
import Derived.Test.YtijplfaplkkpcaaGreatGA0
import Derived.Test.YtijplfaplkkpcaaGreatGA1
import Derived.Test.YtijplfaplkkpcaaGreatGA2
import Derived.Test.YtijplfaplkkpcaaGreatGA3
import Derived.Test.YtijplfaplkkpcaaGreatGA4
import Derived.Test.YtijplfaplkkpcaaGreatGA5
import Derived.Test.YtijplfaplkkpcaaGreatGA6
import Derived.Test.YtijplfaplkkpcaaGreatGA7
import Derived.Test.YtijplfaplkkpcaaGreatE34
set_option linter.unusedVariables false
set_option linter.unusedSimpArgs false
set_option linter.unusedSectionVars false
set_option linter.constructorNameAsVariable false
set_option maxRecDepth 100000
noncomputable section
namespace V
open Go Eng Go.Proofs
theorem DR{v:BP}(hv:AZ WD v){c:Bq}(i:Nat)(h:v.cs[i]? =some (c,true)):c.ok WD:=(hv.cs.mem _ (Oj h)).1
def nC:Nat:=Zs.cs.length
def cA:Bq:=match AkQ.cs[nC]? with |some (c,_)=>{c with cf:=c.cf.tail}|none=>{f:=0,args:=[],bl:=[],n:=0,np:=0,hi:=0,outs:=[]}
theorem gLo:(cA.atF ⟨.lss,.var 69,.lit 0,true⟩).ok WD:=DR Xm nC (by kernel_rfl)
theorem gHi:(cA.atF ⟨.gtr,.var 69,.lit 31,true⟩).ok WD:=DR Xm (nC+1) (by kernel_rfl)
theorem gA0:(cA.Ed 69 0).ok WD:=DR Nd (nC+0) (by kernel_rfl)
theorem gA1:(cA.Ed 69 1).ok WD:=DR Nd (nC+1) (by kernel_rfl)
theorem gA2:(cA.Ed 69 2).ok WD:=DR Nd (nC+2) (by kernel_rfl)
theorem gA3:(cA.Ed 69 3).ok WD:=DR Nd (nC+3) (by kernel_rfl)
theorem gA4:(cA.Ed 69 4).ok WD:=DR Nf (nC+0) (by kernel_rfl)
theorem gA5:(cA.Ed 69 5).ok WD:=DR Nf (nC+1) (by kernel_rfl)
theorem gA6:(cA.Ed 69 6).ok WD:=DR Nf (nC+2) (by kernel_rfl)
theorem gA7:(cA.Ed 69 7).ok WD:=DR Nf (nC+3) (by kernel_rfl)
theorem gA8:(cA.Ed 69 8).ok WD:=DR Ng (nC+0) (by kernel_rfl)
theorem gA9:(cA.Ed 69 9).ok WD:=DR Ng (nC+1) (by kernel_rfl)
theorem Atx:(cA.Ed 69 10).ok WD:=DR Ng (nC+2) (by kernel_rfl)
theorem Aty:(cA.Ed 69 11).ok WD:=DR Ng (nC+3) (by kernel_rfl)
theorem Atz:(cA.Ed 69 12).ok WD:=DR Nh (nC+0) (by kernel_rfl)
theorem At0:(cA.Ed 69 13).ok WD:=DR Nh (nC+1) (by kernel_rfl)
theorem At1:(cA.Ed 69 14).ok WD:=DR Nh (nC+2) (by kernel_rfl)
theorem At3:(cA.Ed 69 15).ok WD:=DR Nh (nC+3) (by kernel_rfl)
theorem At4:(cA.Ed 69 16).ok WD:=DR Ni (nC+0) (by kernel_rfl)
theorem At5:(cA.Ed 69 17).ok WD:=DR Ni (nC+1) (by kernel_rfl)
theorem At6:(cA.Ed 69 18).ok WD:=DR Ni (nC+2) (by kernel_rfl)
theorem At7:(cA.Ed 69 19).ok WD:=DR Ni (nC+3) (by kernel_rfl)
theorem At8:(cA.Ed 69 20).ok WD:=DR Nj (nC+0) (by kernel_rfl)
theorem At9:(cA.Ed 69 21).ok WD:=DR Nj (nC+1) (by kernel_rfl)
theorem AtA:(cA.Ed 69 22).ok WD:=DR Nj (nC+2) (by kernel_rfl)
theorem AtB:(cA.Ed 69 23).ok WD:=DR Nj (nC+3) (by kernel_rfl)
theorem AtC:(cA.Ed 69 24).ok WD:=DR Nk (nC+0) (by kernel_rfl)
theorem AtD:(cA.Ed 69 25).ok WD:=DR Nk (nC+1) (by kernel_rfl)
theorem AtE:(cA.Ed 69 26).ok WD:=DR Nk (nC+2) (by kernel_rfl)
theorem AtF:(cA.Ed 69 27).ok WD:=DR Nk (nC+3) (by kernel_rfl)
theorem AtG:(cA.Ed 69 28).ok WD:=DR Nl (nC+0) (by kernel_rfl)
theorem AtH:(cA.Ed 69 29).ok WD:=DR Nl (nC+1) (by kernel_rfl)
theorem AtI:(cA.Ed 69 30).ok WD:=DR Nl (nC+2) (by kernel_rfl)
theorem AtJ:(cA.Ed 69 31).ok WD:=DR Nl (nC+3) (by kernel_rfl)
theorem AtK:∀n:Nat,n<32->(cA.Ed 69 (n:Int)).ok WD
 | 0,_=>gA0
 | 1,_=>gA1
 | 2,_=>gA2
 | 3,_=>gA3
 | 4,_=>gA4
 | 5,_=>gA5
 | 6,_=>gA6
 | 7,_=>gA7
 | 8,_=>gA8
 | 9,_=>gA9
 | 10,_=>Atx
 | 11,_=>Aty
 | 12,_=>Atz
 | 13,_=>At0
 | 14,_=>At1
 | 15,_=>At3
 | 16,_=>At4
 | 17,_=>At5
 | 18,_=>At6
 | 19,_=>At7
 | 20,_=>At8
 | 21,_=>At9
 | 22,_=>AtA
 | 23,_=>AtB
 | 24,_=>AtC
 | 25,_=>AtD
 | 26,_=>AtE
 | 27,_=>AtF
 | 28,_=>AtG
 | 29,_=>AtH
 | 30,_=>AtI
 | 31,_=>AtJ
 |n+32,h=>absurd h (by omega)
theorem Apx:cA.ok WD:=by
 refine Bq.ok.cases 69 0 31 gLo gHi fun k h1 h2=>?_
 obtain⟨n,rfl⟩:∃n:Nat,k=n:=⟨k.toNat,by omega⟩
 exact AtK n (by omega)
theorem Atj:cA.q=fun _=>True:=by kernel_rfl
def e14:BP:=⟨Zs.cs++[(cA,true)],Zs.ls,Zs.rs⟩
theorem Vv:AZ WD e14:=⟨GM.cs.append (.cons ⟨Apx,fun _ _=>by rw[show (cA,true).1=cA from rfl,Atj];trivial⟩ .nil),GM.ls,GM.rs⟩
end V
end
