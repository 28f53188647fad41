/- The document's arena: its cases joined. No conditions beside those in its theorems. -/
import Derived.Test.YtijplfaplkkpcaaGreatE18
import Derived.Test.YtijplfaplkkpcaaGreatE40
set_option linter.unusedVariables false
set_option linter.unusedSimpArgs false
set_option linter.unusedSectionVars false
set_option linter.constructorNameAsVariable false
set_option maxRecDepth 100000
noncomputable section
namespace V
open Go Eng Go.Proofs
theorem Cm{v:BP}(hv:AZ WD v){c:Bq}(i:Nat)(h:v.cs[i]? =some (c,true)):c.ok WD:=(hv.cs.mem _ (Oj h)).1
def KE:Nat:=e22.cs.length
def IN:Bq:=match AkR.cs[KE]? with |some (c,_)=>{c with cf:=c.cf.tail}|none=>{f:=0,args:=[],bl:=[],n:=0,np:=0,hi:=0,outs:=[]}
theorem AtY:(IN.atF ⟨.lss,.var 69,.lit 0,true⟩).ok WD:=Cm Xn KE (by kernel_rfl)
theorem AtX:(IN.atF ⟨.gtr,.var 69,.lit 31,true⟩).ok WD:=Cm Xn (KE+1) (by kernel_rfl)
theorem AtL:(IN.Ed 69 0).ok WD:=Cm Nm (KE+0) (by kernel_rfl)
theorem AtM:(IN.Ed 69 1).ok WD:=Cm Nm (KE+1) (by kernel_rfl)
theorem AtN:(IN.Ed 69 2).ok WD:=Cm Nm (KE+2) (by kernel_rfl)
theorem AtO:(IN.Ed 69 3).ok WD:=Cm Nm (KE+3) (by kernel_rfl)
theorem AtP:(IN.Ed 69 4).ok WD:=Cm Nn (KE+0) (by kernel_rfl)
theorem AtQ:(IN.Ed 69 5).ok WD:=Cm Nn (KE+1) (by kernel_rfl)
theorem AtS:(IN.Ed 69 6).ok WD:=Cm Nn (KE+2) (by kernel_rfl)
theorem AtT:(IN.Ed 69 7).ok WD:=Cm Nn (KE+3) (by kernel_rfl)
theorem AtU:(IN.Ed 69 8).ok WD:=Cm No (KE+0) (by kernel_rfl)
theorem AtV:(IN.Ed 69 9).ok WD:=Cm No (KE+1) (by kernel_rfl)
theorem Aqi:(IN.Ed 69 10).ok WD:=Cm No (KE+2) (by kernel_rfl)
theorem Aqj:(IN.Ed 69 11).ok WD:=Cm No (KE+3) (by kernel_rfl)
theorem Aqk:(IN.Ed 69 12).ok WD:=Cm Np (KE+0) (by kernel_rfl)
theorem Aql:(IN.Ed 69 13).ok WD:=Cm Np (KE+1) (by kernel_rfl)
theorem Aqm:(IN.Ed 69 14).ok WD:=Cm Np (KE+2) (by kernel_rfl)
theorem Aqn:(IN.Ed 69 15).ok WD:=Cm Np (KE+3) (by kernel_rfl)
theorem Aqo:(IN.Ed 69 16).ok WD:=Cm Nq (KE+0) (by kernel_rfl)
theorem Aqp:(IN.Ed 69 17).ok WD:=Cm Nq (KE+1) (by kernel_rfl)
theorem Aqq:(IN.Ed 69 18).ok WD:=Cm Nq (KE+2) (by kernel_rfl)
theorem Aqr:(IN.Ed 69 19).ok WD:=Cm Nq (KE+3) (by kernel_rfl)
theorem Aqs:(IN.Ed 69 20).ok WD:=Cm Nr (KE+0) (by kernel_rfl)
theorem Aqt:(IN.Ed 69 21).ok WD:=Cm Nr (KE+1) (by kernel_rfl)
theorem Aqu:(IN.Ed 69 22).ok WD:=Cm Nr (KE+2) (by kernel_rfl)
theorem Aqv:(IN.Ed 69 23).ok WD:=Cm Nr (KE+3) (by kernel_rfl)
theorem Aqw:(IN.Ed 69 24).ok WD:=Cm Ns (KE+0) (by kernel_rfl)
theorem Aqx:(IN.Ed 69 25).ok WD:=Cm Ns (KE+1) (by kernel_rfl)
theorem Aqy:(IN.Ed 69 26).ok WD:=Cm Ns (KE+2) (by kernel_rfl)
theorem Aqz:(IN.Ed 69 27).ok WD:=Cm Ns (KE+3) (by kernel_rfl)
theorem Aq0:(IN.Ed 69 28).ok WD:=Cm Nt (KE+0) (by kernel_rfl)
theorem Aq1:(IN.Ed 69 29).ok WD:=Cm Nt (KE+1) (by kernel_rfl)
theorem Aq2:(IN.Ed 69 30).ok WD:=Cm Nt (KE+2) (by kernel_rfl)
theorem Aq3:(IN.Ed 69 31).ok WD:=Cm Nt (KE+3) (by kernel_rfl)
theorem Aq4:∀n:Nat,n<32->(IN.Ed 69 (n:Int)).ok WD
 | 0,_=>AtL
 | 1,_=>AtM
 | 2,_=>AtN
 | 3,_=>AtO
 | 4,_=>AtP
 | 5,_=>AtQ
 | 6,_=>AtS
 | 7,_=>AtT
 | 8,_=>AtU
 | 9,_=>AtV
 | 10,_=>Aqi
 | 11,_=>Aqj
 | 12,_=>Aqk
 | 13,_=>Aql
 | 14,_=>Aqm
 | 15,_=>Aqn
 | 16,_=>Aqo
 | 17,_=>Aqp
 | 18,_=>Aqq
 | 19,_=>Aqr
 | 20,_=>Aqs
 | 21,_=>Aqt
 | 22,_=>Aqu
 | 23,_=>Aqv
 | 24,_=>Aqw
 | 25,_=>Aqx
 | 26,_=>Aqy
 | 27,_=>Aqz
 | 28,_=>Aq0
 | 29,_=>Aq1
 | 30,_=>Aq2
 | 31,_=>Aq3
 |n+32,h=>absurd h (by omega)
theorem Amx:IN.ok WD:=by
 refine Bq.ok.cases 69 0 31 AtY AtX fun k h1 h2=>?_
 obtain⟨n,rfl⟩:∃n:Nat,k=n:=⟨k.toNat,by omega⟩
 exact Aq4 n (by omega)
theorem Apy:IN.q=fun _=>True:=by kernel_rfl
def e23:BP:=⟨e22.cs++[(IN,true)],e22.ls,e22.rs⟩
theorem AmJ:AZ WD e23:=⟨GN.cs.append (.cons ⟨Amx,fun _ _=>by rw[show (IN,true).1=IN from rfl,Apy];trivial⟩ .nil),GN.ls,GN.rs⟩
end V
end
