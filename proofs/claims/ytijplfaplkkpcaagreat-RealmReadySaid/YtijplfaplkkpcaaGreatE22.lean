/- The queue's facts, as a thing's. No conditions beside those in its theorems. -/
import Derived.Test.YtijplfaplkkpcaaGreatG1
import Derived.Test.YtijplfaplkkpcaaGreatRuleD
set_option linter.unusedVariables false
set_option linter.unusedSimpArgs false
set_option linter.unusedSectionVars false
set_option linter.constructorNameAsVariable false
set_option maxRecDepth 100000
noncomputable section
namespace V
open Go Eng
def UM:Ak:={D:=IU.D,nb:=IU.nb,cf:=IU.cf,rd:=IU.rd,mp:=IU.mp,kind:=IU.kind,np:=2,hi:=3,args:=[.one (.sym .i64 (.var 1))],M8:=[],outs:=[⟨(ap (vs 0 8) (z0 8)),(ap (zs 8) (ns 8 8)),(zs 16),(ns 0 9),.one (.bool false),[],1,[],[],[(.lit 0)],[0],[0],[AG 30 [(.var 1)] [] [] [0]]⟩,⟨(ap (vs 0 8) (z0 8)),(ap (zs 8) (ns 8 8)),(zs 16),(ns 0 9),.one (.bool true),[],1,[],[],[(.lit 0)],[0],[0],[AG 31 [(.var 1)] [] [] [0]]⟩]}
abbrev Oz:Bq:=Dx Xl 7
def IW:Ak:={D:=IU.D,nb:=IU.nb,cf:=IU.cf,rd:=IU.rd,mp:=IU.mp,kind:=IU.kind,np:=2,hi:=3,args:=[.one (.sym .i64 (.var 1))],M8:=[],outs:=[⟨(ap (vs 0 8) (z0 8)),(ap (zs 8) (ns 8 8)),(zs 16),(ns 0 9),.one (.bool false),[],1,[],[],[(.lit 0)],[0],[0],[AG 30 [(.var 1)] [] [] [0]]⟩,⟨(ap (vs 18 8) (z0 8)),(ap (zs 8) (ns 26 8)),(zs 16),(ap [0] (ns 9 8)),.one (.bool true),[],1,[],[],[(.lit 0)],[0],[0],[AG 31 [(.var 1)] [] [] [0],AG 33 [(.var 1)] [] [] [0,2]]⟩]}
abbrev Je:Bq:=Dx Xl 8
def LW:Ak:={D:=IU.D,nb:=IU.nb,cf:=IU.cf,rd:=IU.rd,mp:=IU.mp,kind:=IU.kind,np:=3,hi:=5,args:=[.one (.sym .i64 (.var 1)),.one (.sym .i64 (.var 2))],M8:=[⟨.leq,(.var 1),(.lit 65535),true⟩],outs:=[⟨(ap (vs 0 8) (z0 8)),(ap (zs 8) (ns 8 8)),(zs 16),(ns 0 9),.one (.sym .i64 (.var 4)),[],1,[⟨.lss,(.var 1),(.lit 1),true⟩],[],[(.lit 0),(.var 19)],[0,0],[0],[]⟩,⟨(ap (vs 0 8) (z0 8)),(ap (zs 8) (ns 8 8)),(zs 16),(ns 0 9),.one (.sym .i64 (.var 4)),[],1,[⟨.lss,(.var 2),(.lit 0),true⟩],[],[(.lit 0),(.var 19)],[0,0],[0],[]⟩,⟨(ap (vs 0 8) (z0 8)),(ap (zs 8) (ns 8 8)),(zs 16),(ns 0 9),.one (.sym .i64 (.var 4)),[],1,[⟨.gtr,(.var 2),(.lit 7),true⟩],[],[(.lit 0),(.var 19)],[0,0],[0],[]⟩,⟨(ap (vs 0 8) (z0 8)),(ap (zs 8) (ns 8 8)),(zs 16),(ns 0 9),.one (.sym .i64 (.var 4)),[],1,[],[],[(.lit 0),(.var 19)],[0,0],[0],[AG 31 [(.var 1)] [] [] [0]]⟩,⟨(ap (vs 20 8) (z0 8)),(ap (zs 8) (ns 28 8)),(zs 16),(ap [0] (ns 9 8)),.one (.int .i64 0),[],1,[],[],[(.lit 0)],[0],[0],[AG 30 [(.var 1)] [] [] [0],AG 32 [(.var 1)] [] [] [0,3]]⟩]}
abbrev Mh:Bq:=Dx Xl 9
def UL:Ak:={D:=IU.D,nb:=IU.nb,cf:=IU.cf,rd:=IU.rd,mp:=IU.mp,kind:=IU.kind,np:=1,hi:=4,args:=[],M8:=[],outs:=[⟨(ap (vs 0 8) (z0 8)),(ap (zs 8) (ns 8 8)),(zs 16),(ns 0 9),.one (.B7),[],1,[],[],[(.lit 0)],[0],[0],[AG 34 [(.lit 0)] [] [] [0]]⟩,⟨(ap (vs 0 8) (z0 8)),(ap (zs 8) (ns 8 8)),(zs 16),(ns 0 9),.one (.C2 1 1 (.var 2)),[(1,.row 3 1 (.var 2) [])],2,[cG 2,⟨.leq,(.var 2),(.lit 65535),true⟩],[(3,[.i .i64])],[(.lit 0),(.var 17),(.lit 0)],[0,0,18],[0,9],[AG 34 [(.var 2)] [] [] [0]]⟩]}
abbrev Oy:Bq:=Dx Xl 10
end V
namespace Eng
open Go Go.RowKit
variable {U Y:An} {W:Wd}
def AjM(p q:Nat×Aj):Bool:=Nat.beq p.1 q.1&&p.2.eq2 q.2
theorem AbR{p q:Nat×Aj}(h:AjM p q=true):p=q:=by
 unfold AjM at h;rw[Ah]at h;obtain⟨a,b⟩:=p;obtain⟨c,d⟩:=q;rw[show a=c from beq_eq h.1,show b=d from Aj.GO h.2]
def Ak.fits(F:Ak)(c:Bq):Bool:=
 (Av AjM c.bl F.D.bl&&Nat.beq c.n F.D.n)&&((Av AV.AJ c.args (.one (.ptr 0 0)::F.args.map (AV.sub (Aed F.nb)))&&Av Ep c.cf (F.cf++F.M8.map (EG (Aed F.nb))))&&
 ((Av EK c.rd F.rd&&Av EK c.mp F.mp)&&Nat.beq c.np (Nat.add F.nb F.np)))
theorem Ak.Y0{F:Ak}{c:Bq}(hc:c.ok W/\∀U,c.q U)(hF:(F.fits c&&F.HO c)=true)(hfa:∀p∈F.outs.zip c.outs,∀U,F.post W (fun _=>True) p.1 p.2 U->Al (A2 U) p.1.fa)
 (hK:∀B,AD.is F.kind B↔∃Y,B=F.D.Am W Y/\F.inv (fun _=>True) Y):(F.Bo W (fun _=>True) c).ok W:=by
 rw[Ah]at hF;obtain⟨h1,h2⟩:=hF;unfold Ak.fits at h1;simp only[Ah]at h1;obtain⟨⟨k1,k2⟩,⟨k3,k4⟩,⟨k5,k6⟩,k7⟩:=h1;exact Ak.ok hc.1 h2 (Ag (fun _ _=>AbR) k1) (beq_eq k2) (Ag (fun _ _=>AV.Ac) k3) (Ag (fun _ _=>Cr) k4) (Ag (fun _ _=>BH) k5) (Ag (fun _ _=>BH) k6) (beq_eq k7)
  (fun _ _=>hc.2 _) (fun _ _ _ _=>trivial) (fun _ _ _ _ _=>trivial) hfa hK
def BW(c:Bq)(i:Nat)(g:CF):Bool:=match c.outs[i]? with |some o=>o.cf.any fun f=>Ep f g|none=>false
theorem Ba{c:Bq}{i:Nat}{g:CF}(h:BW c i g=true){o:Ds}(ho:c.outs[i]? =some o)(hp:o.post Y):A2 Y g:=by
 unfold BW at h;rw[ho]at h;obtain⟨f,hf,e⟩:=List.any_eq_true.1 h;rw[<-Cr e];exact hp.cf.mem f hf
theorem Nx{F:Ak}{c:Bq}(h:∀(i:Nat) f o,F.outs[i]? =some f->c.outs[i]? =some o->∀U,F.post W (fun _=>True) f o U->Al (A2 U) f.fa):∀p∈F.outs.zip c.outs,∀U,F.post W (fun _=>True) p.1 p.2 U->Al (A2 U) p.1.fa:=by
 intro p hp U hpo;obtain⟨i,h1,h2⟩:=Ak9 hp;exact h i p.1 p.2 h1 h2 U hpo
theorem HX{F:Ak}{c:Bq}(h:(F.outs.all fun f=>f.fa.isEmpty)=true):∀p∈F.outs.zip c.outs,∀U,F.post W (fun _=>True) p.1 p.2 U->Al (A2 U) p.1.fa:=by
 intro p hp U _;have h1:p.1∈F.outs:=(List.of_mem_zip hp).1;have:=Bf.1 h p.1 h1;rw[List.isEmpty_iff.1 this];exact .nil
theorem Ug(i:Nat){s:PN}(h:C5[i]? =some s:=by rfl):∀x∈C5,x.kind=s.kind->x=s:=by
 have hk:(C5.map PN.kind).Nodup:=by decide +kernel
 intro x hx e;obtain⟨j,hj⟩:=List.getElem?_of_mem hx;have h1:(C5.map PN.kind)[i]? =some s.kind:=by rw[List.getElem?_map,h];rfl
 have h2:(C5.map PN.kind)[j]? =some s.kind:=by rw[List.getElem?_map,hj];exact congrArg some e
 have hi:=(Oq.1 h1).1;have hjl:=(Oq.1 h2).1;have hp:=List.pairwise_iff_getElem.1 hk;have e3:(C5.map PN.kind)[i]=(C5.map PN.kind)[j]:=by
  rw[List.getElem?_eq_getElem hi]at h1;rw[List.getElem?_eq_getElem hjl]at h2;exact Option.some.inj (h1.trans h2.symm)
 have:i=j:=by
  rcases Nat.lt_trichotomy i j with h|h|h
  ·exact (hp i j hi hjl h e3).elim
  ·exact h
  ·exact (hp j i hjl hi h e3.symm).elim
 subst this;rw[h]at hj;exact (Option.some.inj hj).symm
def Kt:List Bool->Bool
 | []=>true
 |b::l=>b&&Kt l
theorem Ab:∀{l:List Bool},Kt l=true->∀{i:Nat} {b:Bool},l[i]? =some b->b=true:=by
 intro l
 induction l with
 |nil=>intro _ i b h;cases h
 |cons a l ih=>
  intro h i b hb;have h:(a&&Kt l)=true:=h;rw[Ah]at h;cases i with
  |zero=>cases hb;exact h.1
  |succ i=>exact ih h.2 hb
theorem Acu{q:Nat}(hq:q<8):(Fi.map (E.den U)).getD q 0=U q:=EA hq
theorem Wc{q:Nat}(hq:q<8):(Iz.map U.r).getD q EB=U.r (8+q):=by
 rcases lt8 hq with rfl|rfl|rfl|rfl|rfl|rfl|rfl|rfl<;>rfl
theorem NO:Fi.length=8:=rfl
theorem NP{a:Nat}:(We a).length=8:=rfl
theorem Acs:Iz.length=8:=rfl
theorem Acv{a q:Nat}(hq:q<8):((We a).map (E.den U)).getD q 0=U (a+q):=by
 rcases lt8 hq with rfl|rfl|rfl|rfl|rfl|rfl|rfl|rfl<;>rfl
theorem Akb{a q:Nat}(hq:q<8):((q8x a).map U.r).getD q EB=U.r (a+8+q):=by
 rcases lt8 hq with rfl|rfl|rfl|rfl|rfl|rfl|rfl|rfl<;>rfl
theorem in3{x:E}(h:A2 Y (AG 3 (Fi++[x]) Iz)):¬CN Y.v (fun i=>Y.r (8+i)) (x.den Y):=by
 have h:∀q,q<8->EX (((Fi++[x]).map (E.den Y)).getD q 0) ((Iz.map Y.r).getD q EB) (((Fi++[x]).map (E.den Y)).getD 8 0):=Af h (h1:=by simp[Fi]) (h2:=by simp[Iz])
 rintro ⟨q,hq,j,hj,e⟩
 refine h q hq j ?_ ?_
 ·rw[show ((Fi++[x]).map (E.den Y)).getD q 0=Y q from Jy hq];exact hj
 ·rw[Wc hq];exact e
theorem in5{x:E}(h:A2 Y (AG 5 (Fi++[x]) Iz)):CN Y.v (fun i=>Y.r (8+i)) (x.den Y):=by
 obtain⟨q,hq,j,hj,e⟩:∃q,q<8/\∃j:Nat,(j:Int)<((Fi++[x]).map (E.den Y)).getD q 0/\numOf ((Iz.map Y.r).getD q EB j 0)=((Fi++[x]).map (E.den Y)).getD 8 0:=Af h (h1:=by simp[Fi]) (h2:=by simp[Iz])
 refine⟨q,hq,j,?_,?_⟩
 ·rw[show ((Fi++[x]).map (E.den Y)).getD q 0=Y q from Jy hq]at hj;exact hj
 ·rw[Wc hq]at e;exact e
theorem AqS{g a:Nat}{x:E}{P:Prop->Prop->Prop}{d:Int}(h:(∀y,CN (fun q=>((Fi++We a++[x]).map (E.den Y)).getD (8+q) 0) (fun q=>((Iz++q8x a).map Y.r).getD (8+q) EB) y↔P (CN (fun q=>((Fi++We a++[x]).map (E.den Y)).getD q 0) (fun q=>((Iz++q8x a).map Y.r).getD q EB) y) (y=((Fi++We a++[x]).map (E.den Y)).getD 16 0))/\
 C4 (fun q=>((Fi++We a++[x]).map (E.den Y)).getD (8+q) 0)=C4 (fun q=>((Fi++We a++[x]).map (E.den Y)).getD q 0)+d):
 (∀y,CN (fun q=>Y (a+q)) (fun q=>Y.r (a+8+q)) y↔P (CN Y.v (fun i=>Y.r (8+i)) y) (y=x.den Y))/\C4 (fun q=>Y (a+q))=C4 Y.v+d:=by
 constructor
 ·intro y;have:=h.1 y;rw[DJ (n':=fun q=>Y (a+q)) (r':=fun q=>Y.r (a+8+q)) (fun q hq=>by rw[IK NO NP hq,Acv hq]) (fun q hq=>by rw[SZ Acs,Akb hq]),Abb NO NP]at this;rw[this];rw[propext (DJ (n:=fun q=>((Fi++We a++[x]).map (E.den Y)).getD q 0) (n':=Y.v) (r':=fun i=>Y.r (8+i)) (x:=y) (fun q hq=>by rw[Ls NO NP hq,Acu hq]) (fun q hq=>by rw[Ww Acs hq,Wc hq]))]
 ·have:=h.2;rw[CE (n':=fun q=>Y (a+q)) (fun q hq=>by rw[IK NO NP hq,Acv hq]),CE (n:=fun q=>((Fi++We a++[x]).map (E.den Y)).getD q 0) (n':=Y.v) (fun q hq=>by rw[Ls NO NP hq,Acu hq])]at this;exact this
theorem in8{a:Nat}{x:E}(h:A2 Y (AG 8 (Fi++We a++[x]) (Iz++q8x a))):(∀y,CN (fun q=>Y (a+q)) (fun q=>Y.r (a+8+q)) y↔CN Y.v (fun i=>Y.r (8+i)) y\/y=x.den Y)/\C4 (fun q=>Y (a+q))=C4 Y.v+1:=
 AqS (g:=8) (P:=fun p q=>p\/q) (Af (g:=8) (ns:=Fi++We a++[x]) (rs:=Iz++q8x a) h (h1:=by simp[Fi,We]) (h2:=by simp[Iz,q8x]))
theorem in9{a:Nat}{x:E}(h:A2 Y (AG 9 (Fi++We a++[x]) (Iz++q8x a))):(∀y,CN (fun q=>Y (a+q)) (fun q=>Y.r (a+8+q)) y↔CN Y.v (fun i=>Y.r (8+i)) y/\y ≠ x.den Y)/\C4 (fun q=>Y (a+q))=C4 Y.v+(-1):=
 AqS (g:=9) (P:=fun p q=>p/\¬q) (Af (g:=9) (ns:=Fi++We a++[x]) (rs:=Iz++q8x a) h (h1:=by simp[Fi,We]) (h2:=by simp[Iz,q8x]))
theorem AqR{m:E}(h:A2 Y (AG 10 (Fi++[m]))):m.den Y=C4 Y.v:=by
 have h:((Fi++[m]).map (E.den Y)).getD 8 0=C4 fun q=>((Fi++[m]).map (E.den Y)).getD q 0:=Af h (h1:=by simp[Fi])
 rw[CE (n:=fun q=>((Fi++[m]).map (E.den Y)).getD q 0) (n':=Y.v) (fun q hq=>Jy hq)]at h;exact h
theorem JX{F:Ak}(hn:F.nb=16){x:Int}(h:∀i,i<F.nb->(U.b 0).sv i=Y.v i/\(U.b 0).sr i=Y.r i/\(U.b 0).sm i=Y.m i):(CN (U.b 0).sv (fun i=>(U.b 0).sr (8+i)) x↔CN Y.v (fun i=>Y.r (8+i)) x)/\C4 (U.b 0).sv=C4 Y.v:=
 ⟨DJ (fun q hq=>(h q (by omega)).1) (fun q hq=>(h (8+q) (by omega)).2.1),CE fun q hq=>(h q (by omega)).1⟩
theorem Al4{B:CH}{te:List E}{tr tm:List Nat}{a:Nat}{x:Int}(h:∀i,B.sv i=(te.getD i (.lit 0)).den Y/\B.sr i=Y.r (tr.getD i 0)/\B.sm i=Y.m (tm.getD i 0))(h1:∀q,q<8->te.getD q (.lit 0)=.var (a+q)/\tr.getD (8+q) 0=a+8+q):
 (CN B.sv (fun i=>B.sr (8+i)) x↔CN (fun q=>Y (a+q)) (fun q=>Y.r (a+8+q)) x)/\C4 B.sv=C4 fun q=>Y (a+q):=
 ⟨DJ (fun q hq=>by rw[(h q).1,(h1 q hq).1];rfl) (fun q hq=>by rw[(h (8+q)).2.1,(h1 q hq).2]),CE fun q hq=>by rw[(h q).1,(h1 q hq).1];rfl⟩
end Eng
end
