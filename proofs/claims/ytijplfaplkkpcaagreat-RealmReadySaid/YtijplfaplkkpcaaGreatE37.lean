/- The document's nodes: Drop and Add; the ends' Remove. No conditions beside those in its theorems. -/
import Derived.Test.YtijplfaplkkpcaaGreatE36
import Derived.Test.YtijplfaplkkpcaaGreatE22
import Derived.Test.YtijplfaplkkpcaaGreatE18
import Derived.Test.YtijplfaplkkpcaaGreatE12
import Derived.Test.YtijplfaplkkpcaaGreatRuleD
import Derived.Test.YtijplfaplkkpcaaGreatE20
import Derived.Maps.RangeWalk
import Derived.RangeFuncIn
import Derived.WalkKit
import Derived.Scope
import Derived.WalkMore
import Derived.Deep.QuietTactic
import Derived.BigQuiet
import Derived.RangeFuncRecord
import Derived.RangeFuncLeaves
import Derived.TacticsIn
import Derived.BigFrameIn
import Derived.RangeFuncOwn
import Derived.RangeFuncBox
set_option linter.unusedVariables false
set_option linter.unusedSimpArgs false
set_option linter.unusedSectionVars false
set_option linter.constructorNameAsVariable false
set_option maxRecDepth 100000
noncomputable section
namespace Eng
open Go Eng
variable {U:An} {w w':World} {ro:Nat} {st st':Int->Option Bool}
def Bq.fst(c:Bq):Ds:=c.outs.headD {v:=.Dh [],AX:=[],n1:=0}
theorem Bq.runs{W:Wd}{c:Bq}(hc:c.ok W){Uqi:An}(hp:c.pre Uqi)(h1:Nat.beq c.outs.length 1=true):∃U',Ai c.np Uqi U'/\c.fst.post U'/\∀J w vs,Rel J U' (CS W) (Aa c.bl c.n) w->F2 (Bb J U') c.args vs->
 Ci W.P c.f vs.toArray w fun v' w'=>∃J' h1,Bb J' U' c.fst.v v'/\Rel J' U' (CS W) h1 w'/\Ext U' J J' (Aa c.bl c.n) h1 w w'/\leaves c.bl c.n c.fst.AX c.fst.n1 h1=true:=by
 obtain⟨o,ho,U',a1,a2⟩:=hc Uqi hp;have e:o=c.fst:=by
  have:=beq_eq h1;unfold Bq.fst
  match hc:c.outs,this with
  | [o'],_=>rw[hc]at ho;exact List.mem_singleton.1 ho
 subst e;obtain⟨b1,b2⟩:=a2 U' .refl;exact⟨U',a1,b1,fun J w vs hr ha=>(b2 (CS W) rfl).2 J w vs hr ha⟩
def Tx(c:Bq)(f:Nat)(args:List AV)(bl:List (Nat×Aj))(n np:Nat)(cf:List CF)(rd:List KC):Bool:=
 Nat.beq c.f f&&(Av AV.AJ c.args args&&(Av AjM c.bl bl&&(Nat.beq c.n n&&(Nat.beq c.np np&&(Av Ep c.cf cf&&(Av EK c.rd rd&&(c.mp.isEmpty&&Nat.beq c.outs.length 1)))))))
structure AcK(c:Bq)(f:Nat)(args:List AV)(bl:List (Nat×Aj))(n np:Nat)(cf:List CF)(rd:List KC):Prop where
 f:c.f=f
 args:c.args=args
 bl:c.bl=bl
 n:c.n=n
 np:c.np=np
 cf:c.cf=cf
 rd:c.rd=rd
 mp:c.mp=[]
 one:Nat.beq c.outs.length 1=true
theorem HY{c:Bq}{f:Nat}{args:List AV}{bl:List (Nat×Aj)}{n np:Nat}{cf:List CF}{rd:List KC}(h:Tx c f args bl n np cf rd=true):AcK c f args bl n np cf rd:=by
 unfold Tx at h;simp only[Ah]at h;obtain⟨h1,h2,h3,h4,h5,h6,h7,h8,h9⟩:=h;exact⟨beq_eq h1,Ag (fun _ _=>AV.Ac) h2,Ag (fun _ _=>AbR) h3,beq_eq h4,beq_eq h5,Ag (fun _ _=>Cr) h6,Ag (fun _ _=>BH) h7,List.isEmpty_iff.1 h8,h9⟩
def HS(w:World)(ro:Nat)(id v3 v4:Int)(cq:Array Value)(m:Nat):An:=
 {v:=fun i=>match i with | 0=>(Co w ro:Int)| 1=>id| 3=>v3| 4=>v4|_=>0
  r:=fun t=>if t=2 then fun j c=>if j<Co w ro then (match c with | 0=>.int .i64 (BJ w ro j)| 1=>.slice (some ⟨Im w ro j,0,none⟩) (Bz w ro j) (GZ w ro j)|_=>undef) else (match c with | 0=>.int .i64 0 |_=>undef) else if t=5 then rowOf cq EE m else fun _ _=>undef}
theorem JC{id v3 v4:Int}{cq:Array Value}{m np:Nat}(hnp:3<=np)(h:Ai np (HS w ro id v3 v4 cq m) U):WO U w ro:=by
 refine⟨by rw[h.v 0 (by omega)];rfl,fun j hj=>?_,fun j hj=>?_,fun y=>by rw[h.k];rfl⟩
 ·rw[h.r 2 (by omega)];show (if j<Co w ro then _ else _)=_;rw[if_pos hj]
 ·rw[h.r 2 (by omega)];show (if j<Co w ro then _ else _)=_;rw[if_pos hj]
theorem JD{id v3 v4:Int}{cq:Array Value}{m:Nat}:EO (HS w ro id v3 v4 cq m) (2,[.i .i64,.u]):=by
 refine⟨fun j c=>?_,trivial⟩
 match c with
 | 0=>
  show ∃z,(if j<Co w ro then Value.int .i64 (BJ w ro j) else .int .i64 0)=.int .i64 z
  by_cases h:j<Co w ro
  ·exact⟨_,if_pos h⟩
  ·exact⟨_,if_neg h⟩
 | 1=>trivial
 |_+2=>trivial
theorem SK{id v3 v4:Int}{cq:Array Value}{m j:Nat}(hj:j<Co w ro):numOf ((HS w ro id v3 v4 cq m).r 2 j 0)=BJ w ro j:=by
 show numOf (if j<Co w ro then Value.int .i64 (BJ w ro j) else .int .i64 0)=_;rw[if_pos hj];rfl
theorem MK{bl:List (Nat×Aj)}{n:Nat}{h1:H}{Jqi Jq1:A1}(hx:Ext U Jqi Jq1 (Aa bl n) h1 w w')(hnoF:∀r,¬Fo U (Aa bl n) w r)(hi:∀b r S,Jqi b=some (r,S)->L7 ro w r)(Cp:Br st' ro w')(EJ:∀y,L7 ro w' y->w.heap.size<=y\/L7 ro w y):MD (D0 st) (D0 st') ro w w':=
 ⟨Cp,EJ,hx.size,fun r Au hn=>hx.frame r Au (fun b S hb=>absurd (hi b r S hb) hn) (hnoF r),hx.os,hx.tape,hx.output,hx.fz⟩
theorem AbV{sp:List (E×Nat×A)}{n:Nat}:∀r,¬Fo U (Aa (Lx sp) n) w r:=by
 rintro r ⟨b,t,hg,_⟩
 rcases MY hg with ⟨_,e⟩|⟨_,e⟩<;>cases e
theorem AbW{n:Nat}:∀r,¬Fo U (Aa MW n) w r:=by
 rintro r ⟨b,t,hg,_⟩
 rcases I4 hg with ⟨_,e⟩|⟨_,e⟩|⟨_,e⟩<;>cases e
theorem NV:∀b r S,YL ro (Tf w ro) b=some (r,S)->L7 ro w r:=by
 intro b r S hb
 match b,hb with
 | 0,hb=>cases hb;exact .inl rfl
 | 1,hb=>exact .inr (.inl (HL hb).1)
theorem Acz{k s:Nat}(hk:k<Co w ro)(hq:HT w ro k=some (Im w ro k)):∀b r S,AaJ ro (Tf w ro) (some (Im w ro k,s)) b=some (r,S)->L7 ro w r:=by
 intro b r S hb
 match b,hb with
 | 0,hb=>cases hb;exact .inl rfl
 | 1,hb=>exact .inr (.inl (HL hb).1)
 | 2,hb=>cases hb;exact .inr (.inr ⟨k,hk,hq⟩)
theorem U1(h:Br st ro w){j:Nat}(hj:j<Co w ro):∀b S,YL ro (Tf w ro) b ≠ some (Im w ro j,S):=by
 obtain⟨r,hr⟩:=h.RG hj;obtain⟨cs,ty,tyo,kk,g1,g2,g3,g4,g5,g6⟩:=h.el hr;obtain⟨_,_,g7,g8,_⟩:=g6 j hj;intro b S hb
 match b,hb with
 | 0,hb=>exact g7 (Prod.mk.inj (Option.some.inj hb)).1.symm
 | 1,hb=>
  have:=(HL hb).1;rw[hr]at this;exact g8 (Option.some.inj this).symm
theorem Al3(h:Br st ro w){j k s:Nat}(hj:j<Co w ro)(hk:k<Co w ro)(hjk:j ≠ k):∀b S,AaJ ro (Tf w ro) (some (Im w ro k,s)) b ≠ some (Im w ro j,S):=by
 obtain⟨r,hr⟩:=h.RG hj;obtain⟨cs,ty,tyo,kk,g1,g2,g3,g4,g5,g6⟩:=h.el hr;obtain⟨_,_,g7,g8,_,_,d1⟩:=g6 j hj;obtain⟨_,_,_,_,_,_,d2⟩:=g6 k hk;intro b S hb
 match b,hb with
 | 0,hb=>exact g7 (Prod.mk.inj (Option.some.inj hb)).1.symm
 | 1,hb=>
  have:=(HL hb).1;rw[hr]at this;exact g8 (Option.some.inj this).symm
 | 2,hb=>exact hjk (h.dj j k hj hk (by rw[d1,d2,(Prod.mk.inj (Option.some.inj hb)).1]))
theorem Wg(h:Br st ro w){bl:List (Nat×Aj)}{n:Nat}{h1:H}{Jqi Jq1:A1}(hx:Ext U Jqi Jq1 (Aa bl n) h1 w w')(hnoF:∀r,¬Fo U (Aa bl n) w r){j:Nat}(hj:j<Co w ro)(Bs:∀b S,Jqi b ≠ some (Im w ro j,S)):w'.heap[Im w ro j]? =w.heap[Im w ro j]? :=by
 obtain⟨r,hr⟩:=h.RG hj;obtain⟨cs,ty,tyo,kk,g1,g2,g3,g4,g5,g6⟩:=h.el hr;obtain⟨_,_,_,_,⟨_,_,cq,tq,hq,_⟩,_⟩:=g6 j hj;exact hx.frame _ (Ht.1 hq).1 (fun b S hb=>absurd hb (Bs b S)) (hnoF _)
theorem K0(h:Br st ro w){j:Nat}(hj:j<Co w ro):Im w ro j ≠ ro/\FB w (Im w ro j) (Bz w ro j) (GZ w ro j)/\st (BJ w ro j)=some (CA w (Im w ro j) (Bz w ro j))/\HT w ro j=some (Im w ro j):=by
 obtain⟨r,hr⟩:=h.RG hj;obtain⟨cs,ty,tyo,kk,g1,g2,g3,g4,g5,g6⟩:=h.el hr;obtain⟨_,_,g7,_,g8,g9,g10⟩:=g6 j hj;exact⟨g7,g8,g9,g10⟩
def FO(c:Bq)(bl:List (Nat×Aj))(res:Int):Bool:=AV.AJ c.fst.v (.one (.int .i64 res))&&bl.all fun p=>hasB (Aa c.fst.AX c.fst.n1) p.1 p.2
theorem QC{c:Bq}{bl:List (Nat×Aj)}{n:Nat}{res:Int}(h:FO c bl res=true){h1:H}(hl:leaves c.bl n c.fst.AX c.fst.n1 h1=true):c.fst.v=.one (.int .i64 res)/\∀p∈bl,h1.get p.1=some p.2:=by
 unfold FO at h;rw[Ah]at h;refine⟨AV.Ac h.1,fun p hp=>?_⟩;have L:=Cw hl;exact L.get (p.1,p.2) (Ad (Cz (Bf.1 h.2 p hp)))
theorem Oh{W:Wd}{c:Bq}(hc:c.ok W){f:Nat}{args:List AV}{np:Nat}{cf:List CF}(ht:AcK c f (.one (.ptr 0 0)::args) (Lx []) 2 np cf [(2,[.i .i64,.u])]){res:Int}(h1:FO c (Lx []) res=true)(hnp:3<=np)
 (h:Br st ro w) {id v3 v4:Int} {cq:Array Value} {m:Nat} (hp:c.pre (HS w ro id v3 v4 cq m)) {vs:List Value} (EU:∀J U',Ai np (HS w ro id v3 v4 cq m) U'->F2 (Bb J U') args vs):
 Ci W.P f (Value.pointer (some ⟨ro,0,none⟩)::vs).toArray w fun v' w'=>v'=.int .i64 res/\MD (D0 st) (D0 st) ro w w':=by
 obtain⟨U',a1,_,a3⟩:=Bq.runs hc hp ht.one;rw[ht.np]at a1;have hs:=JC hnp a1;have hr:=h.Alv (C:=CS W) hs;have run:=a3 _ w (Value.pointer (some ⟨ro,0,none⟩)::vs) (by rw[ht.bl,ht.n];exact hr) (by rw[ht.args];exact .cons ⟨_,_,rfl,rfl⟩ (EU _ _ a1));rw[ht.f]at run;refine run.mono ?_
 rintro v' w' ⟨Jq1,h',q1,q2,q3,q4⟩
 rw[ht.n]at q4;obtain⟨k1,k2⟩:=QC h1 q4;rw[k1]at q1;rw[ht.bl,ht.n]at q3;have CW:∀b,b<2->Jq1 b=YL ro (Tf w ro) b:=fun b hb=>q3.CW b hb
 have Dg:=fun j (hj:j<Co w ro)=>K0 h hj
 obtain⟨c1,c2⟩:=Br.close (st':=st) q2 (k2 (0,_) GU) (k2 (1,_) (Gq _ GU)) (CW 0 (by omega)) (by omega) (N:=Co w ro) hs.n.symm (BJ w ro) (Im w ro) (Bz w ro) (GZ w ro)
  (fun j hj u0 u1 CV hu1=>⟨(show u0=U'.r 2 j 0 from CV).trans (hs.r0 j hj),(show u1=U'.r 2 j 1 from hu1).trans (hs.r1 j hj)⟩)
  (fun j hj=>by
   obtain⟨g1,g2,g3,g4⟩:=Dg j hj;have H5:=Wg h q3 AbV hj (U1 h hj);refine⟨g1,fun S e=>?_,Hy H5 g2,by rw[Hv H5];exact g3⟩;rw[CW 1 (by omega)]at e;exact U1 h hj 1 S e) h.inj h.all (fun i j hi hj e=>h.dj i j hi hj (by rw[(Dg i hi).2.2.2,(Dg j hj).2.2.2,e]))
 refine⟨q1,MK q3 AbV NV c1 fun y hy=>.inr ?_⟩;rcases c2 y hy with e|⟨S,e⟩|⟨j,hj,e⟩
 ·exact .inl e
 ·rw[CW 1 (by omega)]at e;exact NV 1 y S e
 ·exact .inr (.inr ⟨j,hj,by rw[e];exact (Dg j hj).2.2.2⟩)
theorem Adc{C:AB}{h1:H}{Jq1:A1}{b q S n:Nat}{cq:Array Value}{tq:TypeId}(hr:Rel Jq1 U C h1 w')(hb:h1.get b=some (.row 5 8 (.var 4) []))(k0:Jq1 b=some (q,S))(h4:U.v 4=n)(h5:U.r 5=rowOf cq EE n)(hq:w.heap[q]? =some (.cells cq tq (0,0)))(hS:S=cq.size){cap:Nat}(hc:FB w q n cap):
 FB w' q n cap/\CA w' q n=CA w q n:=by
 obtain⟨⟨l1,l2⟩,l3,cq',tq',Fu,Fm,Da⟩:=hc;rw[hq]at Fu;cases Fu;obtain⟨o,p1,p2⟩:=hr.AE b _ _ k0;obtain⟨cs,ty,N,rfl,p3,p4,p5,p6,_,p7⟩:=p2 _ hb;have eN:N=n:=by have p4:(N:Int)=U.v 4:=p4;omega
 subst eN;have key:∀j c,j<N->c<8->cs[j*8+c]? =cq[j*8+c]? :=fun j c hj hc=>by
  obtain⟨u,g1,g2⟩:=p7 j c hj hc;have g2:u=U.r 5 j c:=g2;obtain⟨u',g3,_⟩:=Da j c hj hc;rw[h5,NY (ks:=EE) hj hc g3]at g2;rw[g1,g3,g2]
 refine⟨⟨⟨l1,l2⟩,l3,cs,ty,p1,by rw[p3,hS];exact Fm,fun j c hj hc=>by rw[key j c hj hc];exact Da j c hj hc⟩,?_⟩;unfold CA
 congr 1
 refine propext ⟨?_,?_⟩
 ·rintro ⟨i,hi,v,h1,h2⟩
  refine⟨i,hi,v,?_,h2⟩;rw[Bi p1]at h1;rw[Bi hq];have:=key i 0 hi (by omega);rw[Nat.add_zero]at this;rw[<-this];exact h1
 ·rintro ⟨i,hi,v,h1,h2⟩
  refine⟨i,hi,v,?_,h2⟩;rw[Bi hq]at h1;rw[Bi p1];have:=key i 0 hi (by omega);rw[Nat.add_zero]at this;rw[this];exact h1
structure At2(U:An)(w:World)(ro k:Nat)(cq:Array Value):Prop where
 v3:U.v 3=k
 v4:U.v 4=Bz w ro k
 r5:U.r 5=rowOf cq EE (Bz w ro k)
theorem Zd{id:Int}{k:Nat}{cq:Array Value}{np:Nat}(hnp:6<=np)(h:Ai np (HS w ro id k (Bz w ro k) cq (Bz w ro k)) U):At2 U w ro k cq:=
 ⟨by rw[h.v 3 (by omega)];rfl,by rw[h.v 4 (by omega)];rfl,by rw[h.r 5 (by omega)];rfl⟩
theorem Aib{W:Wd}{c:Bq}(hc:c.ok W){f:Nat}{args:List AV}{np:Nat}{cf:List CF}{rd:List KC}(ht:AcK c f (.one (.ptr 0 0)::args) MW 3 np cf rd){res:Int}(h1:FO c MW res=true)(hnp:6<=np)
 (h:Br st ro w) {id:Int} {k:Nat} (hk:k<Co w ro) {cq:Array Value} {tq:TypeId} (hq:w.heap[Im w ro k]? =some (.cells cq tq (0,0))) (hp:c.pre (HS w ro id k (Bz w ro k) cq (Bz w ro k))) {vs:List Value} (EU:∀J U',Ai np (HS w ro id k (Bz w ro k) cq (Bz w ro k)) U'->F2 (Bb J U') args vs):
 Ci W.P f (Value.pointer (some ⟨ro,0,none⟩)::vs).toArray w fun v' w'=>v'=.int .i64 res/\MD (D0 st) (D0 st) ro w w':=by
 obtain⟨U',a1,_,a3⟩:=Bq.runs hc hp ht.one;rw[ht.np]at a1;have hs:=JC (by omega) a1;have ha:=Zd hnp a1;have hr:=h.Alw (C:=CS W) hs hk ha.v3 ha.v4 hq ha.r5;have run:=a3 _ w (Value.pointer (some ⟨ro,0,none⟩)::vs) (by rw[ht.bl,ht.n];exact hr) (by rw[ht.args];exact .cons ⟨_,_,rfl,rfl⟩ (EU _ _ a1));rw[ht.f]at run;refine run.mono ?_
 rintro v' w' ⟨Jq1,h',q1,q2,q3,q4⟩
 rw[ht.n]at q4;obtain⟨k1,k2⟩:=QC h1 q4;rw[k1]at q1;rw[ht.bl,ht.n]at q3;have CW:∀b,b<3->Jq1 b=AaJ ro (Tf w ro) (some (Im w ro k,cq.size)) b:=fun b hb=>q3.CW b hb
 have Dg:=fun j (hj:j<Co w ro)=>K0 h hj
 have EJ:=Acz (s:=cq.size) hk (Dg k hk).2.2.2;have Px:∀j,j<Co w ro->FB w' (Im w ro j) (Bz w ro j) (GZ w ro j)/\CA w' (Im w ro j) (Bz w ro j)=CA w (Im w ro j) (Bz w ro j):=fun j hj=>by
  by_cases e:j=k
  ·subst e;exact Adc q2 (k2 (2,_) (Gq _ (Gq _ GU))) (CW 2 (by omega)) ha.v4 ha.r5 hq rfl (Dg j hj).2.1
  ·have H5:=Wg h q3 AbW hj (Al3 h hj hk e);exact⟨Hy H5 (Dg j hj).2.1,Hv H5⟩
 obtain⟨c1,c2⟩:=Br.close (st':=st) q2 (k2 (0,_) GU) (k2 (1,_) (Gq _ GU)) (CW 0 (by omega)) (by omega) (N:=Co w ro) hs.n.symm (BJ w ro) (Im w ro) (Bz w ro) (GZ w ro)
  (fun j hj u0 u1 CV hu1=>by
   unfold B3 Aff Ao Ao at CV hu1;refine⟨?_,?_⟩
   ·simp only[Nat.reduceEqDiff,and_false,if_false]at CV;exact CV.trans (hs.r0 j hj)
   ·by_cases e:(j:Int)=U'.v 3
    ·have e':(E.var 3).den U'=(j:Int):=e.symm;simp only[e',and_self,if_true]at hu1;obtain⟨p,n0,kk,g1,g2,g3⟩:=hu1;have ej:j=k:=by have:=ha.v3;omega
     subst ej;have g2:(n0:Int)=U'.v 4:=g2;have en:n0=Bz w ro j:=by have:=ha.v4;omega
     obtain⟨⟨l1,_⟩,_,cq',tq',Fu,Fm,_⟩:=(Dg j hj).2.1;rw[hq]at Fu;cases Fu;rcases g3 with ⟨_,g4,_⟩|⟨r,S,g4,g5,g6,_⟩
     ·omega
     ·rw[CW 2 (by omega)]at g4;cases g4;rw[g1,g5,en];have:kk=GZ w ro j:=by omega
      rw[this]
    ·have e':¬(E.var 3).den U'=(j:Int):=fun x=>e x.symm
     simp only[e',false_and,if_false]at hu1;exact hu1.trans (hs.r1 j hj))
  (fun j hj=>by
   obtain⟨g1,g2,g3,g4⟩:=Dg j hj;obtain⟨f1,f2⟩:=Px j hj;refine⟨g1,fun S e=>?_,f1,by rw[f2];exact g3⟩;rw[CW 1 (by omega)]at e;exact U1 h hj 1 S e) h.inj h.all (fun i j hi hj e=>h.dj i j hi hj (by rw[(Dg i hi).2.2.2,(Dg j hj).2.2.2,e]))
 refine⟨q1,MK q3 AbW EJ c1 fun y hy=>.inr ?_⟩;rcases c2 y hy with e|⟨S,e⟩|⟨j,hj,e⟩
 ·exact .inl e
 ·rw[CW 1 (by omega)]at e;exact EJ 1 y S e
 ·exact .inr (.inr ⟨j,hj,by rw[e];exact (Dg j hj).2.2.2⟩)
theorem OA{c:Bq}(h:Nat.beq c.outs.length 1=true):c.outs[0]? =some c.fst:=by
 have:=beq_eq h;unfold Bq.fst
 match hc:c.outs,this with
 | [o'],_=>rfl
def W8(k j:Nat):Nat:=if j<k then j else j+1
theorem Ak5{W:Wd}{c:Bq}(hc:c.ok W){f:Nat}{args:List AV}{cf:List CF}{rd:List KC}(ht:AcK c f (.one (.ptr 0 0)::args) MW 3 6 cf rd)(h1:FO c [(0,BK [.C2 3 2 (.var 6)]),(3,.row 7 2 (.var 6) [])] 0=true)
 (hf1:BW c 0 ⟨.eql,.var 6,.bin .sub .i64 (.var 0) (.lit 1),true⟩=true) (hf2:BW c 0 (AG 7 [.var 0,.var 3] [2,7])=true)
 (h:Br st ro w) (hN:Co w ro<=65535) {id:Int} {k:Nat} (hk:k<Co w ro) {cq:Array Value} {tq:TypeId} (hq:w.heap[Im w ro k]? =some (.cells cq tq (0,0))) (hp:c.pre (HS w ro id k (Bz w ro k) cq (Bz w ro k))) {vs:List Value} (EU:∀J U',Ai 6 (HS w ro id k (Bz w ro k) cq (Bz w ro k)) U'->F2 (Bb J U') args vs):
 Ci W.P f (Value.pointer (some ⟨ro,0,none⟩)::vs).toArray w fun v' w'=>v'=.int .i64 0/\MD (D0 st) (D0 fun y=>if y=BJ w ro k then none else st y) ro w w':=by
 obtain⟨U',a1,a2,a3⟩:=Bq.runs hc hp ht.one;rw[ht.np]at a1;have hs:=JC (by omega) a1;have ha:=Zd (by omega) a1;have e6:U'.v 6=(Co w ro:Int)-1:=by
  have:=Jj (Ba hf1 (OA ht.one) a2);have this:U'.v 6=IntKind.i64.wrap (U'.v 0-1):=this;rw[this,hs.n,IntKind.wrap_i64];omega
 have e7:∀(j c:Nat),U'.r 7 j c=if (j:Int)<U'.v 3 then U'.r 2 j c else U'.r 2 (j+1) c:=Af (g:=7) (ns:=[.var 0,.var 3]) (rs:=[2,7]) (ms:=[]) (bs:=[]) (Ba hf2 (OA ht.one) a2)
 have e8:∀j c:Nat,U'.r 7 j c=U'.r 2 (W8 k j) c:=fun j c=>by
  rw[e7 j c,ha.v3];unfold W8
  by_cases e:j<k
  ·rw[if_pos (by omega),if_pos e]
  ·rw[if_neg (by omega),if_neg e]
 have hr:=h.Alw (C:=CS W) hs hk ha.v3 ha.v4 hq ha.r5;have run:=a3 _ w (Value.pointer (some ⟨ro,0,none⟩)::vs) (by rw[ht.bl,ht.n];exact hr) (by rw[ht.args];exact .cons ⟨_,_,rfl,rfl⟩ (EU _ _ a1));rw[ht.f]at run;refine run.mono ?_
 rintro v' w' ⟨Jq1,h',q1,q2,q3,q4⟩
 rw[ht.n]at q4;obtain⟨k1,k2⟩:=QC h1 q4;rw[k1]at q1;rw[ht.bl,ht.n]at q3;have CW:∀b,b<3->Jq1 b=AaJ ro (Tf w ro) (some (Im w ro k,cq.size)) b:=fun b hb=>q3.CW b hb
 have Dg:=fun j (hj:j<Co w ro)=>K0 h hj
 have EJ:=Acz (s:=cq.size) hk (Dg k hk).2.2.2;have hix:∀j,j<Co w ro-1->W8 k j<Co w ro/\W8 k j ≠ k:=fun j hj=>by unfold W8;split<;>omega
 have hixi:∀i j,W8 k i=W8 k j->i=j:=fun i j e=>by unfold W8 at e;split at e<;>split at e<;>omega
 have C7:∀y S,Jq1 3=some (y,S)->w.heap.size<=y\/L7 ro w y:=fun y S e=>by
  rcases q3.new 3 y S (by show 3<=3;omega) e with h|⟨b0,S0,h,_⟩
  ·exact .inl h
  ·exact .inr (EJ b0 y S0 h)
 obtain⟨c1,c2⟩:=Br.close (st':=fun y=>if y=BJ w ro k then none else st y) q2 (k2 (0,_) GU) (k2 (3,_) (Gq _ GU)) (CW 0 (by omega)) (by omega) (N:=Co w ro-1) (by show ((Co w ro-1:Nat):Int)=U'.v 6;rw[e6];omega) (fun j=>BJ w ro (W8 k j)) (fun j=>Im w ro (W8 k j)) (fun j=>Bz w ro (W8 k j)) (fun j=>GZ w ro (W8 k j))
  (fun j hj u0 u1 CV hu1=>by
   obtain⟨g1,g2⟩:=hix j hj;have CV:u0=U'.r 7 j 0:=CV;have hu1:u1=U'.r 7 j 1:=hu1;rw[e8]at CV hu1;exact⟨CV.trans (hs.r0 _ g1),hu1.trans (hs.r1 _ g1)⟩)
  (fun j hj=>by
   obtain⟨i1,i2⟩:=hix j hj;obtain⟨g1,g2,g3,g4⟩:=Dg _ i1;have Bs:=Al3 (s:=cq.size) h i1 hk i2;have H5:=Wg h q3 AbW i1 Bs;refine⟨g1,fun S e=>?_,Hy H5 g2,?_⟩
   ·rcases q3.new 3 _ S (by show 3<=3;omega) e with h5|⟨b0,S0,h5,_⟩
    ·obtain⟨_,_,cq',tq',Fu,_⟩:=g2;have:=(Ht.1 Fu).1;omega
    ·exact Bs b0 S0 h5
   ·show (if BJ w ro (W8 k j)=BJ w ro k then none else st (BJ w ro (W8 k j)))=_;rw[if_neg (fun e=>i2 (h.inj _ _ i1 hk e)),Hv H5];exact g3)
  (fun i j hi hj e=>hixi i j (h.inj _ _ (hix i hi).1 (hix j hj).1 e))
  (fun z hz=>by
   have hz:(if z=BJ w ro k then none else st z).isSome=true:=hz
   by_cases e:z=BJ w ro k
   ·rw[if_pos e]at hz;cases hz
   ·rw[if_neg e]at hz;obtain⟨i,hi,e2⟩:=h.all z hz;have hik:i ≠ k:=fun e3=>e (by rw[<-e2,e3])
    by_cases Au:i<k
    ·exact⟨i,by omega,by show BJ w ro (W8 k i)=z;unfold W8;rw[if_pos Au];exact e2⟩
    ·exact⟨i-1,by omega,by show BJ w ro (W8 k (i-1))=z;unfold W8;rw[if_neg (by omega),show i-1+1=i by omega];exact e2⟩)
  (fun i j hi hj e=>hixi i j (h.dj _ _ (hix i hi).1 (hix j hj).1 (by rw[(Dg _ (hix i hi).1).2.2.2,(Dg _ (hix j hj).1).2.2.2];exact congrArg some e)))
 refine⟨q1,MK q3 AbW EJ c1 fun y hy=>?_⟩;rcases c2 y hy with e|⟨S,e⟩|⟨j,hj,e⟩
 ·exact .inr (.inl e)
 ·exact C7 y S e
 ·exact .inr (.inr (.inr ⟨_,(hix j hj).1,by rw[e];exact (Dg _ (hix j hj).1).2.2.2⟩))
def Aid(i:Nat)(a:A):Bool:=match a,EE.getD (i % 8) .u with |.int k 0,.i k'=>Nat.beq (Ax k) (Ax k')|_,_=>false
theorem Aie{i:Nat}{a:A}(h:Aid i a=true):∃kd,a=.int kd 0/\EE.getD (i % 8) .u=.i kd:=by
 unfold Aid at h;cases hc:EE.getD (i % 8) .u with
 |i k'=>
  rw[hc]at h;cases a<;>try (cases h;done)
  rename_i k z;have hz:z=0:=by
   cases z with
   |ofNat m=>cases m with
    |zero=>rfl
    |succ m=>cases h
   |negSucc m=>cases h
  subst hz;exact⟨k,rfl,by rw[Bt h]⟩
 |_=>rw[hc]at h;cases a<;>first|(cases h;done)|(rename_i k z;cases z with |ofNat m=>(cases m<;>cases h)|negSucc m=>cases h)
def AcI(n:Nat)(x:Aj):Bool:=match x with |.cells t m true none=>Nat.beq m (8*n)&&(List.range (8*n)).all (fun i=>match T.get t i with |some a=>Aid i a|none=>false)|_=>false
theorem Aic{J':A1}{C:AB}{n:Nat}{x:Aj}(h:AcI n x=true){o:Obj}{S:Nat}(hb:BR J' U C x o S){q:Nat}(hq:w'.heap[q]? =some o)(h1:1<=n)(h2:n<=16):FB w' q n n/\CA w' q n=false:=by
 unfold AcI at h;split at h
 ·rename_i t m;rw[Ah]at h;have hm:=beq_eq h.1;obtain⟨cs,ty,rfl,hS,_,hfull,Da⟩:=hb;have hfull:=hfull rfl;have key:∀i,i<8*n->∃kd,cs[i]? =some (.int kd 0)/\EE.getD (i % 8) .u=.i kd:=fun i hi=>by
   have:=Bf.1 h.2 i (List.mem_range.2 hi);cases ht:T.get t i with
   |none=>rw[ht]at this;cases this
   |some a=>
    rw[ht]at this;obtain⟨v,e1,e2⟩:=Da i a (by omega) ht;obtain⟨kd,rfl,e3⟩:=Aie this;have e2:v=.int kd 0:=e2;exact⟨kd,by rw[e1,e2],e3⟩
  refine⟨⟨⟨h1,h2⟩,Nat.le_refl _,cs,ty,hq,by omega,fun j c hj hc=>?_⟩,?_⟩
  ·obtain⟨kd,e1,e2⟩:=key (j*8+c) (by omega);rw[show (j*8+c) % 8=c by omega]at e2;exact⟨_,e1,rfl,by rw[e2];exact⟨0,rfl⟩⟩
  ·unfold CA;refine decide_eq_false ?_
   rintro ⟨i,hi,v,g1,g2⟩
   rw[Bi hq]at g1;obtain⟨kd,e1,_⟩:=key (i*8) (by omega);rw[e1]at g1;cases g1;exact g2 rfl
 ·cases h
def AjC(n:Nat):List (E×Nat×A):=[(.var 5,0,.sym .i64 (.var 1)),(.var 5,1,.slice 3 0 n n)]
theorem AoJ{W:Wd}{c:Bq}(hc:c.ok W){f:Nat}{args:List AV}{cf:List CF}{n:Nat}(hn1:1<=n)(hn2:n<=16){zb:Aj}(hz:AcI n zb=true)(ht:AcK c f (.one (.ptr 0 0)::args) (Lx []) 2 3 cf [(2,[.i .i64,.u])])
 (h1:FO c [(0,BK [.C2 2 2 (.var 3)]),(2,.row 4 2 (.var 3) (AjC n)),(3,zb)] 0=true) (hzl:zb ≠ .dead)
 (hf1:BW c 0 ⟨.eql,.var 3,.bin .add .i64 (.var 0) (.lit 1),true⟩=true) (hf2:BW c 0 (AG 98 [.var 0,.var 5] [2,4])=true) (hf3:BW c 0 ⟨.geq,.var 5,.lit 0,true⟩=true) (hf4:BW c 0 ⟨.leq,.var 5,.var 0,true⟩=true) (hf5:c.fst.rd.any (fun k=>EK k (4,[.i .i64,.u]))=true)
 (h:Br st ro w) (hN:Co w ro<=65534) {id v3 v4:Int} {cq:Array Value} {m:Nat} (BN:st id=none) (hp:c.pre (HS w ro id v3 v4 cq m)) {vs:List Value} (EU:∀J U',Ai 3 (HS w ro id v3 v4 cq m) U'->F2 (Bb J U') args vs):
 Ci W.P f (Value.pointer (some ⟨ro,0,none⟩)::vs).toArray w fun v' w'=>v'=.int .i64 0/\MD (D0 st) (D0 fun y=>if y=id then some false else st y) ro w w':=by
 obtain⟨U',a1,a2,a3⟩:=Bq.runs hc hp ht.one;rw[ht.np]at a1;have hs:=JC (by omega) a1;have e1:U'.v 1=id:=by rw[a1.v 1 (by omega)];rfl
 have e3:U'.v 3=(Co w ro:Int)+1:=by
  have:=Jj (Ba hf1 (OA ht.one) a2);have this:U'.v 3=IntKind.i64.wrap (U'.v 0+1):=this;rw[this,hs.n,IntKind.wrap_i64];omega
 have e5:0<=U'.v 5:=H2 (Ba hf3 (OA ht.one) a2);have e5':U'.v 5<=(Co w ro:Int):=by
  have:U'.v 5<=U'.v 0:=Ig (Ba hf4 (OA ht.one) a2);rw[hs.n]at this;exact this
 obtain⟨p,hpe⟩:∃p:Nat,(p:Int)=U'.v 5:=⟨(U'.v 5).toNat,by omega⟩
 have e98:F98 (U'.v 0) (U'.v 5) (U'.r 2) (U'.r 4):=Af (g:=98) (ns:=[.var 0,.var 5]) (rs:=[2,4]) (ms:=[]) (bs:=[]) (Ba hf2 (OA ht.one) a2);rw[hs.n,<-hpe]at e98;have erd:∀j,∃z,U'.r 4 j 0=.int .i64 z:=fun j=>by
  obtain⟨k,hk,e⟩:=List.any_eq_true.1 hf5;have:=a2.rd.mem k hk;rw[BH e]at this;exact this.1 j 0
 have hr:=h.Alv (C:=CS W) hs;have run:=a3 _ w (Value.pointer (some ⟨ro,0,none⟩)::vs) (by rw[ht.bl,ht.n];exact hr) (by rw[ht.args];exact .cons ⟨_,_,rfl,rfl⟩ (EU _ _ a1));rw[ht.f]at run;refine run.mono ?_
 rintro v' w' ⟨Jq1,h',q1,q2,q3,q4⟩
 rw[ht.n]at q4;obtain⟨k1,k2⟩:=QC h1 q4;rw[k1]at q1;rw[ht.bl,ht.n]at q3;have CW:∀b,b<2->Jq1 b=YL ro (Tf w ro) b:=fun b hb=>q3.CW b hb
 have Dg:=fun j (hj:j<Co w ro)=>K0 h hj
 have g0:=k2 (0,_) GU;have g2:=k2 (2,_) (Gq _ GU);have g3:=k2 (3,zb) (Gq _ (Gq _ GU));have C7:∀b y S,2<=b->Jq1 b=some (y,S)->w.heap.size<=y\/∃b0 S0,YL ro (Tf w ro) b0=some (y,S0):=fun b y S hb e=>by
  rcases q3.new b y S hb e with h|⟨b0,S0,h,_⟩
  ·exact .inl h
  ·exact .inr ⟨b0,S0,h⟩
 obtain⟨r3,S3,hr3⟩:∃r3 S3,Jq1 3=some (r3,S3):=by
  obtain⟨o0,p1,p2⟩:=q2.AE 0 ro 1 (CW 0 (by omega));obtain⟨cs,ty,rfl,p3,_,_,p4⟩:=p2 _ g0;obtain⟨v0,p5,pp,N1,kk,rfl,p6,p7⟩:=p4 0 (.C2 2 2 (.var 3)) (by show 0<1;omega) rfl;have p6:(N1:Int)=U'.v 3:=p6;rcases p7 with ⟨_,e,_⟩|⟨r,S,f1,_⟩
  ·omega
  ·obtain⟨o1,s1,s2⟩:=q2.AE 2 _ _ f1;obtain⟨cr,tyr,N2,rfl,_,s4,_,_,_,s6⟩:=s2 _ g2;have s4:(N2:Int)=U'.v 3:=s4;obtain⟨u1,_,b2⟩:=s6 p 1 (by omega) (by omega);unfold B3 AjC Ao Ao at b2;have e':(E.var 5).den U'=(p:Int):=hpe.symm;simp only[e',and_self,if_true,Nat.zero_ne_one,and_false,if_false]at b2;obtain⟨r,S,b3,_⟩:=b2;exact⟨r,S,b3⟩
 have hq3ne:∀j,j<Co w ro->Im w ro j ≠ r3:=fun j hj e=>by
  rcases C7 3 r3 S3 (by omega) hr3 with h5|⟨b0,S0,h5⟩
  ·obtain⟨_,_,cq',tq',Fu,_⟩:=(Dg j hj).2.1;have:=(Ht.1 Fu).1;omega
  ·exact U1 h hj b0 S0 (by rw[e];exact h5)
 have hro3:r3 ≠ ro:=by
  intro e;rcases q2.inj 0 3 ro 1 S3 (CW 0 (by omega)) (by rw[hr3,e]) ⟨_,g0,by simp[BK]⟩ ⟨_,g3,hzl⟩ with e|⟨c',n',f',e⟩
  ·cases e
  ·rw[g0]at e;cases e
 have hrow3:∀S,Jq1 2 ≠ some (r3,S):=by
  intro S e;rcases q2.inj 2 3 r3 S S3 e hr3 ⟨_,g2,by simp⟩ ⟨_,g3,hzl⟩ with e|⟨c',n',f',e⟩
  ·cases e
  ·rw[g2]at e;cases e
 obtain⟨o3,z1,z2⟩:=q2.AE 3 _ _ hr3;obtain⟨z3,z4⟩:=Aic hz (z2 _ g3) z1 hn1 hn2
 let idN:Nat->Int:=fun j=>if j<p then BJ w ro j else if j=p then id else BJ w ro (j-1)
 let qN:Nat->Nat:=fun j=>if j<p then Im w ro j else if j=p then r3 else Im w ro (j-1)
 let lN:Nat->Nat:=fun j=>if j<p then Bz w ro j else if j=p then n else Bz w ro (j-1)
 let cN:Nat->Nat:=fun j=>if j<p then GZ w ro j else if j=p then n else GZ w ro (j-1)
 have RH:∀j,j<Co w ro+1->(j=p/\idN j=id/\qN j=r3/\lN j=n/\cN j=n)\/(j ≠ p/\∃i,i<Co w ro/\(i=if j<p then j else j-1)/\L9 (U'.r 2) (U'.r 4) j i/\idN j=BJ w ro i/\qN j=Im w ro i/\lN j=Bz w ro i/\cN j=GZ w ro i):=fun j hj=>by
  by_cases Au:j<p
  ·refine .inr ⟨by omega,j,by omega,(if_pos Au).symm,(e98 j).1 (by omega),if_pos Au,if_pos Au,if_pos Au,if_pos Au⟩
  ·by_cases he:j=p
   ·exact .inl ⟨he,(if_neg Au).trans (if_pos he),(if_neg Au).trans (if_pos he),(if_neg Au).trans (if_pos he),(if_neg Au).trans (if_pos he)⟩
   ·exact .inr ⟨he,j-1,by omega,(if_neg Au).symm,(e98 j).2 (by omega) (by omega),(if_neg Au).trans (if_neg he),(if_neg Au).trans (if_neg he),(if_neg Au).trans (if_neg he),(if_neg Au).trans (if_neg he)⟩
 have hidne:∀i,i<Co w ro->BJ w ro i ≠ id:=fun i hi e=>by
  have:=(Dg i hi).2.2.1;rw[e,BN]at this;cases this
 obtain⟨c1,c2⟩:=Br.close (st':=fun y=>if y=id then some false else st y) q2 g0 g2 (CW 0 (by omega)) (by omega) (N:=Co w ro+1) (by show ((Co w ro+1:Nat):Int)=U'.v 3;rw[e3];omega) idN qN lN cN
  (fun j hj u0 u1 CV hu1=>by
   unfold B3 AjC Ao Ao Ao at CV hu1;rcases RH j hj with ⟨he,f1,f2,f3,f4⟩|⟨he,i,hi,_,⟨s1,s2⟩,f1,f2,f3,f4⟩
   ·have e':(E.var 5).den U'=(j:Int):=by rw[he];exact hpe.symm
    simp only[e',and_self,if_true,Nat.zero_ne_one,and_false,if_false]at CV hu1;obtain⟨r,S,b3,b4⟩:=hu1;rw[hr3]at b3;cases b3;rw[f1,f2,f3,f4];refine⟨?_,b4⟩;have CV:u0=.int .i64 (U'.v 1):=CV;rw[CV,e1]
   ·have e':¬(E.var 5).den U'=(j:Int):=fun x=>he (by have x:U'.v 5=(j:Int):=x;omega)
    simp only[e',false_and,if_false]at CV hu1;rw[f1,f2,f3,f4];refine⟨?_,by rw[hu1,s2];exact hs.r1 i hi⟩;obtain⟨z,hz⟩:=erd j;rw[hs.r0 i hi,hz]at s1;have s1:z=BJ w ro i:=s1;rw[CV,hz,s1])
  (fun j hj=>by
   rcases RH j hj with ⟨he,f1,f2,f3,f4⟩|⟨he,i,hi,_,_,f1,f2,f3,f4⟩
   ·rw[f1,f2,f3,f4];exact⟨hro3,hrow3,z3,by rw[z4];exact if_pos rfl⟩
   ·rw[f1,f2,f3,f4];obtain⟨g1,g2,g3,g4⟩:=Dg i hi;have H5:=Wg h q3 AbV hi (U1 h hi);refine⟨g1,fun S e=>?_,Hy H5 g2,?_⟩
    ·rcases C7 2 _ S (by omega) e with h5|⟨b0,S0,h5⟩
     ·obtain⟨_,_,cq',tq',Fu,_⟩:=g2;have:=(Ht.1 Fu).1;omega
     ·exact U1 h hi b0 S0 h5
    ·show (if BJ w ro i=id then some false else st (BJ w ro i))=_;rw[if_neg (hidne i hi),Hv H5];exact g3)
  (fun i j hi hj e=>by
   rcases RH i hi with ⟨he,f1,_⟩|⟨he,i',hi',ei,_,f1,_⟩<;>rcases RH j hj with ⟨hf,f1',_⟩|⟨hf,j',He,ej,_,f1',_⟩
   ·omega
   ·rw[f1,f1']at e;exact absurd e.symm (hidne j' He)
   ·rw[f1,f1']at e;exact absurd e (hidne i' hi')
   ·rw[f1,f1']at e;have:=h.inj i' j' hi' He e;rw[ei,ej]at this;split at this<;>split at this<;>omega)
  (fun z hz=>by
   have hz:(if z=id then some false else st z).isSome=true:=hz
   by_cases e:z=id
   ·exact⟨p,by omega,by rw[e];exact (if_neg (by omega)).trans (if_pos rfl)⟩
   ·rw[if_neg e]at hz;obtain⟨i,hi,e2⟩:=h.all z hz
    by_cases Au:i<p
    ·exact⟨i,by omega,by rw[<-e2];exact if_pos Au⟩
    ·exact⟨i+1,by omega,by rw[<-e2];exact (if_neg (by omega)).trans (if_neg (by omega))⟩)
  (fun i j hi hj e=>by
   rcases RH i hi with ⟨he,_,f1,_⟩|⟨he,i',hi',ei,_,_,f1,_⟩<;>rcases RH j hj with ⟨hf,_,f1',_⟩|⟨hf,j',He,ej,_,_,f1',_⟩
   ·omega
   ·rw[f1,f1']at e;exact absurd e.symm (hq3ne j' He)
   ·rw[f1,f1']at e;exact absurd e (hq3ne i' hi')
   ·rw[f1,f1']at e;have:=h.dj i' j' hi' He (by rw[(Dg i' hi').2.2.2,(Dg j' He).2.2.2,e]);rw[ei,ej]at this;split at this<;>split at this<;>omega)
 refine⟨q1,MK q3 AbV NV c1 fun y hy=>?_⟩;rcases c2 y hy with e|⟨S,e⟩|⟨j,hj,e⟩
 ·exact .inr (.inl e)
 ·rcases C7 2 y S (by omega) e with h5|⟨b0,S0,h5⟩
  ·exact .inl h5
  ·exact .inr (NV b0 y S0 h5)
 ·rcases RH j hj with ⟨he,_,f2,_⟩|⟨he,i,hi,_,_,_,f2,_⟩
  ·rw[f2]at e;rcases C7 3 y S3 (by omega) (by rw[e];exact hr3) with h5|⟨b0,S0,h5⟩
   ·exact .inl h5
   ·exact .inr (NV b0 y S0 h5)
  ·exact .inr (.inr (.inr ⟨i,hi,by rw[e,f2];exact (Dg i hi).2.2.2⟩))
end Eng
namespace V
open Go Eng
variable {U:An} {w w':World} {ro:Nat} {st st':Int->Option Bool}
def cW(i:Nat):Bq:=Dx e19 i
def dCf:List CF:=[⟨.geq,.var 0,.lit 0,true⟩,⟨.leq,.var 0,.lit 65535,true⟩]
def dRd:List KC:=[(2,[.i .i64,.u])]
def Afg:List CF:=dCf++[⟨.geq,.var 3,.lit 0,true⟩,⟨.lss,.var 3,.var 0,true⟩,AG 93 [.var 0,.var 1,.var 3] [2],⟨.geq,.var 4,.lit 0,true⟩,⟨.leq,.var 4,.lit 16,true⟩]
def ApA:List KC:=dRd++[(5,EE)]
def idA:List AV:=[.one (.sym .i64 (.var 1))]
def nAw:List AV:=idA++[.one (.sym .i64 (.var 3))]
def p0:AV:=.one (.ptr 0 0)
def Aq5:List (Nat×Aj):=[(0,BK [.C2 3 2 (.var 6)]),(3,.row 7 2 (.var 6) [])]
def ZM(n:Nat):Aj:=BK ((List.replicate n [.int .i64 0,.int .i64 0,.int .i64 0,.int .u64 0,.int .i64 0,.int .i64 0,.int .i64 0,.int .i64 0]).flatten)
def AuS(n:Nat):List (Nat×Aj):=[(0,BK [.C2 2 2 (.var 3)]),(2,.row 4 2 (.var 3) (AjC n)),(3,ZM n)]
def Apm:List CF:=dCf++[⟨.geq,.var 1,.lit 1,true⟩,⟨.lss,.var 0,.lit 65535,true⟩,AG 1 [.var 0,.var 1] [2]]
def eqM:CF:=⟨.eql,.var 6,.bin .sub .i64 (.var 0) (.lit 1),true⟩
def eqP:CF:=⟨.eql,.var 3,.bin .add .i64 (.var 0) (.lit 1),true⟩
def Rc(i n:Nat):Bool:=Kt [BG e19 i,Tx (cW i) 165 (p0::(idA++[.one (.int .i64 (.ofNat n))])) (Lx []) 2 3 Apm dRd,FO (cW i) (AuS n) 0,BW (cW i) 0 eqP,BW (cW i) 0 (AG 98 [.var 0,.var 5] [2,4]),BW (cW i) 0 ⟨.geq,.var 5,.lit 0,true⟩,BW (cW i) 0 ⟨.leq,.var 5,.var 0,true⟩,(cW i).fst.rd.any (fun k=>EK k (4,[.i .i64,.u])),AcI n (ZM n)]
theorem HP:Kt [BG e19 7,Tx (cW 7) 175 (p0::idA) (Lx []) 2 3 (dCf++[AG 1 [.var 0,.var 1] [2]]) dRd,FO (cW 7) (Lx []) 2,
 BG e19 8,Tx (cW 8) 175 (p0::idA) MW 3 6 (Afg++[AG 99 [.var 4] [5]]) ApA,FO (cW 8) MW 16,
 BG e19 9,Tx (cW 9) 175 (p0::idA) MW 3 6 (Afg++[AG 95 [.var 4] [5]]) ApA,FO (cW 9) Aq5 0,BW (cW 9) 0 eqM,BW (cW 9) 0 (AG 7 [.var 0,.var 3] [2,7]),
 BG e19 10,Tx (cW 10) 165 (p0::nAw) (Lx []) 2 4 (dCf++[⟨.lss,.var 1,.lit 1,true⟩]) dRd,FO (cW 10) (Lx []) 2,
 BG e19 11,Tx (cW 11) 165 (p0::nAw) (Lx []) 2 5 (dCf++[⟨.geq,.var 1,.lit 1,true⟩,⟨.geq,.var 3,.lit 1,true⟩,⟨.leq,.var 3,.lit 16,true⟩,⟨.geq,.var 4,.lit 0,true⟩,⟨.lss,.var 4,.var 0,true⟩,AG 93 [.var 0,.var 1,.var 4] [2]]) dRd,FO (cW 11) (Lx []) 11,
 Rc 12 2,Rc 13 3,Rc 14 4,Rc 15 8,Rc 16 16]=true:=by decide +kernel
theorem Ph(h:Br st ro w)(BN:∀z,(st z).isSome=true->1<=z/\z<=65535):Co w ro<=65535:=by
 refine VX 65535 (Co w ro) (BJ w ro) (fun j hj=>?_) fun i j hi hj e=>h.inj i j hi hj e
 exact BN _ (by rw[(K0 h hj).2.2.1];rfl)
theorem O5{id v3 v4:Int}{cq:Array Value}{m:Nat}(hN:Co w ro<=65535):Al (A2 (HS w ro id v3 v4 cq m)) dCf:=
 .cons (FN (show (0:Int)<=(Co w ro:Int) by omega)) (.cons (Hg (show (Co w ro:Int)<=65535 by omega)) .nil)
theorem Yv(h:Br st ro w){id v3 v4:Int}{cq:Array Value}{m:Nat}(hs:st id=none):A2 (HS w ro id v3 v4 cq m) (AG 1 [.var 0,.var 1] [2]):=
 Az (g:=1) (ns:=[.var 0,.var 1]) (rs:=[2]) (show EX (Co w ro:Int) _ id from fun j hj e=>by
  have He:j<Co w ro:=by omega
  rw[SK He]at e;have:=(K0 h He).2.2.1;rw[e,hs]at this;cases this)
theorem YA(h:Br st ro w){v3 v4:Int}{cq:Array Value}{m k:Nat}(hk:k<Co w ro){i:Nat}(hi:(HS w ro (BJ w ro k) v3 v4 cq m).v i=k):A2 (HS w ro (BJ w ro k) v3 v4 cq m) (AG 93 [.var 0,.var 1,.var i] [2]):=
 Az (g:=93) (ns:=[.var 0,.var 1,.var i]) (rs:=[2]) (show F93 (Co w ro:Int) (BJ w ro k) ((HS w ro (BJ w ro k) v3 v4 cq m).v i) _ from by
  rw[hi];refine⟨by omega,by omega,?_,fun j hj e=>?_⟩
  ·rw[Int.toNat_natCast,SK hk]
  ·have He:j<Co w ro:=by omega
   rw[SK He]at e;rw[h.inj j k He hk e])
theorem Amn{J:A1}{np:Nat}{id v3 v4:Int}{cq:Array Value}{m:Nat}(hnp:3<=np){vs:List Value}(EU:vs=[.int .i64 id]):∀J U',Ai np (HS w ro id v3 v4 cq m) U'->F2 (Bb J U') idA vs:=fun J U' ha=>by
 rw[EU];refine .cons ?_ .nil;show Value.int .i64 id=.int .i64 (U'.v 1);rw[ha.v 1 (by omega)];rfl
theorem vs1{J:A1}{vs:List Value}(h:F2 (Bb J U) idA vs):vs=[.int .i64 (U.v 1)]:=by
 match h with
 |.cons h0 .nil=>rw[show _=_ from h0];rfl
theorem Abo{id v3 v4:Int}{cq:Array Value}{tq:TypeId}{q n cap:Nat}(hq:w.heap[q]? =some (.cells cq tq (0,0)))(hc:FB w q n cap):EO (HS w ro id v3 v4 cq n) (5,EE):=by
 obtain⟨_,_,cq',tq',Fu,_,Da⟩:=hc;rw[hq]at Fu;cases Fu;exact⟨fun j c=>S7 (k:=fun _=>none) (r:=0) (ty:=0) (ks:=EE) (N:=n) Da j c,trivial⟩
theorem Acp(h:Br st ro w)(hN:Co w ro<=65535){k:Nat}(hk:k<Co w ro){cq:Array Value}:Al (A2 (HS w ro (BJ w ro k) k (Bz w ro k) cq (Bz w ro k))) Afg:=by
 obtain⟨⟨l1,l2⟩,_⟩:=(K0 h hk).2.1;exact Al.append (O5 hN) (.cons (FN (show (0:Int)<=(k:Int) by omega)) (.cons (Yr (show (k:Int)<(Co w ro:Int) by omega)) (.cons (YA h hk rfl) (.cons (FN (show (0:Int)<=(Bz w ro k:Int) by omega)) (.cons (Hg (show (Bz w ro k:Int)<=16 by omega)) .nil)))))
theorem Xa{cq:Array Value}{tq:TypeId}{q n cap:Nat}(hq:w.heap[q]? =some (.cells cq tq (0,0)))(hc:FB w q n cap){i:Nat}(hi:i<n):∃v,cellAt w q (i*8)=some v/\rowOf cq EE n i 0=v:=by
 obtain⟨_,_,cq',tq',Fu,_,Da⟩:=hc;rw[hq]at Fu;cases Fu;obtain⟨u,g1,_⟩:=Da i 0 hi (by omega);rw[Nat.add_zero]at g1;exact⟨u,by rw[Bi hq];exact g1,NY (ks:=EE) (c:=0) hi (show 0<8 by omega) g1⟩
theorem Jw{c:Bq}{f:Nat}{args:List AV}{bl:List (Nat×Aj)}{n np:Nat}{cf:List CF}{rd:List KC}(ht:AcK c f args bl n np cf rd)(hq:c.q U)(h1:Al (A2 U) cf)(h2:Al (EO U) rd):c.pre U:=
 ⟨by rw[ht.cf];exact h1,by rw[ht.rd];exact h2,hq,by rw[ht.mp];exact .nil⟩
theorem okW{i:Nat}(h:BG e19 i=true):(cW i).ok WD/\∀U,(cW i).q U:=Bw AmG h
abbrev To(st st':Int->Option Bool)(ro:Nat)(w:World)(res:Int)(v':Value)(w':World):Prop:=v'=.int .i64 res/\MD (D0 st) (D0 st') ro w w'
theorem Adm(h:Br st ro w)(hN:Co w ro<=65535){z:Int}(hs:st z=none):Ci WD.P 175 #[.pointer (some ⟨ro,0,none⟩),.int .i64 z] w (To st st ro w 2):=by
 have ht:=HY (Ab HP (i:=1) rfl);have ho:=okW (Ab HP (i:=0) rfl);exact Oh ho.1 ht (Ab HP (i:=2) rfl) (by omega) h (id:=z) (v3:=0) (v4:=0) (cq:= #[]) (m:=0) (Jw ht (ho.2 _) (Al.append (O5 hN) (.cons (Yv h hs) .nil)) (.cons JD .nil)) (Amn (J:=fun _=>none) (by omega) rfl)
theorem Adk(h:Br st ro w)(hN:Co w ro<=65535){k:Nat}(hk:k<Co w ro)(hs:st (BJ w ro k)=some true):Ci WD.P 175 #[.pointer (some ⟨ro,0,none⟩),.int .i64 (BJ w ro k)] w (To st st ro w 16):=by
 have ht:=HY (Ab HP (i:=4) rfl);have ho:=okW (Ab HP (i:=3) rfl);obtain⟨_,Fm,hbz,_⟩:=K0 h hk;have hcap0:=Fm;obtain⟨_,_,cq,tq,hq,_⟩:=Fm;rw[hs]at hbz;have hbz:CA w (Im w ro k) (Bz w ro k)=true:=(Option.some.inj hbz).symm;refine Aib ho.1 ht (Ab HP (i:=5) rfl) (by omega) h (id:=BJ w ro k) hk hq (Jw ht (ho.2 _) (Al.append (Acp h hN hk) (.cons (Az (g:=99) (ns:=[.var 4]) (rs:=[5]) ?_) .nil)) (.cons JD (.cons (Abo hq hcap0) .nil))) (Amn (J:=fun _=>none) (by omega) rfl);unfold CA at hbz;obtain⟨i,hi,v,h1,h2⟩:=of_decide_eq_true hbz;obtain⟨v',h3,h4⟩:=Xa hq hcap0 hi;rw[h1]at h3;cases h3;exact⟨i,by show (i:Int)<(Bz w ro k:Int);omega,by show numOf (rowOf cq EE (Bz w ro k) i 0) ≠ 0;rw[h4];exact h2⟩
theorem Adl(h:Br st ro w)(hN:Co w ro<=65535){k:Nat}(hk:k<Co w ro)(hs:st (BJ w ro k)=some false):Ci WD.P 175 #[.pointer (some ⟨ro,0,none⟩),.int .i64 (BJ w ro k)] w (To st (fun y=>if y=BJ w ro k then none else st y) ro w 0):=by
 have ht:=HY (Ab HP (i:=7) rfl);have ho:=okW (Ab HP (i:=6) rfl);obtain⟨_,Fm,hbz,_⟩:=K0 h hk;have hcap0:=Fm;obtain⟨_,_,cq,tq,hq,_⟩:=Fm;rw[hs]at hbz;have hbz:CA w (Im w ro k) (Bz w ro k)=false:=(Option.some.inj hbz).symm;refine Ak5 ho.1 ht (Ab HP (i:=8) rfl) (Ab HP (i:=9) rfl) (Ab HP (i:=10) rfl) h hN (id:=BJ w ro k) hk hq (Jw ht (ho.2 _) (Al.append (Acp h hN hk) (.cons (Az (g:=95) (ns:=[.var 4]) (rs:=[5]) ?_) .nil)) (.cons JD (.cons (Abo hq hcap0) .nil))) (Amn (J:=fun _=>none) (by omega) rfl);show F95 (Bz w ro k:Int) _;intro i hi;have hi':i<Bz w ro k:=by omega
 obtain⟨v',h3,h4⟩:=Xa hq hcap0 hi';show numOf (rowOf cq EE (Bz w ro k) i 0)=0;rw[h4]
 by_cases e:numOf v'=0
 ·exact e
 ·unfold CA at hbz;exact absurd ⟨i,hi',v',h3,e⟩ (of_decide_eq_false hbz)
theorem Af8:(Ee 175 idA 2 8 []).ok WD:=Ow rfl fun U _ hk=>by
 obtain⟨st,hB,BN⟩:=(HM _).1 hk;rw[hB];cases hs:st (U.v 1) with
 |none=>exact⟨D0 st,2,(HM _).2 ⟨st,rfl,BN⟩,fun ro w J vs Cp EU=>by rw[vs1 EU];exact Adm Cp (Ph Cp BN) hs⟩
 |some bz=>
  cases bz with
  |true=>
   refine⟨D0 st,16,(HM _).2 ⟨st,rfl,BN⟩,fun ro w J vs Cp EU=>?_⟩;obtain⟨k,hk,Dg⟩:=Br.all Cp (U.v 1) (by rw[hs];rfl);rw[vs1 EU,<-Dg];exact Adk Cp (Ph Cp BN) hk (by rw[Dg];exact hs)
  |false=>
   refine⟨D0 fun y=>if y=U.v 1 then none else st y,0,(HM _).2 ⟨_,rfl,fun z hz=>?_⟩,fun ro w J vs Cp EU=>?_⟩
   ·by_cases e:z=U.v 1
    ·rw[if_pos e]at hz;cases hz
    ·rw[if_neg e]at hz;exact BN z hz
   ·obtain⟨k,hk,Dg⟩:=Br.all Cp (U.v 1) (by rw[hs];rfl);rw[vs1 EU,<-Dg];exact Adl Cp (Ph Cp BN) hk (by rw[Dg];exact hs)
def nN(n:Nat):List AV:=idA++[.one (.int .i64 (.ofNat n))]
theorem vsN{J:A1}{vs:List Value}{n:Nat}(h:F2 (Bb J U) (nN n) vs):vs=[.int .i64 (U.v 1),.int .i64 (.ofNat n)]:=by
 match h with
 |.cons h0 (.cons h1 .nil)=>rw[show _=_ from h0,show _=_ from h1];rfl
theorem Aps{np n:Nat}{id v4:Int}{cq:Array Value}{m:Nat}(hnp:4<=np):∀J U',Ai np (HS w ro id (.ofNat n) v4 cq m) U'->F2 (Bb J U') nAw [.int .i64 id,.int .i64 (.ofNat n)]:=fun J U' ha=>by
 refine .cons ?_ (.cons ?_ .nil)
 ·show Value.int .i64 id=.int .i64 (U'.v 1);rw[ha.v 1 (by omega)];rfl
 ·show Value.int .i64 (.ofNat n)=.int .i64 (U'.v 3);rw[ha.v 3 (by omega)];rfl
theorem Ai1(h:Br st ro w)(hN:Co w ro<=65535){z:Int}{n:Nat}(hz:z<1):Ci WD.P 165 #[.pointer (some ⟨ro,0,none⟩),.int .i64 z,.int .i64 (.ofNat n)] w (To st st ro w 2):=by
 have ht:=HY (Ab HP (i:=12) rfl);have ho:=okW (Ab HP (i:=11) rfl);exact Oh ho.1 ht (Ab HP (i:=13) rfl) (by omega) h (id:=z) (v3:=.ofNat n) (v4:=0) (cq:= #[]) (m:=0) (Jw ht (ho.2 _) (Al.append (O5 hN) (.cons (Yr hz) .nil)) (.cons JD .nil)) (Aps (by omega))
theorem AeC(h:Br st ro w)(hN:Co w ro<=65535){k n:Nat}(hk:k<Co w ro)(hn1:1<=n)(hn2:n<=16)(hz:1<=BJ w ro k):Ci WD.P 165 #[.pointer (some ⟨ro,0,none⟩),.int .i64 (BJ w ro k),.int .i64 (.ofNat n)] w (To st st ro w 11):=by
 have ht:=HY (Ab HP (i:=15) rfl);have ho:=okW (Ab HP (i:=14) rfl);exact Oh ho.1 ht (Ab HP (i:=16) rfl) (by omega) h (id:=BJ w ro k) (v3:=.ofNat n) (v4:=k) (cq:= #[]) (m:=0) (Jw ht (ho.2 _) (Al.append (O5 hN) (.cons (FN hz) (.cons (FN (show (1:Int)<=(n:Int) by omega)) (.cons (Hg (show (n:Int)<=16 by omega)) (.cons (FN (show (0:Int)<=(k:Int) by omega)) (.cons (Yr (show (k:Int)<(Co w ro:Int) by omega)) (.cons (YA h hk rfl) .nil))))))) (.cons JD .nil)) (Aps (by omega))
theorem Apt{n:Nat}{id v3 v4:Int}{cq:Array Value}{m:Nat}:∀J U',Ai 3 (HS w ro id v3 v4 cq m) U'->F2 (Bb J U') (nN n) [.int .i64 id,.int .i64 (.ofNat n)]:=fun J U' ha=>by
 refine .cons ?_ (.cons rfl .nil);show Value.int .i64 id=.int .i64 (U'.v 1);rw[ha.v 1 (by omega)];rfl
theorem Ai2{i n:Nat}(hc:Rc i n=true)(hn1:1<=n)(hn2:n<=16)(h:Br st ro w)(hN:Co w ro<=65534){z:Int}(hs:st z=none)(hz:1<=z):Ci WD.P 165 #[.pointer (some ⟨ro,0,none⟩),.int .i64 z,.int .i64 (.ofNat n)] w (To st (fun y=>if y=z then some false else st y) ro w 0):=by
 have ht:=HY (Ab hc (i:=1) rfl);have ho:=okW (Ab hc (i:=0) rfl);exact AoJ ho.1 hn1 hn2 (Ab hc (i:=8) rfl) ht (Ab hc (i:=2) rfl) (by simp[ZM,BK]) (Ab hc (i:=3) rfl) (Ab hc (i:=4) rfl) (Ab hc (i:=5) rfl) (Ab hc (i:=6) rfl) (Ab hc (i:=7) rfl) h hN (id:=z) (v3:=0) (v4:=0) (cq:= #[]) (m:=0) hs
  (Jw ht (ho.2 _) (Al.append (O5 (by omega)) (.cons (FN hz) (.cons (Yr (show (Co w ro:Int)<65535 by omega)) (.cons (Yv h hs) .nil)))) (.cons JD .nil)) Apt
def Sg:CF:=⟨.lss,.var 1,.lit 65536,true⟩
theorem Nw{i n:Nat}(hc:Rc i n=true)(hn1:1<=n)(hn2:n<=16):(Ee 165 (nN n) 2 8 [Sg]).ok WD:=Ow rfl fun U hcf hk=>by
 obtain⟨st,hB,BN⟩:=(HM _).1 hk;have hmax:U.v 1<65536:=RY (hcf.nth 0 rfl);rw[hB]
 by_cases hz:1<=U.v 1
 ·cases hs:st (U.v 1) with
  |none=>
   refine⟨D0 fun y=>if y=U.v 1 then some false else st y,0,(HM _).2 ⟨_,rfl,fun z L5=>?_⟩,fun ro w J vs Cp EU=>?_⟩
   ·by_cases e:z=U.v 1
    ·rw[e];omega
    ·rw[if_neg e]at L5;exact BN z L5
   ·rw[vsN EU];have Cp:Br st ro w:=Cp;refine Ai2 hc hn1 hn2 Cp ?_ hs hz;have:=VX 65535 (Co w ro+1) (fun j=>if j<Co w ro then BJ w ro j else U.v 1) (fun j hj=>?_) fun i j hi hj e=>?_
    ·omega
    ·by_cases e:j<Co w ro
     ·simp only[if_pos e];exact BN _ (by rw[(K0 Cp e).2.2.1];rfl)
     ·simp only[if_neg e];omega
    ·have Bs:∀i,i<Co w ro->BJ w ro i ≠ U.v 1:=fun i hi e=>by
      have:=(K0 Cp hi).2.2.1;rw[e,hs]at this;cases this
     by_cases e1:i<Co w ro<;>by_cases e2:j<Co w ro
     ·simp only[if_pos e1,if_pos e2]at e;exact Cp.inj i j e1 e2 e
     ·simp only[if_pos e1,if_neg e2]at e;exact absurd e (Bs i e1)
     ·simp only[if_neg e1,if_pos e2]at e;exact absurd e.symm (Bs j e2)
     ·omega
  |some bz=>
   refine⟨D0 st,11,(HM _).2 ⟨st,rfl,BN⟩,fun ro w J vs Cp EU=>?_⟩;obtain⟨k,hk,Dg⟩:=Br.all Cp (U.v 1) (by rw[hs];rfl);rw[vsN EU,<-Dg];exact AeC Cp (Ph Cp BN) hk hn1 hn2 (by rw[Dg];exact hz)
 ·exact⟨D0 st,2,(HM _).2 ⟨st,rfl,BN⟩,fun ro w J vs Cp EU=>by rw[vsN EU];exact Ai1 Cp (Ph Cp BN) (by omega)⟩
theorem Af4:(Ee 165 (nN 2) 2 8 [Sg]).ok WD:=Nw (Ab HP (i:=17) rfl) (by omega) (by omega)
theorem Af5:(Ee 165 (nN 3) 2 8 [Sg]).ok WD:=Nw (Ab HP (i:=18) rfl) (by omega) (by omega)
theorem Af6:(Ee 165 (nN 4) 2 8 [Sg]).ok WD:=Nw (Ab HP (i:=19) rfl) (by omega) (by omega)
theorem Af7:(Ee 165 (nN 8) 2 8 [Sg]).ok WD:=Nw (Ab HP (i:=20) rfl) (by omega) (by omega)
theorem Ads:(Ee 165 (nN 16) 2 8 [Sg]).ok WD:=Nw (Ab HP (i:=21) rfl) (by omega) (by omega)
end V
namespace V
open Go Eng
variable {Y:An} {w:World}
theorem Aeh{u:Value}{r:Nat}{k:Nat->Option Obj}(hM:Kn SH.cf SH.rd (fun _=>True) Y SH.mp)(h:Mem WD ⟨SH.D,.C2 0 8 (.var 0)⟩ Y w u r)(hk:∀y,SH.D.fp Y r w y->k y=w.heap[y]?):SlK k AiI u:=by
 obtain⟨_,h2,h3⟩:=h;obtain⟨p,N,c,e,hN,hp⟩:=h2;have hN':(N:Int)=Y.v 0:=hN;have g1:(1:Int)<=Y.v 0:=H2 (hM.cf.nth 0 rfl);have g2:Y.v 0<=16:=Ig (hM.cf.nth 1 rfl);rcases hp with ⟨_,e2,_⟩|⟨r',S,hρ,ep,hS,hle⟩
 ·omega
 ·refine⟨p,N,c,e,by omega,.inr ⟨r',ep,?_⟩⟩;obtain⟨o,ho,hx⟩:=h3.AE 0 r' S hρ;obtain⟨cs,ty,N',e1,e2,e3,e4,e5,_,e6⟩:=hx (.row 1 8 (.var 0) []) rfl;have e3':(N':Int)=Y.v 0:=e3;obtain rfl:N'=N:=by omega
  have EJ:SH.D.fp Y r w r':=.inl ⟨0,by
   have hρ:(DA SH.D.ps w r 32 0).map (fun r=>(r,FY w r))=some (r',S):=hρ;cases hh:DA SH.D.ps w r 32 0 with
   |none=>rw[hh]at hρ;cases hρ
   |some x=>rw[hh]at hρ;cases hρ;rfl⟩
  refine⟨cs,ty,by rw[hk r' EJ,ho,e1],by show N'*8<=cs.size;omega,fun j c hj hc=>?_⟩;obtain⟨v,v1,v2⟩:=e6 j c hj hc;refine⟨v,v1,e5 (j*8+c) v (by have hc:c<8:=hc;omega) v1,?_⟩;have hv:v=Y.r 1 j c:=v2;rw[hv];have hr:EO Y (1,JN):=by cases hM.rd with |cons h _=>exact h
  exact hr.1 j c
theorem Ap3:Kt [BG e18 5,Ag2 (Dx e18 5) 211 [] 1 (.s::AiI) (.one .any)]=true:=by decide +kernel
theorem Aje:(Be.look 211 [] 1 7 (.one .any)).ok WD:=by
 have hc:=Bw AmF (Ab Ap3 (i:=0) rfl);exact Be.look_ok (MI:=fun Y=>Kn SH.cf SH.rd (fun _=>True) Y SH.mp) hc.1 hc.2 (Ab Ap3 (i:=1) rfl) kW fun Y w u r k hM h hk=>Aeh hM h hk
theorem Am3:Kt [BG e19 17,Tx (cW 17) 165 (p0::nN 0) (Lx []) 2 3 dCf dRd,FO (cW 17) (Lx []) 2]=true:=by decide +kernel
theorem add_zero{st:Int->Option Bool}{ro:Nat}(h:Br st ro w)(hN:Co w ro<=65535){z:Int}:Ci WD.P 165 #[.pointer (some ⟨ro,0,none⟩),.int .i64 z,.int .i64 (.ofNat 0)] w (To st st ro w 2):=by
 have ht:=HY (Ab Am3 (i:=1) rfl);have ho:=okW (Ab Am3 (i:=0) rfl);exact Oh ho.1 ht (Ab Am3 (i:=2) rfl) (by omega) h (id:=z) (v3:=0) (v4:=0) (cq:= #[]) (m:=0) (Jw ht (ho.2 _) (O5 hN) (.cons JD .nil)) Apt
theorem Af3:(Ee 165 (nN 0) 2 8 []).ok WD:=Ow rfl fun U _ hk=>by
 obtain⟨st,hB,BN⟩:=(HM _).1 hk;rw[hB];exact⟨D0 st,2,(HM _).2 ⟨st,rfl,BN⟩,fun ro w J vs Cp EU=>by rw[vsN EU];exact add_zero Cp (Ph Cp BN)⟩
end V
namespace V
open Go Eng
def MO:Bq:=ZL 212 [.one (.ptr 0 0)] As2 26 80
theorem Af2:MO.ok WD:=Adf (m:=400) (X:=⟨0,0,0,none⟩) BZ (by decide) (by decide +kernel)
theorem Arb:∀B,AD.is Zc.kind B↔∃Y,B=Zc.D.Am WD Y/\Kn Zc.cf Zc.rd (fun _=>True) Y Zc.mp:=H6 (s:=Zc) (by simp[C5]) (Ug 5) (by decide +kernel)
end V
namespace Go.Proofs
open Go.RowKit Go.Maps Go.Sort Go.Shelf
namespace Tryz
set_option maxHeartbeats 2000000
theorem Anw(x:Int)(w:World):Calls Tryz.prog 210 #[.slice none 0 0,.int .i64 x] w fun e w'=>e=.returned (.int .i64 (-1))/\w'=w:=by
 go_enter Tryz.func210,Tryz.ntmps210
 go_wp2
 refine wp_loop_rounds 1 ?_
 rw[rounds_succ]
 go_wp2
 go_ret
 exact⟨rfl,rfl⟩
def MH(w:World)(v:Value):Prop:=∃(r:Nat) (x:Bool) (ty:TypeId),v=.pointer (some ⟨r,0,none⟩)/\w.heap[r]? =some (.cells #[.slice none 0 0,.bool x] ty (0,0))
open Classical in
noncomputable def RE(w:World):Value->Option (DataW Unit×List MemPlace):=fun v=>if MH w v then some (.nil,[]) else none
theorem Ais{w:World}{v:Value}{y:DataW Unit×List MemPlace}(h:RE w v=some y):MH w v:=by
 unfold RE at h
 by_cases e:MH w v
 ·exact e
 ·rw[if_neg e]at h;cases h
open Keys in
theorem rdE{w:World}{ms:List MapEntry}{clock:Nat}(h:MOK ms clock)(hg:∀e∈ms,MH w e.val){k:TypeId}(hk:Tryz.prog.underlying k=some (.int .i64)){e:MapEntry}(he:e∈ms):WideElems.rd Tryz.prog k (RE w) e=some (.int .i64 (kz e),.nil):=by
 obtain⟨h1,h2,h3⟩:=h.keys e he
 have h4:RE w e.val=some (.nil,[]):=if_pos (hg e he)
 unfold WideElems.rd
 rw[h1,h4,Maps.keyOf_int_mk hk (by
  have a1:IntKind.i64.min= -9223372036854775808:=by decide
  have a2:IntKind.i64.max=9223372036854775807:=by decide
  show (decide (IntKind.i64.min<=kz e)&&decide (kz e<=IntKind.i64.max))=true
  rw[a1,a2,Ah,decide_eq_true_eq,decide_eq_true_eq]
  omega)]
 rfl
open Keys in
theorem Ar4{w0:World}{ms:List MapEntry}{clock b:Nat}{w:World}(h:MOK ms clock)(hg:∀e∈ms,MH w0 e.val)(hb:w.heap[b]? =some (.map ms.toArray clock)){k:TypeId}(hk:Tryz.prog.underlying k=some (.int .i64)):
 w.ownsMap Tryz.prog k (RE w0) b ms.length (.map ((ms.map (WideElems.rg Tryz.prog k (RE w0))).foldr DataW.insert [])):=by
 refine⟨ms.toArray,clock,hb,⟨by simp[maxLen];have:=h.len;omega,⟨fun x hx=>h.born x (by simpa using hx),by simpa using h.bnd,?_⟩,fun x hx=>⟨_,rdE h hg hk (by simpa using hx)⟩⟩,by simp,by simp⟩
 have hn:=h.nodup
 simp only[List.toList_toArray]
 rw[List.nodup_iff_pairwise_ne,List.pairwise_map]at hn ⊢
 refine hn.imp_of_mem fun {a c} ha hc hne e=>hne ?_
 rw[(h.keys a ha).1,(h.keys c hc).1]at e
 injection e
theorem Ado{l b0 b1 ro b:Nat}{who:Int}{t0 t1 ty:TypeId}{ms:List MapEntry}{clock:Nat}{w:World}(hM:Keys.MOK ms clock)(hg:∀e∈ms,MH w e.val)
 (h0:w.heap[b0]? =some (.cells #[.pointer (some ⟨ro,0,none⟩)] t0 (0,0))) (h1:w.heap[b1]? =some (.cells #[.int .i64 who] t1 (0,0))) (hro:w.heap[ro]? =some (.cells #[.map (some b)] ty (0,0))) (hb:w.heap[b]? =some (.map ms.toArray clock)):
 Calls Tryz.prog 302 #[.func (.yield l) #[] #[],.pointer (some ⟨b0,0,none⟩),.pointer (some ⟨b1,0,none⟩)] w fun e w'=>e=.returned (.tuple #[])/\w.grownBy w' none:=by
 have hk:Tryz.prog.underlying 3=some (.int .i64):=by kernel_rfl
 have hm:Tryz.prog.underlying 257=some (.map 3 256):=by kernel_rfl
 have K:Keyed Tryz.prog 3:=int_keyed hk
 have hown:=Ar4 (w0:=w) hM hg hb hk
 have c0:w.cell? ⟨b0,0,none⟩=some (.pointer (some ⟨ro,0,none⟩)):=by simp[World.cell?,h0]
 have c1:w.cell? ⟨b1,0,none⟩=some (.int .i64 who):=by simp[World.cell?,h1]
 have cro:w.cell? ⟨ro,0,none⟩=some (.map (some b)):=by simp[World.cell?,hro]
 have l1:b1<w.heap.size:=(Ht.1 h1).1
 generalize hD:(DataW.map ((ms.map (WideElems.rg Tryz.prog 3 (RE w))).foldr DataW.insert []))=D at hown
 go_enter Tryz.func302,Tryz.ntmps302
 refine wp_scope_straight ?_
 go_wp2
 apply wp_label
 go_wp2_with (first
  |(at_range;refine wpList_range_own _ rfl _ 257 rfl 3 256 K hm (RE w) b ms.length _ rfl hown ?_;intro w0 hrg0 hg0 hs0)
  |go_in)
 go_frame
 go_loopw [] (fun wr=>∃(left:Lit->Bool) (cnt:Nat),wr.ranges Tryz.prog 3 (RE w) b w.heap.size ms.length D left cnt/\w.grownBy wr none)
  (fun wr=>wr.rangeLeft b w.heap.size)
 case atStart=>exact⟨_,_,hrg0,hg0⟩
 case round=>
  obtain⟨left,cnt,hrg,hgw⟩:=hrel
  go_wp2_with (first
   |(at_next;refine wpList_next_ranges _ rfl _ rfl 3 K (RE w) id id (fun key _ _=>⟨key,rfl⟩) (fun v _ _=>⟨v,rfl⟩) b w.heap.size ms.length _ _ _ rfl hrg ?_ ?_)
   |go_in)
  ·intro _ _
   go_wp2
   rw[Exit.noGoto_normal]
   go_end0
   exact⟨rfl,hgw⟩
  ·intro x c kl yd yp w1 cnt1 hkey hlx hv hat hrg1 hlt hg1 hs1 hen
   have hgw1:w.grownBy w1 none:=hgw.andThen hg1 (fun j hj=>by cases hj;exact Or.inl (Nat.le_refl _))
   obtain⟨r,xb,ty2,hx,hr⟩:=Ais hv
   have hx:c=_:=hx
   subst hx
   have hlr:r<w.heap.size:=(Ht.1 hr).1
   have hr1:w1.heap[r]? =some (.cells #[.slice none 0 0,.bool xb] ty2 (0,0)):=by rw[hgw1.block r hlr (by simp)];exact hr
   have cr1:w1.cell? ⟨r,0,none⟩=some (.slice none 0 0):=by simp[World.cell?,hr1]
   have cw1:w1.cell? ⟨b1,0,none⟩=some (.int .i64 who):=by simp[World.cell?,hgw1.block b1 l1 (by simp),h1]
   go_wp2_with (first|go_in)
   go_quiet ((go_at_call 210;exact Calls.quiet_of_same (Anw _ _)))
   have hd:w1.grownBy (w1.drewN nq) none:=⟨rfl,rfl,rfl,Nat.le_refl _,fun _ _ _=>rfl⟩
   have hgw2:w.grownBy (w1.drewN nq) none:=hgw1.andThen hd (fun j hj=>by cases hj)
   have hrg2:=hrg1.kept hd (by simp) (by simp)
   go_wp2
   go_roundw
   case rel=>exact⟨_,cnt1,hrg2,hgw2⟩
   case measure=>rw[hrg2.left_eq,hrg.left_eq];exact hlt
end Tryz
end Go.Proofs
namespace Go.Proofs
open Go.RowKit Go.Maps Go.Sort Go.Shelf
namespace Tryz
set_option maxHeartbeats 2000000
theorem AiW(ro:Nat)(who:Int)(w:World):Calls Tryz.prog 189 #[.pointer (some ⟨ro,0,none⟩),.int .i64 who] w fun e w'=>
 e=.returned (.func (.func 302) #[] #[.pointer (some ⟨w.heap.size,0,none⟩),.pointer (some ⟨w.heap.size+1,0,none⟩)])/\w'=(w.alloc (.cells #[.pointer (some ⟨ro,0,none⟩)] 143)).alloc (.cells #[.int .i64 who] 3):=by
 go_enter Tryz.func189,Tryz.ntmps189
 go_wp2
 go_ret
 exact⟨rfl,rfl⟩
theorem Afu{P:Program}(fn:FuncId)(tmps:Array Value)(ps:Array Tmp)(assign body:Code)(w:World):∃L:Loop,L.state=.ready/\L.pending=none/\
 (Instr.enterLoop fn tmps ps assign body none).run P w=.ok (w.heap.size+1,[{target:=.collected w.heap.size,args:= #[]}]) ((w.alloc (.deferred (some []))).alloc (.loop L)):=
 ⟨_,rfl,rfl,run_enterLoop_outer _ _ _ _ _⟩
theorem Gw(w:World)(o:Obj):w.grownBy (w.alloc o) none:=⟨rfl,rfl,rfl,by simp,fun k hk _=>Below.heap_alloc _ _ k hk⟩
theorem Gx{a b c:World}(h:a.grownBy b none)(k:b.grownBy c none):a.grownBy c none:=h.andThen k (fun j hj=>by cases hj)
theorem AaI{P:Program}{g:Operand}{ps:Array Tmp}{assign body:Code}{Q:Exit->Act->World->Prop}{a:Act}{w:World}{f:FuncId}{cl:Array Value}(hg:a.eval g=.func (.func f) #[] cl)
 (eg:∀args w,(callFunc f args).run P w=.ok (.enter f args) w)
 (hcall:∀(l:Nat) (W:World),w.grownBy W none->Calls P f (#[.func (.yield l) #[] #[]]++cl) W fun e W'=>e=.returned (.tuple #[])/\W.grownBy W' none)
 (hK:∀(D:Nat) (W:World),w.heap.size<=D->w.grownBy W none->W.heap[D]? =some (.deferred (some []))->Q .normal {a with defers:={target:=.collected D,args:= #[]}::a.defers} W):
 (Code.rangeFunc g ps assign body).wpIn Fence.wide 2 P Q a w:=by
 refine wpIn_rangeFunc ?_
 intro fn _
 obtain⟨L,hL1,hL2,he⟩:=Afu (P:=P) fn a.tmps ps assign body w
 obtain⟨W1,hW1⟩:∃W1,(w.alloc (.deferred (some []))).alloc (.loop L)=W1:=⟨_,rfl⟩
 have hg1:w.grownBy W1 none:=by rw[<-hW1];exact Gx (Gw _ _) (Gw _ _)
 have hl1:W1.heap[w.heap.size+1]? =some (.loop L):=by
  rw[<-hW1];have:=World.alloc_heap_new (w.alloc (.deferred (some []))) (.loop L);rwa [World.size_alloc]at this
 have hD1:W1.heap[w.heap.size]? =some (.deferred (some [])):=by rw[<-hW1];exact (Below.heap_alloc _ _ _ (by simp)).trans (World.alloc_heap_new w _)
 rw[hW1]at he
 refine⟨w.heap.size+1,[{target:=.collected w.heap.size,args:= #[]}],W1,{target:=.fn (.func f) cl,args:= #[.func (.yield (w.heap.size+1)) #[] #[]]},W1,f,#[.func (.yield (w.heap.size+1)) #[] #[]]++cl,W1,he,?_,fun _ _=>trivial,?_,fun _=>by omega,?_⟩
 ·simp only[resolve,rangeCall,hg]
  simp[go_sem]
 ·simp[invoke,eg,go_sem]
 ·refine (callsIn_wide.2 (hcall _ _ hg1)).mono ?_
  rintro e W2 ⟨rfl,hg2⟩
  have s1:w.heap.size+1<W1.heap.size:=(Ht.1 hl1).1
  have hl2:W2.heap[w.heap.size+1]? =some (.loop L):=by rw[hg2.block _ s1 (by simp)];exact hl1
  have hD2:W2.heap[w.heap.size]? =some (.deferred (some [])):=by rw[hg2.block _ (by omega) (by simp)];exact hD1
  have hend:=run_endLoop (P:=P) hl2 (by rw[hL1];simp)
  refine⟨_,_,hend,?_⟩
  rw[hL2]
  refine hK _ _ (Nat.le_refl _) ?_ ?_
  ·have hg3:=Gx hg1 hg2
   refine⟨hg3.os,hg3.tape,hg3.output,Nat.le_trans hg3.size (by simp),fun k hk hr=>?_⟩
   exact (World.putObj_heap_other (by omega)).trans (hg3.block k hk hr)
  ·exact (World.putObj_heap_other (by omega)).trans hD2
theorem Ahl{ro b:Nat}{who:Int}{ty:TypeId}{ms:List MapEntry}{clock:Nat}{w:World}(hM:Keys.MOK ms clock)(hg:∀e∈ms,MH w e.val)
 (hro:w.heap[ro]? =some (.cells #[.map (some b)] ty (0,0))) (hb:w.heap[b]? =some (.map ms.toArray clock)):
 Calls Tryz.prog 185 #[.pointer (some ⟨ro,0,none⟩),.int .i64 who] w fun e w'=>e=.returned (.bool false)/\w.grownBy w' none:=by
 refine callsIn_wide.1 (show CallsIn Fence.wide 2 _ _ _ _ _ from ?_)
 refine callsIn_of_wp_marks Tryz.func185 rfl trivial ?_ rfl
 simp only[Tryz.ntmps185,List.size_toArray,List.length_cons,List.length_nil,Nat.reduceAdd,Nat.reduceSub,Array.replicate_succ,Array.replicate_zero,List.push_toArray,List.append_toArray,List.nil_append,List.cons_append]
 gi_wp2
 refine⟨trivial,(callsIn_wide.2 (AiW _ _ _)).mono ?_⟩
 rintro e w' ⟨rfl,rfl⟩
 gi_wp2
 obtain⟨W0,hW0⟩:∃W0,((w.alloc (.cells #[.bool false] 4)).alloc (.cells #[.pointer (some ⟨ro,0,none⟩)] 143)).alloc (.cells #[.int .i64 who] 3)=W0:=⟨_,rfl⟩
 have hg0:w.grownBy W0 none:=by rw[<-hW0];exact Gx (Gx (Gw _ _) (Gw _ _)) (Gw _ _)
 have hB0:W0.heap[w.heap.size]? =some (.cells #[.bool false] 4 (0,0)):=by
  rw[<-hW0];exact ((Below.heap_alloc _ _ _ (by simp;omega)).trans (Below.heap_alloc _ _ _ (by simp))).trans (World.alloc_heap_new w _)
 have hB1:W0.heap[w.heap.size+1]? =some (.cells #[.pointer (some ⟨ro,0,none⟩)] 143 (0,0)):=by
  rw[<-hW0];refine (Below.heap_alloc _ _ _ (by simp)).trans ?_
  have:=World.alloc_heap_new (w.alloc (.cells #[.bool false] 4)) (.cells #[.pointer (some ⟨ro,0,none⟩)] 143);rwa [World.size_alloc]at this
 have hB2:W0.heap[w.heap.size+1+1]? =some (.cells #[.int .i64 who] 3 (0,0)):=by
  rw[<-hW0];have:=World.alloc_heap_new ((w.alloc (.cells #[.bool false] 4)).alloc (.cells #[.pointer (some ⟨ro,0,none⟩)] 143)) (.cells #[.int .i64 who] 3);rwa [World.size_alloc,World.size_alloc]at this
 rw[hW0]
 clear hW0
 have AL:∀{W:World},W0.grownBy W none->∀{k:Nat} {o:Obj},W0.heap[k]? =some o->W.heap[k]? =some o:=fun h k o hk=>by rw[h.block k (Ht.1 hk).1 (by simp)];exact hk
 have keep0:∀{k:Nat} {o:Obj},w.heap[k]? =some o->W0.heap[k]? =some o:=fun hk=>by rw[hg0.block _ (Ht.1 hk).1 (by simp)];exact hk
 refine AaI (f:=302) (cl:= #[.pointer (some ⟨w.heap.size+1,0,none⟩),.pointer (some ⟨w.heap.size+1+1,0,none⟩)]) rfl Tab.Aqe.enters ?_ ?_
 ·intro l W hgW
  refine (Ado (l:=l) (who:=who) hM (fun e he=>?_) (AL hgW hB1) (AL hgW hB2) (AL hgW (keep0 hro)) (AL hgW (keep0 hb)))
  obtain⟨r,x,ty',h1,h2⟩:=hg e he
  exact⟨r,x,ty',h1,AL hgW (keep0 h2)⟩
 ·intro D W hD hgW hWD
  have hc:W.heap[w.heap.size]? =some (.cells #[.bool false] 4 (0,0)):=AL hgW hB0
  have cc:W.cell? ⟨w.heap.size,0,none⟩=some (.bool false):=by simp[World.cell?,hc]
  have cf:W.frozen? ⟨w.heap.size,0,none⟩=false:=by simp[World.frozen?,hc]
  gi_wp2
  have hK':=(KeepsOthers.setCell W ⟨w.heap.size,0,none⟩ (.bool false)).same D _ hWD rfl
  have s0:w.heap.size<W0.heap.size:=(Ht.1 hB0).1
  refine⟨by simp,.inl ⟨_,_,rfl,run_takeDeferred hK',?_⟩⟩
  have hc4:=World.cell?_setCell_same' W ⟨w.heap.size,0,none⟩ (.bool false) (by rw[cc];rfl)
  have hc5:((W.setCell ⟨w.heap.size,0,none⟩ (.bool false)).putObj D (.deferred none)).cell? ⟨w.heap.size,0,none⟩=some (.bool false):=(World.cell?_of_block (World.putObj_heap_other (k:=w.heap.size) (by omega))).trans hc4
  refine⟨.bool false,?_,rfl,?_⟩
  ·simp[results,Tryz.f185,go_sem,hc5]
  ·have g1:=Gx hg0 hgW
   have s1:=hg0.size
   exact (g1.andThen (grownBy_setCell' W w.heap.size (.bool false)) fun j hj=>by cases hj;exact .inl (Nat.le_refl _)).andThen (grownBy_putObj' _ D (.deferred none)) fun j hj=>by cases hj;exact .inl (by omega)
end Tryz
end Go.Proofs
section
open Go Eng Go.Proofs
namespace Eng
open Go Go.RowKit
variable [AD]
variable {U U' Y:An} {W:Wd} {w w':World}
theorem Z8{B:CH}{ro:Nat}(Cp:(B.at_ ro).rep w)(hg:w.grownBy w' none):MD B B ro w w':=by
 have hb:∀r,r<w.heap.size->w'.heap[r]? =w.heap[r]? :=fun r hr=>hg.block r hr (by simp)
 have hl:=(B.at_ ro).loc w w' Cp fun r hf=>hb r ((B.at_ ro).lt w r Cp hf)
 refine⟨hl.1,fun y hf=>.inr ((hl.2 y).1 hf),hg.size,fun r hr _=>hb r hr,hg.os,hg.tape,hg.output,fun a ha=>?_⟩;unfold World.frozen?;rw[hb _ ha]
theorem Aa2{f:FuncId}{args:List AV}{np kind:Nat}{x:Bool}(ha:HV np args=true)
 (h:∀U:An,AD.is kind (U.b 0)->∀(ro:Nat) (w:World) (J:A1) (vs:List Value),((U.b 0).at_ ro).rep w->F2 (Bb J U) args vs->Ci W.P f (Value.pointer (some ⟨ro,0,none⟩)::vs).toArray w fun v' w'=>v'=.bool x/\MD (U.b 0) (U.b 0) ro w w'):
 (Be.look f args np kind (.one (.bool x))).ok W:=by
 intro U hp;unfold HV at ha;rw[Ah]at ha;have hnp:=AF ha.2;have hk:AD.is kind (U.b 0):=by cases hp.rd with |cons h _=>exact h.2
 refine⟨_,List.mem_singleton.2 rfl,U,.refl,fun Uq2 g=>?_⟩;have g:Ai np U Uq2:=g;have b0:Uq2.b 0=U.b 0:=g.b 0 hnp;have vl:∀i,i<np->Uq2.v i=U.v i:=fun i hi=>g.v i hi
 refine⟨⟨.nil,.nil,trivial,.nil⟩,fun C hC=>⟨?_,fun J w vs hr EU=>?_⟩⟩
 ·rw[Ah];refine⟨?_,rfl⟩;rw[Bf];intro a ha';rcases BL.1 ha' with e|e
  ·subst e;rfl
  ·have:=Bf.1 ha.1 a e;unfold HV.IB at this;split at this
   ·rfl
   ·rfl
   ·cases this
 ·have hB0:Uq2.B (0,0)=(U.b 0).at_ (Uq2.ro 0):=by show (Uq2.b 0).at_ (Uq2.ro 0)=_;rw[b0]
  have Cp:=hr.Am.rep 0 (0,0) rfl;have H4:=hr.Am.free 0 (0,0) rfl;rw[hB0]at Cp H4;obtain⟨vs',hvs0,rfl⟩:∃vs',F2 (Bb J U) args vs'/\vs=Value.pointer (some ⟨Uq2.ro 0,0,none⟩)::vs':=by
   match EU with
   |.cons h0 hl=>
    have h0:_=_:=h0;exact⟨_,F2.Yy (U:=Uq2) ha.1 (fun i hi=>(vl i hi).symm) hl,by rw[h0]⟩
  refine (h U hk (Uq2.ro 0) w J vs' Cp hvs0).mono ?_
  rintro v' w' ⟨rfl,T⟩
  have Bl:∀{b:Nat} {t:Nat×Nat},(Aa [(0,Aj.Am (0,0))] 1).get b=some (.Am t)->b=0/\t=(0,0):=fun {b t} hg=>by
   rcases BL.1 (Ad hg) with e|e
   ·cases e;exact⟨rfl,rfl⟩
   ·cases e
  have hFo0:∀{w:World} {y:Nat},Fo Uq2 (Aa [(0,Aj.Am (0,0))] 1) w y↔((U.b 0).at_ (Uq2.ro 0)).fp w y:=fun {w y}=>by
   constructor
   ·rintro ⟨b,t,hg,hf⟩
    obtain⟨rfl,rfl⟩:=Bl hg;rw[hB0]at hf;exact hf
   ·intro hf;refine⟨0,(0,0),rfl,?_⟩;rw[hB0];exact hf
  have hρ:∀b r S,J b ≠ some (r,S):=by
   intro b r S hb;have Au:b<1:=hr.lt b r S hb;have e:b=0:=by omega
   subst e;obtain⟨o',_,h⟩:=hr.AE 0 r S hb;exact h (.Am (0,0)) rfl
  have Mo:∀r ob,Uq2.k r=some ob->¬((U.b 0).at_ (Uq2.ro 0)).fp w r:=fun r ob hk hf=>by
   have:=(H4 r hf).2;rw[hk]at this;cases this
  refine⟨J,Aa [(0,.Am (0,0))] 1,rfl,⟨fun b r S hb=>absurd hb (hρ b r S),fun b r S hb=>absurd hb (hρ b r S),fun b b' r S S' hb=>absurd hb (hρ b r S),fun r ob hk=>?_,⟨fun b t hg=>?_,fun b t hg r hf=>?_,fun b t b' t' hg HZ hne'=>?_⟩⟩,⟨Nat.le_refl _,fun _ _=>rfl,fun b r S _ hb=>absurd hb (hρ b r S),T.size,fun b hb hl=>hl,fun r Au _ hF=>T.frame r Au fun h=>hF (hFo0.2 h),fun r hF=>?_,T.os,T.tape,T.output,T.fz⟩,rfl⟩
  ·obtain⟨g1,g2⟩:=hr.kept r ob hk;refine⟨?_,g2⟩;rw[T.frame r (Ht.1 g1).1 (Mo r ob hk)];exact g1
  ·obtain⟨rfl,rfl⟩:=Bl hg;rw[hB0];exact T.rep
  ·obtain⟨rfl,rfl⟩:=Bl hg;rw[hB0]at hf;rcases T.fp r hf with h|h
   ·refine⟨fun b' S hb=>hρ b' r S hb,?_⟩;cases hk:Uq2.k r with
    |none=>rfl
    |some ob=>
     have:=(Ht.1 (hr.kept r ob hk).1).1;omega
   ·exact H4 r h
  ·exact absurd ((Bl hg).1.trans (Bl HZ).1.symm) hne'
  ·rcases T.fp r (hFo0.1 hF) with h|h
   ·exact .inl h
   ·exact .inr (hFo0.2 h)
end Eng
namespace V
variable {Y:An} {w:World}
theorem Afs{u:Value}{r:Nat}(h:Mem WD ⟨YZ.D,.ptr 0 0⟩ Y w u r):Tryz.MH w u:=by
 obtain⟨_,h2,h3⟩:=h;obtain⟨r',S,hρ,e⟩:=h2;obtain⟨o,ho,hx⟩:=h3.AE 0 r' S hρ;obtain⟨cs,ty,rfl,i1,i2,i3,i4⟩:=hx (BK [.B7,.bool false]) rfl;obtain⟨x0,hx0,q0⟩:=i4 0 .B7 (by decide) rfl;obtain⟨x1,Qa,q1⟩:=i4 1 (.bool false) (by decide) rfl;have hS:cs.size=2:=by rw[i1];exact (i3 rfl).symm
 have Ix:cs= #[.slice none 0 0,.bool false]:=by
  apply Array.ext_getElem?;intro i
  match i with
  | 0=>rw[hx0,show x0=_ from q0];rfl
  | 1=>rw[Qa,show x1=_ from q1];rfl
  |i+2=>rw[Array.getElem?_eq_none (by omega),Array.getElem?_eq_none (by simp)]
 exact⟨r',false,ty,e,by rw[ho,Ix]⟩
theorem AmV:(Be.look 185 [.one (.sym .i64 (.var 1))] 2 6 (.one (.bool false))).ok WD:=Aa2 rfl fun U hk ro w J vs Cp EU=>by
 obtain⟨st,hB,_⟩:=(kE _).1 hk;have hrep0:=Cp;rw[hB]at Cp;obtain⟨m,hm,H5,Cu,_⟩:Be.rep WD ⟨YZ.D,.ptr 0 0⟩ st ro w:=Cp;obtain⟨ty,x,ms,clock,h1,h2,h3,h4,h5⟩:=hm;have hv:vs=[.int .i64 (U.v 1)]:=by
  match EU with
  |.cons h0 .nil=>rw[show _=_ from h0];rfl
 have key:∀e∈ms.toList,e.key=.int .i64 (Keys.kz e):=fun e he=>by
  obtain⟨z,hz⟩:=h4.1 e he;unfold Keys.kz;rw[hz]
 have at_:∀e∈ms.toList,∃Y,m (Keys.kz e)=some e.val/\st (Keys.kz e)=some Y:=fun e he=>by
  have hz:=h5 (Keys.kz e);cases hs:m (Keys.kz e) with
  |none=>rw[hs]at hz;exact absurd (key e he) (hz e he)
  |some u=>
   rw[hs]at hz;obtain⟨e',GJ,k',v'⟩:=hz;have hee:e'=e:=RS h4 GJ he (k'.trans (key e he).symm);have hss:=H5 (Keys.kz e);rw[hs]at hss;obtain⟨Y,hτ⟩:∃Y,st (Keys.kz e)=some Y:=by
    cases BN:st (Keys.kz e) with
    |none=>rw[BN]at hss;cases hss
    |some Y=>exact⟨Y,rfl⟩
   exact⟨Y,by rw[<-v',hee],hτ⟩
 have hM:Keys.MOK ms.toList clock:=by
  refine⟨fun e he=>⟨key e he,?_⟩,?_,h4.2.2.1,?_⟩
  ·obtain⟨Y,q1,q2⟩:=at_ e he;obtain⟨a1,a2,_⟩:=Cu _ _ _ q1 q2;exact⟨a1,a2⟩
  ·rw[List.nodup_iff_pairwise_ne,List.pairwise_map];exact h4.2.1.imp_of_mem fun {a b} ha hb Bs e=>Bs (by rw[key a ha,key b hb,e])
  ·rw[List.nodup_iff_pairwise_ne,List.pairwise_map];exact h4.2.2.2
 have hg:∀e∈ms.toList,Tryz.MH w e.val:=fun e he=>by
  obtain⟨Y,q1,q2⟩:=at_ e he;obtain⟨_,_,r,hM,_⟩:=Cu _ _ _ q1 q2;exact Afs hM
 rw[hv];refine Row.Ky Tab.Aqb.enters (Tryz.Ahl (ro:=ro) (b:=x) (who:=U.v 1) (ty:=ty) (ms:=ms.toList) (clock:=clock) hM hg h1 (by simpa using h3)) ?_
 rintro e w' ⟨rfl,hgr⟩
 exact⟨_,rfl,rfl,Z8 hrep0 hgr⟩
end V
end
namespace Eng
open Go Go.RowKit
variable [AD]
variable {P:Program} {C C':AB} {U U' Y Yq0:An} {J J':A1} {W:Wd} {n:Nat}
def idS(S:Sb):Sb:={S with g:=fun b=>b}
def VN(x:Aj):Bool:=match x with |.Am _=>false|_=>true
def AlJ(D:Shape)(S:Sb)(nb:Nat):Bool:=D.bl.all fun p=>Aj.eq2 (p.2.sub (idS S)) p.2&&(p.2.GF&&(VN p.2&&p.2.lo nb))
theorem Shape.same{D:Shape}{S:Sb}{nb:Nat}(hs:AlJ D S nb=true)(Df:Ai nb Yq0 Y){ro:Nat}{w:World}(h:D.rep W (S.sig Y) ro w):D.rep W Yq0 ro w/\∀r,D.fp Yq0 ro w r->D.fp (S.sig Y) ro w r:=by
 have key:∀p∈D.bl,p.2.sub (idS S)=p.2/\p.2.GF=true/\VN p.2=true/\p.2.lo nb=true:=fun p hp=>by
  have:=Bf.1 hs p hp;simp only[Ah]at this;exact⟨Aj.GO this.1,this.2⟩
 have hk:∀r,Yq0.k r=(S.sig Y).k r:=fun r=>by
  show Yq0.k r=Y.k r;rw[Df.k]
 refine⟨⟨h.lt,fun b r z hb=>?_,h.inj,fun r o hko=>h.kept r o (by rw[<-hk r];exact hko),Hr.none fun b t hg=>?_⟩,fun r hf=>?_⟩
 ·obtain⟨o,ho,hx⟩:=h.AE b r z hb;refine⟨o,ho,fun x hgx=>?_⟩;obtain⟨k1,k2,_,k4⟩:=key (b,x) (Ad hgx);have h1:BR (rn (Fj D.ps w ro) (idS S).g fun _=>true) ((idS S).sig Y) (CS W) x o z:=by
   have e:rn (Fj D.ps w ro) (idS S).g (fun _=>true)=Fj D.ps w ro:=by funext b;rfl
   rw[e];exact hx x hgx
  have h2:=BR.Ft k2 h1;rw[show x.sub (idS S)=x from k1]at h2;exact h2.agree Df.symm k4
 ·have:=(key (b,.Am t) (Ad hg)).2.2.1;cases this
 ·rcases hf with hf|⟨b,t,hg,_⟩|⟨o,ho⟩
  ·exact .inl hf
  ·have:=(key (b,.Am t) (Ad hg)).2.2.1;cases this
  ·exact .inr (.inr ⟨o,by rw[<-hk r];exact ho⟩)
def Ms(f:Em):List (Nat×Aj):=(0,.Am (0,0))::f.ex
def Ak.Agd(F:Ak)(f:Em):Bool:=AlJ F.D f.Sd F.nb&&(leaves [(0,.Am (0,0))] 1 (Ms f) f.n1 (Aa (Ms f) f.n1)&&(f.ex.all fun p=>VN p.2&& !Nat.beq p.1 0))
def Ak.AnX(F:Ak)(W:Wd)(q:An->Prop)(f:Em)(o:Ds):Ds:=bif F.Agd f then {v:=f.v,AX:=Ms f,n1:=f.n1,cf:=f.cf++f.fa,rd:=f.rd,q:=F.post W q f o} else F.out W q f o
def Ak.Kb(F:Ak)(W:Wd)(q:An->Prop)(c:Bq):Bq:={F.Bo W q c with outs:=(F.outs.zip c.outs).map fun p=>F.AnX W q p.1 p.2}
theorem Ak.AL{F:Ak}{q:An->Prop}{c:Bq}(h:(F.Bo W q c).ok W):(F.Kb W q c).ok W:=by
 intro U hp;obtain⟨o,ho,U',a1,a2⟩:=h U hp;obtain⟨⟨f,o0⟩,hz,rfl⟩:=List.mem_map.1 ho;refine⟨F.AnX W q f o0,List.mem_map.2 ⟨(f,o0),hz,rfl⟩,U',a1,fun Uq2 g=>?_⟩;obtain⟨b1,b2⟩:=a2 Uq2 g;unfold Ak.AnX;cases hk:F.Agd f with
 |false=>exact⟨b1,b2⟩
 |true=>
  unfold Ak.Agd at hk;simp only[Ah]at hk;obtain⟨k1,k2,k3⟩:=hk;have hpost:F.post W q f o0 Uq2:=b1.q;obtain⟨Yq0,Y,p1,_,p3,_,p5,_,_⟩:=hpost;refine⟨⟨b1.cf,(by have:=b1.rd;cases this with |cons _ t=>exact t),b1.q,b1.mp⟩,fun C hC=>?_⟩;obtain⟨c1,c2⟩:=b2 C hC;refine⟨c1,fun J w vs hr ha=>(c2 J w vs hr ha).mono ?_⟩
  rintro v' w' ⟨J',h1,q1,q2,q3,q4⟩
  have L:=Cw q4;have hB0:Uq2.B (0,0)=F.D.Ov W Yq0 (Uq2.ro 0):=by show (Uq2.b 0).at_ (Uq2.ro 0)=_;rw[p3];rfl
  have hB1:Uq2.B (F.np,0)=F.D.Ov W (f.Sd.sig Y) (Uq2.ro 0):=by show (Uq2.b F.np).at_ (Uq2.ro 0)=_;rw[p5];rfl
  have N3:h1.get 0=some (.Am (F.np,0)):=L.get (0,_) GU;have Cp:=q2.Am.rep 0 (F.np,0) N3;have H4:=q2.Am.free 0 (F.np,0) N3;have hdis:=q2.Am.Vs 0 (F.np,0);rw[hB1]at Cp H4;obtain⟨s1,s2⟩:=Shape.same k1 p1 Cp;have get:∀{b:Nat} {y:Aj},(Aa (Ms f) f.n1).get b=some y->(b=0/\y=.Am (0,0))\/(h1.get b=some y/\VN y=true/\b ≠ 0):=fun {b y} hg=>by
   rcases BL.1 (Ad hg) with e|e
   ·cases e;exact .inl ⟨rfl,rfl⟩
   ·have:=Bf.1 k3 (b,y) e;rw[Ah]at this;refine .inr ⟨L.get (b,y) (Gq _ e),this.1,fun e2=>?_⟩;have h2:=this.2;rw[show b=0 from e2]at h2;cases h2
  have Am:∀{b:Nat} {t:Nat×Nat},(Aa (Ms f) f.n1).get b=some (.Am t)->b=0/\t=(0,0):=fun {b t} hg=>by
   rcases get hg with ⟨e1,e2⟩|⟨_,e,_⟩
   ·cases e2;exact⟨e1,rfl⟩
   ·cases e
  have live:∀b,Live (Aa (Ms f) f.n1) b->Live h1 b:=fun b ⟨y,hg,hd⟩=>by
   rcases get hg with ⟨e1,_⟩|⟨e,_⟩
   ·subst e1;exact⟨_,N3,by simp⟩
   ·exact⟨y,e,hd⟩
  have Jq0:∀r S,J' 0 ≠ some (r,S):=fun r S hb=>by
   obtain⟨o',_,hx⟩:=q2.AE 0 r S hb;exact hx _ N3
  refine⟨J',Aa (Ms f) f.n1,q1,⟨fun b r S hb=>IM (q2.lt b r S hb) L.next,fun b r S hb=>?_,fun b b' r S S' hb AS hl Py=>?_,q2.kept,⟨fun b t hg=>?_,fun b t hg r hf=>?_,fun b t b' t' hg HZ Bs=>?_⟩⟩,⟨?_,q3.CW,q3.new,q3.size,fun b hb hl=>q3.live b hb (live b hl),q3.frame,fun r hF=>?_,q3.os,q3.tape,q3.output,q3.fz⟩,k2⟩
  ·obtain⟨o',HQ,hx⟩:=q2.AE b r S hb;refine⟨o',HQ,fun x hgx=>?_⟩;rcases get hgx with ⟨e1,_⟩|⟨e,_⟩
   ·subst e1;exact absurd hb (Jq0 r S)
   ·exact hx x e
  ·rcases q2.inj b b' r S S' hb AS (live b hl) (live b' Py) with e|⟨cc,nn,ff,e⟩
   ·exact .inl e
   ·obtain⟨y,hg,hd⟩:=hl;rcases get hg with ⟨e1,_⟩|⟨e2,_⟩
    ·subst e1;exact absurd hb (Jq0 r S)
    ·rw[e]at e2;cases e2;exact .inr ⟨cc,nn,ff,hg⟩
  ·obtain⟨rfl,rfl⟩:=Am hg;rw[hB0];exact s1
  ·obtain⟨rfl,rfl⟩:=Am hg;rw[hB0]at hf;exact H4 r (s2 r hf)
  ·exact absurd ((Am hg).1.trans (Am HZ).1.symm) Bs
  ·exact Nat.le_trans q3.next L.next
  ·obtain⟨b,t,hg,hf⟩:=hF;obtain⟨rfl,rfl⟩:=Am hg;rw[hB0]at hf;exact q3.fo r ⟨0,(F.np,0),N3,by rw[hB1];exact s2 r hf⟩
end Eng
namespace Eng
open Go Go.RowKit
variable [AD]
variable {U:An} {W:Wd}
def AeM(l m:List (Nat×Aj)):Bool:=Av (fun p q=>Nat.beq p.1 q.1&&p.2.eq2 q.2) l m
theorem WV{l m:List (Nat×Aj)}(h:AeM l m=true):l=m:=Ag (fun a b Ny=>by
 rw[Ah]at Ny;exact Prod.ext (beq_eq Ny.1) (Aj.GO Ny.2)) h
def AgY(o p:Ds):Bool:=AV.AJ o.v p.v&&(AeM o.AX p.AX&&(Nat.beq o.n1 p.n1&&(Av Ep o.cf p.cf&&(Av EK o.rd p.rd&&Av EK o.mp p.mp))))
def Afd(c d:Bq):Bool:=Nat.beq c.f d.f&&(Av AV.AJ c.args d.args&&(AeM c.bl d.bl&&(Nat.beq c.n d.n&&(Nat.beq c.np d.np&&(Nat.beq c.hi d.hi&&(Av Ep c.cf d.cf&&(Av EK c.rd d.rd&&(Av EK c.mp d.mp&&(Nat.beq c.outs.length d.outs.length&&(c.outs.zip d.outs).all fun p=>AgY p.1 p.2)))))))))
theorem Y6:∀{l m:List Ds} {o:Ds},l.length=m.length->o∈l->∃p,(p,o)∈m.zip l
 | [],_,_,_,h=>nomatch h
 |a::l,[],_,h,_=>nomatch h
 |a::l,b::m,o,h,ho=>by
  rcases BL.1 ho with e|e
  ·exact⟨b,by rw[e];exact GU⟩
  ·obtain⟨p,hp⟩:=Y6 (l:=l) (m:=m) (by simpa using h) e;exact⟨p,Gq _ hp⟩
theorem Bj.same{c:Bj}{d:Bq}(hd:d.ok W)(hq:∀U,d.q U)(h:Afd c.Bo d=true):c.Bo.ok W:=by
 unfold Afd at h;simp only[Ah]at h;obtain⟨h1,h2,h3,h4,h5,h6,h7,h8,h9,RF,h11⟩:=h;have h1:=beq_eq h1;have h2:=Ag (fun _ _=>AV.Ac) h2;have h3:=WV h3;have h4:=beq_eq h4;have h5:=beq_eq h5;have h6:=beq_eq h6;have h7:=Ag (fun _ _=>Cr) h7;have h8:=Ag (fun _ _=>BH) h8;have h9:=Ag (fun _ _=>BH) h9;have RF:=beq_eq RF;intro U hp;obtain⟨o,ho,U',a1,a2⟩:=hd U ⟨by rw[<-h7];exact hp.cf,by rw[<-h8];exact hp.rd,hq U,by rw[<-h9];exact hp.mp⟩;obtain⟨p,hp2⟩:=Y6 (m:=c.Bo.outs) RF.symm ho;have he:=Bf.1 h11 (p,o) hp2;unfold AgY at he;simp only[Ah]at he;obtain⟨e1,e2,e3,e4,e5,e6⟩:=he;have e1:=AV.Ac e1;have e2:=WV e2;have e3:=beq_eq e3;have e4:=Ag (fun _ _=>Cr) e4;have e5:=Ag (fun _ _=>BH) e5;have e6:=Ag (fun _ _=>BH) e6;have Cu:p∈c.Bo.outs:=(List.of_mem_zip hp2).1;have hpq:∀U,p.q U:=fun U=>by
  obtain⟨o',_,rfl⟩:=List.mem_map.1 Cu;trivial
 refine⟨p,Cu,U',by rw[h5];exact a1,fun Uq2 g=>?_⟩;rw[h6]at g;obtain⟨b1,b2⟩:=a2 Uq2 g;refine⟨⟨by rw[e4];exact b1.cf,by rw[e5];exact b1.rd,hpq Uq2,by rw[e6];exact b1.mp⟩,fun C hC=>?_⟩;have e:c.Bo.sum p=d.sum o:=by
  unfold Bq.sum;rw[h1,h2,h3,h4,e1,e2,e3]
 rw[e];exact b2 C hC
end Eng
end
