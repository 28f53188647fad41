/- What a function leaves from the blocks that it reaches, put into a greater heap; loops gone through by what stays. No conditions beside those in its theorems. -/
import Derived.Test.YtijplfaplkkpcaaGreatE7
set_option linter.unusedVariables false
set_option linter.unusedSimpArgs false
set_option linter.unusedSectionVars false
set_option linter.constructorNameAsVariable false
set_option maxRecDepth 100000
noncomputable section
namespace Eng
open Go Go.RowKit
variable {P:Program} {C C':AB} {U:An} {J Jq1:A1}
def AaR(p q:E×Nat×A):Bool:=E.AJ p.1 q.1&&(Nat.beq p.2.1 q.2.1&&A.AJ p.2.2 q.2.2)
theorem Wo{p q:E×Nat×A}(h:AaR p q=true):p=q:=by
 obtain⟨a,b,c⟩:=p;obtain⟨d,e,f⟩:=q;simp only[AaR,Ah]at h;rw[Eng.Ac h.1,beq_eq h.2.1,A.Ac h.2.2]
def Ar1(a b:Option V):Bool:=match a,b with |none,none=>true|some a,some b=>a.AJ b|_,_=>false
theorem AjX{a b:Option V}(h:Ar1 a b=true):a=b:=by
 cases a<;>cases b<;>first|rfl|(cases h;done)|(rw[V.Ac (show V.AJ _ _=true from h)])
def Aa0(p q:E×Option V):Bool:=E.AJ p.1 q.1&&Ar1 p.2 q.2
theorem VE{p q:E×Option V}(h:Aa0 p q=true):p=q:=by
 obtain⟨a,b⟩:=p;obtain⟨d,e⟩:=q;simp only[Aa0,Ah]at h;rw[Eng.Ac h.1,AjX h.2]
def jpB(a b:Option Jp):Bool:=match a,b with
 |none,none=>true
 |some .ret,some .ret=>true
 |some (.exit i),some (.exit j)=>Nat.beq i j
 |_,_=>false
theorem Anx{a b:Option Jp}(h:jpB a b=true):a=b:=by
 unfold jpB at h;split at h
 ·rfl
 ·rfl
 ·rw[beq_eq h]
 ·cases h
def AaD(a b:Option AV):Bool:=match a,b with |none,none=>true|some a,some b=>a.AJ b|_,_=>false
theorem AdK{a b:Option AV}(h:AaD a b=true):a=b:=by
 cases a<;>cases b<;>first|rfl|(cases h;done)|(rw[AV.Ac (show AV.AJ _ _=true from h)])
def AcD(a:T AV):T AV->Bool:=
 @T.rec AV (fun _=>T AV->Bool) (fun b=>@T.rec AV (fun _=>Bool) true (fun _ _ _ _ _=>false) b)
  (fun v _ _ rl rr b=>@T.rec AV (fun _=>Bool) false (fun v' l' r' _ _=>AaD v v'&&(rl l'&&rr r')) b) a
theorem AhP:∀{a b:T AV},AcD a b=true->a=b:=by
 intro a
 induction a with
 |nil=>intro b h;cases b with |nil=>rfl|node v l r=>cases h
 |node v l r ihl ihr=>
  intro b h;cases b with
  |nil=>cases h
  |node v' l' r'=>
   have h':(AaD v v'&&(AcD l l'&&AcD r r'))=true:=h;simp only[Ah]at h';rw[AdK h'.1,ihl h'.2.1,ihr h'.2.2]
def Aj.eq2(a b:Aj):Bool:=match a,b with
 |.row t es n sp,.row t' JP n' Kj=>Nat.beq t t'&&(Nat.beq es JP&&(E.AJ n n'&&Av AaR sp Kj))
 |.Ej t kn,.Ej t' kn'=>Nat.beq t t'&&Av Aa0 kn kn'
 |.dead,.dead=>true
 |.defs a,.defs b=>C6 a b
 |.Am t,.Am t'=>Nat.beq t.1 t'.1&&Nat.beq t.2 t'.2
 |.loop l,.loop l'=>decide (l.st=l'.st)&&(jpB l.B8 l'.B8&&(Nat.beq l.fn l'.fn&&(AcD l.tmps l'.tmps&&(Av Nat.beq l.params l'.params&&(CB l.assign l'.assign&&(CB l.body l'.body&&Nat.beq l.defs l'.defs))))))
 |a,b=>a.AJ b
theorem Aj.GO{a b:Aj}(h:a.eq2 b=true):a=b:=by
 unfold Aj.eq2 at h;split at h
 ·simp only[Ah]at h;rw[beq_eq h.1,beq_eq h.2.1,Eng.Ac h.2.2.1,Ag (fun _ _=>Wo) h.2.2.2]
 ·simp only[Ah]at h;rw[beq_eq h.1,Ag (fun _ _=>VE) h.2]
 ·rfl
 ·rw[Gr h]
 ·rename_i t t';rw[Ah]at h;obtain⟨a1,a2⟩:=t;obtain⟨b1,b2⟩:=t';rw[show a1=b1 from beq_eq h.1,show a2=b2 from beq_eq h.2]
 ·rename_i l l';simp only[Ah]at h;obtain⟨h1,h2,h3,h4,h5,h6,h7,h8⟩:=h;obtain⟨a1,a2,a3,a4,a5,a6,a7,a8⟩:=l;obtain⟨b1,b2,b3,b4,b5,b6,b7,b8⟩:=l';simp only at h1 h2 h3 h4 h5 h6 h7 h8;rw[of_decide_eq_true h1,Anx h2,beq_eq h3,AhP h4,Ag (fun _ _=>beq_eq) h5,O3 h6,O3 h7,beq_eq h8]
 ·exact Aj.Ac h
def hasB(h:H)(b:Nat)(x:Aj):Bool:=match h.get b with |some y=>y.eq2 x|none=>false
theorem Cz{h:H}{b:Nat}{x:Aj}(hb:hasB h b x=true):h.get b=some x:=by
 unfold hasB at hb;split at hb
 ·rename_i y hy;rw[hy,Aj.GO hb]
 ·cases hb
def AfU(S:Sb)(bl:List (Nat×Aj))(b:Nat):Bool:=bl.any fun p=>Nat.beq (S.g p.1) b
def Arr(S:Sb)(bl:List (Nat×Aj))(x:Aj):Bool:=match x with |.cells _ _ _ (some b)=>C3 (AfU S bl b)|_=>true
def Aue(S:Sb)(bl:List (Nat×Aj)):Bool:=bl.all fun p=>bl.all fun q=>@Bool.rec (fun _=>Bool) true (Nat.beq p.1 q.1) (Nat.beq (S.g p.1) (S.g q.1))
def Tw(S:Sb)(bl:List (Nat×Aj))(n:Nat)(h:H):Bool:=
 Gc bl n&&(bl.all (fun p=>p.2.GF&&(hasB h (S.g p.1) (p.2.sub S)&&Nat.blt (S.g p.1) h.next))&&(Aue S bl&&T.all (Arr S bl) h.1))
theorem Anp{S:Sb}{bl:List (Nat×Aj)}{p:Nat×Aj}(hp:p∈bl):AfU S bl (S.g p.1)=true:=List.any_eq_true.2 ⟨p,hp,Nat.beq_refl _⟩
theorem Ce{bl:List (Nat×Aj)}{b:Nat}(h:Ae bl b=true):∃p∈bl,p.1=b:=by
 obtain⟨p,hp,e⟩:=List.any_eq_true.1 h;exact⟨p,hp,beq_eq e⟩
theorem Ei{bl:List (Nat×Aj)}{p:Nat×Aj}(hp:p∈bl):Ae bl p.1=true:=List.any_eq_true.2 ⟨p,hp,Nat.beq_refl _⟩
theorem Aj.II{S:Sb}{x:Aj}(h:x.sub S=.dead):x=.dead:=by cases x<;>first|rfl|cases h
theorem Aj.QG{S:Sb}{x:Aj}(hx:x.GF=true){c:T A}{n:Nat}{f:Bool}{s:Nat}:x.sub S ≠ .cells c n f (some s):=by intro h;cases x<;>first|(cases h;done)|cases hx
theorem UC{x:Aj}{c:T A}{n:Nat}{f:Bool}{s:Nat}(hx:x.GF=true):x ≠ .cells c n f (some s):=by intro h;subst h;cases hx
structure PJ(S:Sb)(bl:List (Nat×Aj))(n:Nat)(h:H):Prop where
 cl:Gc bl n=true
 ok:∀p∈bl,p.2.GF=true
 get:∀p∈bl,h.get (S.g p.1)=some (p.2.sub S)
 lt:∀p∈bl,S.g p.1<h.next
 inj:∀p∈bl,∀q∈bl,S.g p.1=S.g q.1->p.1=q.1
 Th:∀b c m f s,h.get b=some (.cells c m f (some s))->∀p∈bl,S.g p.1 ≠ s
theorem Dq{S:Sb}{bl:List (Nat×Aj)}{n:Nat}{h:H}(hf:Tw S bl n h=true):PJ S bl n h:=by
 simp only[Tw,Ah]at hf;obtain⟨h1,h2,h3,h4⟩:=hf;have h2:=fun p hp=>Bf.1 h2 p hp
 simp only[Ah]at h2;refine⟨h1,fun p hp=>(h2 p hp).1,fun p hp=>Cz (h2 p hp).2.1,fun p hp=>by have:=(h2 p hp).2.2;rwa [Nat.blt_eq]at this,?_,?_⟩
 ·intro p hp q hq e;have:=Bf.1 (Bf.1 h3 p hp) q hq;rw[show Nat.beq (S.g p.1) (S.g q.1)=true by rw[e];exact Nat.beq_refl _]at this;exact beq_eq this
 ·intro b c m f s hg p hp e;have:=T.Gb h4 hg;have:C3 (AfU S bl s)=true:=this;rw[<-e,Anp hp]at this;cases this
theorem PJ.lt'{S:Sb}{bl:List (Nat×Aj)}{n:Nat}{h:H}(hf:PJ S bl n h){p:Nat×Aj}(hp:p∈bl):p.1<n/\p.2.within (Ae bl)=true:=by
 have:=Bf.1 hf.cl p hp;simp only[Ah]at this;exact⟨by have:=this.1;rwa [Nat.blt_eq]at this,this.2⟩
theorem Rel.focus{S:Sb}{bl:List (Nat×Aj)}{n:Nat}{h:H}{w:World}(hr:Rel J U C h w)(hf:PJ S bl n h):Rel (rn J S.g (Ae bl)) (S.sig U) C (Aa bl n) w where
 Am:=⟨fun b t hg=>hr.Am.rep (S.g b) (S.rp t) (hf.get (b,.Am t) (Ad hg)),
  fun b t hg r EJ=>⟨fun b' z hb=>(hr.Am.free (S.g b) (S.rp t) (hf.get (b,.Am t) (Ad hg)) r EJ).1 _ z (Bc hb).2,(hr.Am.free (S.g b) (S.rp t) (hf.get (b,.Am t) (Ad hg)) r EJ).2⟩,
  fun b t b' t' hg HZ Bs r=>hr.Am.Vs (S.g b) (S.rp t) (S.g b') (S.rp t') (hf.get (b,.Am t) (Ad hg)) (hf.get (b',.Am t') (Ad HZ)) (fun e=>Bs (hf.inj _ (Ad hg) _ (Ad HZ) e)) r⟩
 kept:=fun r o hk=>⟨(hr.kept r o hk).1,fun b z hb=>(hr.kept r o hk).2 _ z (Bc hb).2⟩
 lt:=by
  intro b r z hb;obtain⟨p,hp,e⟩:=Ce (Bc hb).1;rw[<-e];exact (hf.lt' hp).1
 AE:=by
  intro b r z hb;obtain⟨hk,AS⟩:=Bc hb;obtain⟨o,ho,hx⟩:=hr.AE (S.g b) r z AS;refine⟨o,ho,fun x hg=>?_⟩;have hm:=Ad hg;exact (hx _ (hf.get _ hm)).Fs (hf.ok _ hm) (hf.lt' hm).2
 inj:=by
  intro b b' r z z' hb AS ⟨y,hy,hd⟩ ⟨y',FH,hd'⟩;obtain⟨_,hb⟩:=Bc hb;obtain⟨_,AS⟩:=Bc AS;have hm:=Ad hy;have K9:=Ad FH;rcases hr.inj (S.g b) (S.g b') r z z' hb AS ⟨_,hf.get _ hm,fun e=>hd (Aj.II e)⟩ ⟨_,hf.get _ K9,fun e=>hd' (Aj.II e)⟩ with e|⟨c,n',f,e⟩
  ·exact .inl (hf.inj _ hm _ K9 e)
  ·rw[show h.get (S.g b)=_ from hf.get _ hm]at e;exact absurd (Option.some.inj e) (Aj.QG (hf.ok _ hm))
theorem Fo.focus{S:Sb}{bl:List (Nat×Aj)}{n:Nat}{h:H}{w:World}(hf:PJ S bl n h){r:Nat}(hx:Fo (S.sig U) (Aa bl n) w r):Fo U h w r:=let ⟨b,t,h1,h2⟩:=hx;⟨S.g b,S.rp t,hf.get (b,.Am t) (Ad h1),h2⟩
def gN(g:Nat->Nat)(n N b:Nat):Nat:=@Bool.rec (fun _=>Nat) (Nat.add N (Nat.sub b n)) (g b) (Nat.blt b n)
theorem X1{g:Nat->Nat}{n N b:Nat}(h:b<n):gN g n N b=g b:=by unfold gN;rw[<-Nat.blt_eq]at h;rw[h]
theorem Ab1{g:Nat->Nat}{n N b:Nat}(h:n<=b):gN g n N b=N+(b-n):=by
 unfold gN;cases hb:Nat.blt b n with
 |false=>rfl
 |true=>rw[Nat.blt_eq]at hb;omega
def Sb.re(S Z:Sb):Sb:={Z with g:=S.g}
def Sb.at(S:Sb)(n N:Nat):Sb:={S with g:=gN S.g n N}
def YF(S:Sb)(t:T Aj)(l:List (Nat×Aj)):T Aj:=@List.rec (Nat×Aj) (fun _=>T Aj) t (fun p _ r=>T.set r (S.g p.1) (p.2.sub S)) l
theorem KI{S:Sb}{t:T Aj}:∀{l:List (Nat×Aj)} {b:Nat} {y:Aj},T.get (YF S t l) b=some y->(∃p∈l,S.g p.1=b/\y=p.2.sub S)\/(T.get t b=some y/\∀p∈l,S.g p.1 ≠ b):=by
 intro l
 induction l with
 |nil=>intro b y h;exact .inr ⟨h,fun p hp=>nomatch hp⟩
 |cons p l ih=>
  intro b y h;rcases T.DT (show T.get (T.set (YF S t l) (S.g p.1) (p.2.sub S)) b=some y from h) with ⟨e1,e2⟩|⟨e1,e2⟩
  ·exact .inl ⟨p,GU,e1.symm,e2⟩
  ·rcases ih e2 with ⟨q,h1,h2⟩|⟨h1,h2⟩
   ·exact .inl ⟨q,Gq _ h1,h2⟩
   ·refine .inr ⟨h1,fun q hq=>?_⟩;rcases BL.1 hq with e|e
    ·subst e;exact fun h=>e1 h.symm
    ·exact h2 q e
def behind(S:Sb)(h:H)(n:Nat)(AX:List (Nat×Aj))(n1:Nat):H:=⟨YF (S.at n h.next) h.1 AX,Nat.add h.2 (Nat.sub n1 n)⟩
def leaves(bl:List (Nat×Aj))(n:Nat)(AX:List (Nat×Aj))(n1:Nat)(h1:H):Bool:=
 Gc AX n1&&(AX.all (fun p=>p.2.GF&&(hasB h1 p.1 p.2&&(Ae bl p.1||Nat.ble n p.1)))&&(bl.all (fun p=>Ae AX p.1)&&Nat.ble h1.2 n1))
structure Leaves(bl:List (Nat×Aj))(n:Nat)(AX:List (Nat×Aj))(n1:Nat)(h1:H):Prop where
 cl:Gc AX n1=true
 ok:∀p∈AX,p.2.GF=true
 get:∀p∈AX,h1.get p.1=some p.2
 key:∀p∈AX,Ae bl p.1=true\/n<=p.1
 all:∀p∈bl,Ae AX p.1=true
 next:h1.next<=n1
theorem Cw{bl:List (Nat×Aj)}{n:Nat}{AX:List (Nat×Aj)}{n1:Nat}{h1:H}(hl:leaves bl n AX n1 h1=true):Leaves bl n AX n1 h1:=by
 simp only[leaves,Ah]at hl;obtain⟨a,b,c,d⟩:=hl;have b:=fun p hp=>Bf.1 b p hp
 simp only[Ah,Bool.or_eq_true]at b;exact⟨a,fun p hp=>(b p hp).1,fun p hp=>Cz (b p hp).2.1,fun p hp=>(b p hp).2.2.imp id Nat.le_of_ble_eq_true,fun p hp=>Bf.1 c p hp,Nat.le_of_ble_eq_true d⟩
def JA(J Jq1:A1)(N n:Nat)(k:Nat->Bool):A1:=fun b=>if b<N then J b else bif k (b-N+n) then Jq1 (b-N+n) else none
section
variable {S Z:Sb} {F F':Nat->Prop} {bl AX:List (Nat×Aj)} {n n1:Nat} {h h1:H} {w w1:World}
theorem V9(hf:PJ S bl n h)(hl:Leaves bl n AX n1 h1)(g4:QN F F' (rn J S.g (Ae bl)) Jq1 (Aa bl n) h1 w w1){b:Nat}(hk:Ae AX b=true):JA J Jq1 h.next n (Ae AX) (((S.re Z).at n h.next).g b)=Jq1 b:=by
 obtain⟨p,hp,e⟩:=Ce hk;subst e;show JA J Jq1 h.next n (Ae AX) (gN S.g n h.next p.1)=Jq1 p.1
 rcases Nat.lt_or_ge p.1 n with Au|K8
 ·rcases hl.key p hp with Mo|K8
  ·obtain⟨q,hq,e⟩:=Ce Mo;have h2:=hf.lt q hq;rw[e]at h2;rw[X1 Au,show JA J Jq1 h.next n (Ae AX) (S.g p.1)=J (S.g p.1) from if_pos h2,g4.CW p.1 Au,Ec Mo]
  ·omega
 ·rw[Ab1 K8];unfold JA;rw[if_neg (by omega),show h.next+(p.1-n)-h.next+n=p.1 by omega,hk];rfl
theorem AhI(hf:PJ S bl n h)(hl:Leaves bl n AX n1 h1)(g4:QN F F' (rn J S.g (Ae bl)) Jq1 (Aa bl n) h1 w w1):Sub (Eng.AL Jq1 (Ae AX)) (rn (JA J Jq1 h.next n (Ae AX)) ((S.re Z).at n h.next).g (Ae AX)):=by
 intro b x hb;obtain⟨hk,hb⟩:=As hb;rw[Ec hk,V9 (Z:=Z) hf hl g4 hk];exact hb
theorem Bb.behind(hf:PJ S bl n h)(hl:Leaves bl n AX n1 h1)(g4:QN F F' (rn J S.g (Ae bl)) Jq1 (Aa bl n) h1 w w1){x:AV}{v:Value}(hw:x.within (Ae AX)=true)(hx:Bb Jq1 ((S.re Z).sig U) x v):Bb (JA J Jq1 h.next n (Ae AX)) U (x.sub ((S.re Z).at n h.next)) v:=
 Bb.Ft (S:=(S.re Z).at n h.next) ((hx.AL hw).mono (AhI (Z:=Z) hf hl g4))
theorem AbO(hf:PJ S bl n h)(hl:Leaves bl n AX n1 h1)(g4:QN F F' (rn J S.g (Ae bl)) Jq1 (Aa bl n) h1 w w1){b r z:Nat}(hb:JA J Jq1 h.next n (Ae AX) b=some (r,z))(hv:Live (behind (S.re Z) h n AX n1) b):
 (∃q∈AX,((S.re Z).at n h.next).g q.1=b/\Jq1 q.1=some (r,z)/\q.2 ≠ .dead)\/(J b=some (r,z)/\Live h b/\(behind (S.re Z) h n AX n1).get b=h.get b/\∀p∈bl,S.g p.1 ≠ b):=by
 obtain⟨y,hy,hd⟩:=hv;rcases KI (show T.get (YF ((S.re Z).at n h.next) h.1 AX) b=some y from hy) with ⟨q,hq,e1,e2⟩|⟨e1,e2⟩
 ·refine .inl ⟨q,hq,e1,?_,fun e=>hd (by rw[e2,e];rfl)⟩;rw[<-V9 (Z:=Z) hf hl g4 (Ei hq),e1];exact hb
 ·right;have Au:b<h.next:=by
   rcases Nat.lt_or_ge b h.next with h'|h'
   ·exact h'
   ·exfalso;unfold JA at hb;rw[if_neg (by omega)]at hb;cases hk:Ae AX (b-h.next+n) with
    |false=>rw[hk]at hb;cases hb
    |true=>
     obtain⟨q,hq,e⟩:=Ce hk;refine e2 q hq ?_;show gN S.g n h.next q.1=b
     rw[Ab1 (by omega)];omega
  refine⟨by rw[<-hb];exact (if_pos Au).symm,⟨y,e1,hd⟩,hy.trans e1.symm,fun p hp e=>?_⟩;obtain⟨q,hq,e'⟩:=Ce (hl.all p hp);refine e2 q hq ?_;show gN S.g n h.next q.1=b
  rw[e',X1 (hf.lt' hp).1,e]
theorem RV(hf:PJ S bl n h){b0:Nat}(hv:Live (Aa bl n) b0):Live h (S.g b0)/\∃x,(b0,x)∈bl:=by
 obtain⟨y,hy,hd⟩:=hv;have hm:=Ad hy;exact⟨⟨_,hf.get _ hm,fun e=>hd (Aj.II e)⟩,y,hm⟩
theorem Rel.behind(hr:Rel J U C h w)(hf:PJ S bl n h)(hl:Leaves bl n AX n1 h1)(g3:Rel Jq1 ((S.re Z).sig U) C h1 w1)(g4:QN (Fo (S.sig U) (Aa bl n) w) (Fo ((S.re Z).sig U) h1 w1) (rn J S.g (Ae bl)) Jq1 (Aa bl n) h1 w w1):
 Rel (JA J Jq1 h.next n (Ae AX)) U C (behind (S.re Z) h n AX n1) w1/\Ext U J (JA J Jq1 h.next n (Ae AX)) h (behind (S.re Z) h n AX n1) w w1:=by
 have hnn:n<=n1:=Nat.le_trans g4.next hl.next
 have OC:∀q∈AX,∀r z,Jq1 q.1=some (r,z)->∃o,w1.heap[r]? =some o/\BR (JA J Jq1 h.next n (Ae AX)) U C (q.2.sub ((S.re Z).at n h.next)) o z:=by
  intro q hq r z hb;obtain⟨o,ho,hx⟩:=g3.AE q.1 r z hb;have FF:=Bf.1 hl.cl q hq;simp only[Ah]at FF;exact⟨o,ho,BR.Ft (S:=(S.re Z).at n h.next) (hl.ok q hq) (((hx _ (hl.get q hq)).AL FF.2).mono (AhI (Z:=Z) hf hl g4))⟩
 have hout:∀b0 r z,Jq1 b0=some (r,z)->Ae AX b0=true->Live h1 b0->∀b z',J b=some (r,z')->Live h b->(∀p∈bl,S.g p.1 ≠ b)->False:=by
  intro b0 r z Ml hk0 OI b z' hb hv hni;have key:∀b2 z2,J (S.g b2)=some (r,z2)->Live (Aa bl n) b2->False:=by
   intro b2 z2 h2 hv2;obtain⟨q1,x,q2⟩:=RV hf hv2;rcases hr.inj _ _ r z2 z' h2 hb q1 hv with e|⟨c,m,f,e⟩
   ·exact hni _ q2 e
   ·rw[show h.get (S.g b2)=_ from hf.get _ q2]at e;exact Aj.QG (hf.ok _ q2) (Option.some.inj e)
  rcases Nat.lt_or_ge b0 n with Au|K8
  ·rw[g4.CW b0 Au]at Ml;exact key b0 z (Bc Ml).2 (g4.live b0 Au OI)
  ·rcases g4.new b0 r z K8 Ml with e|⟨b2,z2,e,hv2⟩
   ·obtain⟨o,ho,_⟩:=hr.AE b r z' hb;have:=(Ht.1 ho).1;omega
   ·exact key b2 z2 (Bc e).2 hv2
 have hout2:∀b0 r z,Jq1 b0=some (r,z)->Ae AX b0=true->Live h1 b0->∀b z',J b=some (r,z')->Live h b->(∀p∈bl,S.g p.1 ≠ b)->False:=hout
 have kep:∀r o,U.k r=some o->w1.heap[r]? =some o/\∀b z,JA J Jq1 h.next n (Ae AX) b ≠ some (r,z):=by
  intro r o hk;refine⟨(g3.kept r o hk).1,fun b z hb=>?_⟩;unfold JA at hb;split at hb
  ·exact (hr.kept r o hk).2 b z hb
  ·cases AW:Ae AX (b-h.next+n) with
   |false=>rw[AW]at hb;cases hb
   |true=>rw[AW]at hb;exact (g3.kept r o hk).2 _ z hb
 have foc:∀r,Fo (S.sig U) (Aa bl n) w r->∃p∈bl,∃t,h.get (S.g p.1)=some (.Am t)/\(U.B t).fp w r:=fun r ⟨b,t,hg,EJ⟩=>⟨(b,.Am t),Ad hg,S.rp t,hf.get (b,.Am t) (Ad hg),EJ⟩
 have two:∀b t,(Eng.behind (S.re Z) h n AX n1).get b=some (.Am t)->(∃q∈AX,∃t0,((S.re Z).at n h.next).g q.1=b/\h1.get q.1=some (.Am t0)/\Z.rp t0=t)\/(h.get b=some (.Am t)/\(∀p∈bl,S.g p.1 ≠ b)/\(U.B t).rep w1/\∀r,(U.B t).fp w1 r↔(U.B t).fp w r):=by
  intro b t hg;rcases KI (show T.get (YF ((S.re Z).at n h.next) h.1 AX) b=some _ from hg) with ⟨q,hq,e1,e2⟩|⟨e1,e2⟩
  ·obtain⟨q1,q2⟩:=q;cases q2 with
   |Am t0=>exact .inl ⟨_,hq,t0,e1,hl.get _ hq,(Aj.Am.inj e2).symm⟩
   |_=>exact absurd e2 (fun e=>Aj.noConfusion e)
  ·right;have Au:∀p∈bl,S.g p.1 ≠ b:=by
    intro p hp e;obtain⟨q,hq,e'⟩:=Ce (hl.all p hp);refine e2 q hq ?_;show gN S.g n h.next q.1=b
    rw[e',X1 (hf.lt' hp).1,e]
   refine⟨e1,Au,(U.B t).loc w w1 (hr.Am.rep b t e1) fun r EJ=>g4.frame r ((U.B t).lt w r (hr.Am.rep b t e1) EJ) (fun b0 z0 Ml _=>(hr.Am.free b t e1 r EJ).1 _ z0 (Bc Ml).2) fun hfo=>?_⟩;obtain⟨p,hp,t',g1,g2⟩:=foc r hfo;exact hr.Am.Vs b t _ t' e1 g1 (fun e=>Au p hp e.symm) r EJ g2
 have back:∀q∈AX,∀t0,h1.get q.1=some (.Am t0)->∀r,(U.B (Z.rp t0)).fp w1 r->w.heap.size<=r\/∃p∈bl,∃t,h.get (S.g p.1)=some (.Am t)/\(U.B t).fp w r:=fun q _ t0 hg r EJ=>(g4.fo r ⟨q.1,t0,hg,EJ⟩).imp (fun h=>h) (foc r)
 have bagR:Hr (JA J Jq1 h.next n (Ae AX)) U (Eng.behind (S.re Z) h n AX n1) w1:=by
  refine⟨fun b t hg=>?_,fun b t hg r EJ=>?_,fun b t b' t' hg HZ Bs r EJ hfp'=>?_⟩
  ·rcases two b t hg with ⟨q,hq,t0,e1,e2,e3⟩|⟨_,_,e3,_⟩
   ·rw[<-e3];exact g3.Am.rep q.1 t0 e2
   ·exact e3
  ·rcases two b t hg with ⟨q,hq,t0,e1,e2,e3⟩|⟨e1,e2,e3,e4⟩
   ·subst e3;obtain⟨f1,f2⟩:=g3.Am.free q.1 t0 e2 r EJ;refine⟨fun b' z hb=>?_,f2⟩;unfold JA at hb;split at hb
    ·rcases back q hq t0 e2 r EJ with h'|⟨p,hp,t',g1,g2⟩
     ·obtain⟨o,ho,_⟩:=hr.AE b' r z hb;have:=(Ht.1 ho).1;omega
     ·exact (hr.Am.free _ t' g1 r g2).1 b' z hb
    ·cases AW:Ae AX (b'-h.next+n) with
     |false=>rw[AW]at hb;cases hb
     |true=>rw[AW]at hb;exact f1 _ z hb
   ·have hfw:=(e4 r).1 EJ;obtain⟨f1,f2⟩:=hr.Am.free b t e1 r hfw;have hrlt:=(U.B t).lt w r (hr.Am.rep b t e1) hfw;refine⟨fun b' z hb=>?_,f2⟩;unfold JA at hb;split at hb
    ·exact f1 b' z hb
    ·cases AW:Ae AX (b'-h.next+n) with
     |false=>rw[AW]at hb;cases hb
     |true=>
      rw[AW]at hb;rcases g4.new _ r z (show n<=_ by omega) hb with e|⟨b2,z2,e,_⟩
      ·omega
      ·exact f1 _ z2 (Bc e).2
  ·rcases two b t hg with ⟨q,hq,t0,e1,e2,e3⟩|⟨e1,e2,e3,e4⟩<;>rcases two b' t' HZ with ⟨q',Fu,t0',d1,d2,d3⟩|⟨d1,d2,d3,d4⟩
   ·subst e3;subst d3;exact g3.Am.Vs q.1 t0 q'.1 t0' e2 d2 (fun e=>Bs (by rw[<-e1,<-d1,e])) r EJ hfp'
   ·subst e3;have hfw:=(d4 r).1 hfp';rcases back q hq t0 e2 r EJ with h'|⟨p,hp,t2,g1,g2⟩
    ·have:=(U.B t').lt w r (hr.Am.rep b' t' d1) hfw;omega
    ·exact hr.Am.Vs b' t' _ t2 d1 g1 (fun e=>d2 p hp e.symm) r hfw g2
   ·subst d3;have hfw:=(e4 r).1 EJ;rcases back q' Fu t0' d2 r hfp' with h'|⟨p,hp,t2,g1,g2⟩
    ·have:=(U.B t).lt w r (hr.Am.rep b t e1) hfw;omega
    ·exact hr.Am.Vs b t _ t2 e1 g1 (fun e=>e2 p hp e.symm) r hfw g2
   ·exact hr.Am.Vs b t b' t' e1 d1 Bs r ((e4 r).1 EJ) ((d4 r).1 hfp')
 have bagF:∀r,Fo U (Eng.behind (S.re Z) h n AX n1) w1 r->w.heap.size<=r\/Fo U h w r:=by
  intro r ⟨b,t,hg,EJ⟩;rcases two b t hg with ⟨q,hq,t0,e1,e2,e3⟩|⟨e1,e2,e3,e4⟩
  ·subst e3;exact (back q hq t0 e2 r EJ).imp (fun h=>h) fun⟨p,_,t',g1,g2⟩=>⟨_,t',g1,g2⟩
  ·exact .inr ⟨b,t,e1,(e4 r).1 EJ⟩
 refine⟨⟨?_,?_,?_,kep,bagR⟩,⟨Nat.le_add_right _ _,fun b hb=>if_pos hb,?_,g4.size,?_,?_,bagF,g4.os,g4.tape,g4.output,g4.fz⟩⟩
 ·intro b r z hb;show b<h.next+(n1-n)
  unfold JA at hb;split at hb
  ·omega
  ·cases hk:Ae AX (b-h.next+n) with
   |false=>rw[hk]at hb;cases hb
   |true=>
    rw[hk]at hb;have:=g3.lt _ r z hb;have:=hl.next
    omega
 ·intro b r z hb
  by_cases hi:∃q∈AX,((S.re Z).at n h.next).g q.1=b
  ·obtain⟨q,hq,e⟩:=hi;have DN:Jq1 q.1=some (r,z):=by rw[<-V9 (Z:=Z) hf hl g4 (Ei hq),e];exact hb
   obtain⟨o,ho,_⟩:=OC q hq r z DN;refine⟨o,ho,fun y hy=>?_⟩;rcases KI (show T.get (YF ((S.re Z).at n h.next) h.1 AX) b=some y from hy) with ⟨q',Fu,e1,e2⟩|⟨e1,e2⟩
   ·have MA:Jq1 q'.1=some (r,z):=by rw[<-V9 (Z:=Z) hf hl g4 (Ei Fu),e1];exact hb
    obtain⟨o',HQ,hx'⟩:=OC q' Fu r z MA;rw[ho]at HQ;cases HQ;rw[e2];exact hx'
   ·exact absurd e (e2 q hq)
  ·have Au:b<h.next:=by
    rcases Nat.lt_or_ge b h.next with h'|h'
    ·exact h'
    ·exfalso;unfold JA at hb;rw[if_neg (by omega)]at hb;cases hk:Ae AX (b-h.next+n) with
     |false=>rw[hk]at hb;cases hb
     |true=>
      obtain⟨q,hq,e⟩:=Ce hk;refine hi ⟨q,hq,?_⟩;show gN S.g n h.next q.1=b
      rw[Ab1 (by omega)];omega
   have AS:J b=some (r,z):=by rw[<-hb];exact (if_pos Au).symm
   have hni:∀p∈bl,S.g p.1 ≠ b:=by
    intro p hp e;obtain⟨q,hq,e'⟩:=Ce (hl.all p hp);refine hi ⟨q,hq,?_⟩;show gN S.g n h.next q.1=b
    rw[e',X1 (hf.lt' hp).1,e]
   obtain⟨o,ho,hx⟩:=hr.AE b r z AS;have hrlt:r<w.heap.size:=(Ht.1 ho).1;have Bl:∀y,(Eng.behind (S.re Z) h n AX n1).get b=some y->h.get b=some y:=by
    intro y hy;rcases KI (show T.get (YF ((S.re Z).at n h.next) h.1 AX) b=some y from hy) with ⟨q',Fu,e1,e2⟩|⟨e1,e2⟩
    ·exact absurd ⟨q',Fu,e1⟩ hi
    ·exact e1
   by_cases hv:Live h b
   ·refine⟨o,?_,fun y hy=>(hx y (Bl y hy)).mono fun b0 x0 h0=>(if_pos (hr.lt b0 x0.1 x0.2 h0)).trans h0⟩;rw[g4.frame r hrlt ?_ fun hfo=>(foc r hfo).elim fun p ⟨_,t',g1,g2⟩=>(hr.Am.free _ t' g1 r g2).1 b z AS]
    ·exact ho
    ·intro b0 z0 Ml OI;obtain⟨q1,x,q2⟩:=RV hf OI;rcases hr.inj _ _ r z0 z (Bc Ml).2 AS q1 hv with e|⟨c,m,f,e⟩
     ·exact hni _ q2 e
     ·rw[show h.get (S.g b0)=_ from hf.get _ q2]at e;exact Aj.QG (hf.ok _ q2) (Option.some.inj e)
   ·have OF:r<w1.heap.size:=IM hrlt g4.size;refine⟨_,Array.getElem?_eq_getElem OF,fun y hy=>?_⟩;have:y=.dead:=by
     apply Classical.byContradiction;intro Bs;exact hv ⟨y,Bl y hy,Bs⟩
    subst this;trivial
 ·intro b b' r z z' hb AS hv hv';rcases AbO (Z:=Z) hf hl g4 hb hv with ⟨q,hq,e1,e2,e3⟩|⟨e1,e2,e3,e4⟩<;>rcases AbO (Z:=Z) hf hl g4 AS hv' with ⟨q',Fu,d1,d2,d3⟩|⟨d1,d2,d3,d4⟩
  ·rcases g3.inj q.1 q'.1 r z z' e2 d2 ⟨_,hl.get q hq,e3⟩ ⟨_,hl.get q' Fu,d3⟩ with e|⟨c,m,f,e⟩
   ·exact .inl (by rw[<-e1,<-d1,e])
   ·rw[hl.get q hq]at e;exact absurd (Option.some.inj e) (UC (hl.ok q hq))
  ·exact (hout q.1 r z e2 (Ei hq) ⟨_,hl.get q hq,e3⟩ b' z' d1 d2 d4).elim
  ·exact (hout q'.1 r z' d2 (Ei Fu) ⟨_,hl.get q' Fu,d3⟩ b z e1 e2 e4).elim
  ·rcases hr.inj b b' r z z' e1 d1 e2 d2 with e|⟨c,m,f,e⟩
   ·exact .inl e
   ·exact .inr ⟨c,m,f,e3.trans e⟩
 ·intro b r z K8 hb;unfold JA at hb;rw[if_neg (by omega)]at hb;cases hk:Ae AX (b-h.next+n) with
  |false=>rw[hk]at hb;cases hb
  |true=>
   rw[hk]at hb;rcases g4.new _ r z (show n<=_ by omega) hb with e|⟨b2,z2,e,hv2⟩
   ·exact .inl e
   ·exact .inr ⟨_,z2,(Bc e).2,(RV hf hv2).1⟩
 ·intro b Au ⟨y,hy,hd⟩;rcases KI (show T.get (YF ((S.re Z).at n h.next) h.1 AX) b=some y from hy) with ⟨q,hq,e1,e2⟩|⟨e1,e2⟩
  ·have hqn:q.1<n:=by
    rcases Nat.lt_or_ge q.1 n with h'|h'
    ·exact h'
    ·exfalso;have:gN S.g n h.next q.1=b:=e1
     rw[Ab1 h']at this;omega
   have e1':S.g q.1=b:=by have:gN S.g n h.next q.1=b:=e1;rwa [X1 hqn]at this
   rw[<-e1'];exact (RV hf (g4.live q.1 hqn ⟨_,hl.get q hq,fun e=>hd (by rw[e2,e];rfl)⟩)).1
  ·exact⟨y,e1,hd⟩
 ·intro r hrlt hn hnf;exact g4.frame r hrlt (fun b0 z0 Ml OI=>hn _ z0 (Bc Ml).2 (RV hf OI).1) fun hfo=>(foc r hfo).elim fun p ⟨_,t',g1,g2⟩=>hnf ⟨_,t',g1,g2⟩
end
end Eng
namespace Eng
open Go Go.RowKit
variable {P:Program} {C C':AB} {U:An} {J J' Jq1:A1}
structure PH where
 r:Nat->List (E×Nat×A)->Option (Nat×List (E×Nat×A))
 m:Nat->List (E×Option V)->Option Nat:=fun _ _=>none
def abB(ab:PH)(x:Aj):Aj:=match x with
 |.row t es n sp=>(match ab.r t sp with |some q=>.row q.1 es n q.2 |none=>.row t es n sp)
 |.Ej t kn=>(match ab.m t kn with |some t'=>.Ej t' []|none=>.Ej t kn)
 |x=>x
def BF(ab:PH)(h:H):H:=⟨T.Sa (abB ab) h.1,h.2⟩
structure Tk(U:An)(ab:PH):Prop where
 r:∀t sp q,ab.r t sp=some q->(∀p∈q.2,p∈sp)/\∀(J:A1) (j c:Nat) (v:Value),B3 J U t sp j c v->B3 J U q.1 q.2 j c v
 m:∀t kn t',ab.m t kn=some t'->∀(J:A1) (ms:List MapEntry) (z:Int),BY J U t kn ms z->BY J U t' [] ms z
theorem Amf{ab:PH}(ha:Tk U ab){x:Aj}{o:Obj}{S:Nat}(h:BR J U C x o S):BR J U C (abB ab x) o S:=by
 cases x with
 |row t es n sp=>
  show BR J U C (match ab.r t sp with |some q=>.row q.1 es n q.2 |none=>.row t es n sp) o S;cases hb:ab.r t sp with
  |none=>exact h
  |some t'=>
   obtain⟨cs,ty,N,h1,h2,h3,h4,h5,h6,h7⟩:=h;exact⟨cs,ty,N,h1,h2,h3,h4,h5,fun p hp=>h6 p ((ha.r t sp t' hb).1 p hp),fun j c hj hc=>let ⟨u,q1,q2⟩:=h7 j c hj hc;⟨u,q1,(ha.r t sp t' hb).2 J j c u q2⟩⟩
 |Ej t kn=>
  show BR J U C (match ab.m t kn with |some t'=>.Ej t' []|none=>.Ej t kn) o S;cases hb:ab.m t kn with
  |none=>exact h
  |some t'=>
   obtain⟨ms,clock,h1,h2,h3⟩:=h;exact⟨ms,clock,h1,h2,fun z=>ha.m t kn t' hb J ms z (h3 z)⟩
 |_=>exact h
theorem Ae7{ab:PH}{x:Aj}(h:abB ab x ≠ .dead):x ≠ .dead:=by intro e;subst e;exact h rfl
theorem AcQ{ab:PH}{x:Aj}{c:T A}{n:Nat}{f:Bool}{s:Option Nat}(h:x=.cells c n f s):abB ab x=.cells c n f s:=by subst h;rfl
theorem IY{ab:PH}{h:H}{b:Nat}{y:Aj}(hy:(BF ab h).get b=some y):∃x,h.get b=some x/\y=abB ab x:=by
 have h1:T.get (T.Sa (abB ab) h.1) b=some y:=hy;rw[T.get_map]at h1;cases hg:T.get h.1 b with
 |none=>rw[hg]at h1;cases h1
 |some x=>rw[hg]at h1;cases h1;exact⟨x,hg,rfl⟩
theorem ED{ab:PH}{h:H}{b:Nat}(hl:Live (BF ab h) b):Live h b:=by
 obtain⟨y,hy,hd⟩:=hl;obtain⟨x,hx,e⟩:=IY hy;exact⟨x,hx,Ae7 (by rw[<-e];exact hd)⟩
theorem QT{ab:PH}{h:H}{b:Nat}{t:Nat×Nat}(hy:(BF ab h).get b=some (.Am t)):h.get b=some (.Am t):=by
 obtain⟨x,hx,e⟩:=IY hy;rw[hx];cases x with
 |row t' es n sp=>
  have e:Aj.Am t=match ab.r t' sp with |some q=>.row q.1 es n q.2 |none=>.row t' es n sp:=e
  cases hq:ab.r t' sp<;>(rw[hq]at e;cases e)
 |Ej t' kn=>
  have e:Aj.Am t=match ab.m t' kn with |some t'=>.Ej t' []|none=>.Ej t' kn:=e
  cases hq:ab.m t' kn<;>(rw[hq]at e;cases e)
 |_=>rw[e];rfl
theorem Fo.BF{ab:PH}{h:H}{w:World}{r:Nat}(hf:Fo U (Eng.BF ab h) w r):Fo U h w r:=let ⟨b,t,h1,h2⟩:=hf;⟨b,t,QT h1,h2⟩
theorem Rel.BF{ab:PH}(ha:Tk U ab){h:H}{w:World}(hr:Rel J U C h w):Rel J U C (BF ab h) w:=by
 refine⟨hr.lt,?_,?_,hr.kept,(hr.Am.step (h':=Eng.BF ab h) (w':=w) (fun b t=>QT) (fun _ _=>rfl) fun b r S hb=>.inl ⟨b,S,hb⟩).1⟩
 ·intro b r S hb;obtain⟨o,ho,hx⟩:=hr.AE b r S hb;refine⟨o,ho,fun y hy=>?_⟩;obtain⟨x,hg,e⟩:=IY hy;rw[e];exact Amf ha (hx x hg)
 ·intro b b' r S S' hb AS hl Py;rcases hr.inj b b' r S S' hb AS (ED hl) (ED Py) with e|⟨c,n,f,e⟩
  ·exact .inl e
  ·right;obtain⟨y,hy,_⟩:=hl;obtain⟨x,hg,e2⟩:=IY hy;rw[hg]at e;have e:=Option.some.inj e;exact⟨c,n,f,by rw[hy,e2,AcQ e]⟩
theorem QN.BF{F:Nat->Prop}{ab:PH}{h h1:H}{w w1:World}(e:QN F (Fo U h1 w1) J Jq1 h h1 w w1):QN F (Fo U (Eng.BF ab h1) w1) J Jq1 h (Eng.BF ab h1) w w1:=
 ⟨e.next,e.CW,e.new,e.size,fun b hb hl=>e.live b hb (ED hl),e.frame,fun r hr=>e.fo r hr.BF,e.os,e.tape,e.output,e.fz⟩
end Eng
namespace Eng
open Go Go.RowKit
variable {P:Program} {C C':AB} {U:An} {J Jq1:A1}
def Tm(P:Program)(U:An)(C:AB)(ext:FuncId->List AV->H->Option (AV×H)):Prop:=
 ∀f args h v h',ext f args h=some (v,h')->∀J w vs,Rel J U C h w->F2 (Bb J U) args vs->Ci P f vs.toArray w (UW C U J h h' w v)
theorem Tm.ok{ext:FuncId->List AV->H->Option (AV×H)}(h:Tm P U C ext)(he:C.ext=ext)(hlp:Z0 C P U:=by exact Z0.none rfl):JK C P U:=by
 refine⟨?_,hlp⟩;intro f args hh v h' hk;rw[he]at hk;exact h f args hh v h' hk
structure Mc where
 f:FuncId
 args:List AV
 bl:List (Nat×Aj)
 n:Nat
 v:AV
 AX:List (Nat×Aj)
 n1:Nat
def Hs(P:Program)(C:AB)(U:An)(s:Mc):Prop:=
 (s.args.all (AV.within (Ae s.bl))&&s.v.within (Ae s.AX))=true/\∀J w vs,Rel J U C (Aa s.bl s.n) w->F2 (Bb J U) s.args vs->
  Ci P s.f vs.toArray w fun v' w'=>∃J' h1,Bb J' U s.v v'/\Rel J' U C h1 w'/\Ext U J J' (Aa s.bl s.n) h1 w w'/\leaves s.bl s.n s.AX s.n1 h1=true
def AfP(s:Mc)(S:Sb)(f:FuncId)(args:List AV)(h:H):Bool:=@Bool.rec (fun _=>Bool) false (@Bool.rec (fun _=>Bool) false (Tw S s.bl s.n h) (Av AV.AJ args (s.args.map (AV.sub S)))) (Nat.beq f s.f)
def Ai4(s:Mc)(S:Sb)(h:H):AV×H:=(s.v.sub (S.at s.n h.next),behind S h s.n s.AX s.n1)
def AmQ(l:List (Mc×Sb))(ext:FuncId->List AV->H->Option (AV×H))(f:FuncId)(args:List AV)(h:H):Option (AV×H):=
 @List.rec (Mc×Sb) (fun _=>Option (AV×H)) (ext f args h) (fun p _ r=>@Bool.rec (fun _=>Option (AV×H)) r (some (Ai4 p.1 p.2 h)) (AfP p.1 p.2 f args h)) l
theorem F2.Asv{S:Sb}{k:Nat->Bool}:∀{l:List AV} {vs:List Value},l.all (AV.within k)=true->F2 (Bb J U) (l.map (AV.sub S)) vs->F2 (Bb (rn J S.g k) (S.sig U)) l vs:=by
 intro l
 induction l with
 |nil=>intro vs _ h;cases h;exact .nil
 |cons a l ih=>
  intro vs hw h;simp only[List.all_cons,Ah]at hw;cases h with
  |cons h0 h1=>exact .cons (h0.Fs hw.1) (ih hw.2 h1)
theorem Hs.run{s:Mc}{S:Sb}(hs:Hs P C (S.sig U) s){f:FuncId}{args:List AV}{h:H}(hh:AfP s S f args h=true){w:World}{vs:List Value}(hr:Rel J U C h w)(ha:F2 (Bb J U) args vs):
 Ci P f vs.toArray w (UW C U J h (Ai4 s S h).2 w (Ai4 s S h).1):=by
 unfold AfP at hh;cases e1:Nat.beq f s.f with
 |false=>rw[e1]at hh;cases hh
 |true=>
  rw[e1]at hh;cases e2:Av AV.AJ args (s.args.map (AV.sub S)) with
  |false=>rw[e2]at hh;cases hh
  |true=>
   rw[e2]at hh;have e1:=beq_eq e1;subst e1;have e2:=Ag (fun _ _=>AV.Ac) e2;subst e2;have hf:=Dq hh;obtain⟨hw,hs⟩:=hs;simp only[Ah]at hw;refine (hs _ w vs (hr.focus hf) (F2.Asv hw.1 ha)).mono ?_
   rintro v' w' ⟨Jq1,h1,g2,g3,g4,g5⟩
   have hl:=Cw g5;obtain⟨q1,q2⟩:=Rel.behind (Z:=S) hr hf hl g3 g4;exact⟨_,Bb.behind (Z:=S) hf hl g4 hw.2 g2,q1,q2⟩
theorem Tm.Avk{ext:FuncId->List AV->H->Option (AV×H)}(h0:Tm P U C ext):∀{l:List (Mc×Sb)},Al (fun p=>Hs P C (p.2.sig U) p.1) l->Tm P U C (AmQ l ext):=by
 intro l hl f args h v h' hk J w vs hr ha
 induction hl with
 |nil=>exact h0 f args h v h' hk J w vs hr ha
 |cons hs _ ih=>
  rename_i p l' _;have Cs:@Bool.rec (fun _=>Option (AV×H)) (AmQ l' ext f args h) (some (Ai4 p.1 p.2 h)) (AfP p.1 p.2 f args h)=some (v,h'):=hk;cases hb:AfP p.1 p.2 f args h with
  |false=>rw[hb]at Cs;exact ih Cs
  |true=>
   rw[hb]at Cs;have e:=Option.some.inj Cs;have:=hs.run hb hr ha;rw[e]at this;exact this
end Eng
namespace Eng
open Go Go.RowKit
variable {P:Program} {C C':AB} {U:An} {J J' Jq1:A1}
def Aaw(t:Nat):Bool:=Nat.ble 1000000 t
def mkA(p:Nat×AV):List Nat:=match p.2 with |.one (.ptr b 0)=>@Bool.rec (fun _=>List Nat) [] [b] (Aaw p.1)|_=>[]
def T3(L:List (Nat×AV)):List Nat:=L.flatMap mkA
def frL(L:List (Nat×AV)):FR:=⟨Hn L,.nil,T3 L⟩
def JM(J J':A1)(p q:Nat×AV):Prop:=(mkA p=[]/\mkA q=[])\/∃b b',mkA p=[b]/\mkA q=[b']/\∀r S,J b=some (r,S)->∃S',J' b'=some (r,S')
theorem VI{L M:List (Nat×AV)}(h:F2 (JM J J') L M){D:List Deferred}(hd:F2 (Sc J) (T3 L) D):F2 (Sc J') (T3 M) D:=by
 induction h generalizing D with
 |nil=>cases (show F2 (Sc J) [] D from hd);exact .nil
 |cons h0 _ ih=>
  rename_i p q L M _;have e1:T3 (p::L)=mkA p++T3 L:=rfl;have e2:T3 (q::M)=mkA q++T3 M:=rfl;rw[e2];rw[e1]at hd;rcases h0 with ⟨h1,h2⟩|⟨b,b',h1,h2,h3⟩
  ·rw[h1]at hd;rw[h2];exact ih hd
  ·rw[h1]at hd;rw[h2];cases hd with
   |cons g0 g=>
    obtain⟨r,S,g1,g2⟩:=g0;obtain⟨S',g3⟩:=h3 r S g1;exact .cons ⟨r,S',g3,g2⟩ (ih g)
theorem VH{t:Nat}{v:AV}(h:∀b,v ≠ .one (.ptr b 0)):mkA (t,v)=[]:=by
 unfold mkA;split
 ·rename_i b e;exact absurd e (h b)
 ·rfl
theorem QA(t b:Nat):mkA (t,.one (.ptr b 0))=if Aaw t=true then [b] else []:=by
 unfold mkA;cases h:Aaw t<;>rfl
theorem Ws{S:Sb}{v:AV}{b:Nat}(h:v.sub S=.one (.ptr b 0)):∃b0,v=.one (.ptr b0 0)/\S.g b0=b:=by
 cases v with
 |agg l=>cases h
 |Dh l=>cases h
 |one a=>
  have h:A.sub S a=.ptr b 0:=AV.one.inj h;cases a with
  |ptr b0 o=>cases h;exact⟨b0,rfl,rfl⟩
  |sym k e=>
   have h:AaW k (e.sub S)=.ptr b 0:=h;unfold AaW at h;split at h<;>cases h
  |sb e=>
   have h:sbA (e.sub S)=.ptr b 0:=h;unfold sbA at h;split at h<;>cases h
  |_=>cases h
theorem JM.Fs{S:Sb}{p:Nat×AV}(h:∀b,p.2=.one (.ptr b 0)->∀r z,J (S.g b)=some (r,z)->∃z',J' b=some (r,z')):JM J J' (p.1,p.2.sub S) p:=by
 obtain⟨t,v⟩:=p
 by_cases hv:∃b,v=.one (.ptr b 0)
 ·obtain⟨b,rfl⟩:=hv;have e:(AV.one (.ptr b 0)).sub S=.one (.ptr (S.g b) 0):=rfl;show JM J J' (t,(AV.one (.ptr b 0)).sub S) (t,.one (.ptr b 0));rw[e];unfold JM;rw[QA,QA];cases Aaw t with
  |false=>exact .inl ⟨rfl,rfl⟩
  |true=>exact .inr ⟨_,_,rfl,rfl,h b rfl⟩
 ·refine .inl ⟨VH fun b e=>?_,VH fun b e=>hv ⟨b,e⟩⟩;obtain⟨b0,h1,_⟩:=Ws e;exact hv ⟨b0,h1⟩
theorem JM.Ft{f:AV->AV}{p:Nat×AV}(hf:∀b,f p.2=.one (.ptr b 0)->∃b0,p.2=.one (.ptr b0 0))(h:∀b,p.2=.one (.ptr b 0)->∃b',f p.2=.one (.ptr b' 0)/\∀r z,J b=some (r,z)->∃z',J' b'=some (r,z')):JM J J' p (p.1,f p.2):=by
 obtain⟨t,v⟩:=p
 by_cases hv:∃b,v=.one (.ptr b 0)
 ·obtain⟨b,rfl⟩:=hv;obtain⟨b',e,g⟩:=h b rfl;show JM J J' (t,.one (.ptr b 0)) (t,f (.one (.ptr b 0)));have e:f (.one (.ptr b 0))=.one (.ptr b' 0):=e;rw[e];unfold JM;rw[QA,QA];cases Aaw t with
  |false=>exact .inl ⟨rfl,rfl⟩
  |true=>exact .inr ⟨_,_,rfl,rfl,g⟩
 ·exact .inl ⟨VH fun b e=>hv ⟨b,e⟩,VH fun b e=>hv (hf b e)⟩
theorem F2.AdE{α β:Type}{R:β->α->Prop}{f:α->β}:∀{l:List α},(∀x∈l,R (f x) x)->F2 R (l.map f) l
 | [],_=>.nil
 |x::l,h=>.cons (h x GU) (F2.AdE fun y hy=>h y (Gq _ hy))
theorem F2.Alj{α β:Type}{R:α->β->Prop}{f:α->β}:∀{l:List α},(∀x∈l,R x (f x))->F2 R l (l.map f)
 | [],_=>.nil
 |x::l,h=>.cons (h x GU) (F2.Alj fun y hy=>h y (Gq _ hy))
def Pd(pt:T AV)(S:Sb)(p:Nat×AV):Bool:=match T.get pt p.1 with |some v=>AV.AJ v (p.2.sub S)|none=>false
theorem U9{pt:T AV}{S:Sb}{p:Nat×AV}(h:Pd pt S p=true):T.get pt p.1=some (p.2.sub S):=by
 unfold Pd at h;split at h
 ·rename_i v hv;rw[hv,AV.Ac h]
 ·cases h
def Ah8(pt:T AV)(p:Nat×AV):Bool:=match T.get pt p.1 with |some v=>AV.AJ v p.2 |none=>false
theorem Ah9{pt:T AV}{p:Nat×AV}(h:Ah8 pt p=true):T.get pt p.1=some p.2:=by
 unfold Ah8 at h;split at h
 ·rename_i v hv;rw[hv,AV.Ac h]
 ·cases h
structure Qj where
 L:List (Nat×AV)
 bl:List (Nat×Aj)
 n:Nat
 mv:List Nat
 S0:Sb
 S1:Sb
 paths:List (AB×Sb)
 fuel:Nat
 ab:PH:={r:=fun _ _=>none}
def Cc(mv:List Nat)(b:Nat):Bool:=mv.any (Nat.beq b)
def Mz(mv:List Nat)(n:Nat):Sb:={s:=.var,g:=fun b=>bif Cc mv b then Nat.add n b else b}
def Ef(mv:List Nat)(n:Nat)(bl:List (Nat×Aj)):List (Nat×Aj):=
 bl.flatMap fun p=>bif Cc mv p.1 then [(p.1,.dead),(Nat.add n p.1,p.2.sub (Mz mv n))] else [(p.1,p.2.sub (Mz mv n))]
def V3:Aj->Bool|.dead=>false|b=>b.GF
def Qj.wf(s:Qj):Bool:=
 Gc s.bl s.n&&(s.bl.all (fun p=>V3 p.2)&&(s.L.all (fun p=>p.2.within (Ae s.bl))&&(leaves s.bl s.n (Ef s.mv s.n s.bl) (Nat.add s.n s.n) (Aa (Ef s.mv s.n s.bl) (Nat.add s.n s.n))&&
  (s.L.all (fun p=>(p.2.sub (Mz s.mv s.n)).within (Ae (Ef s.mv s.n s.bl)))&&(s.L.all (Ah8 (Hn s.L))&&s.bl.all fun p=>hasB (Aa s.bl s.n) p.1 p.2)))))
def Qj.start(s:Qj)(fr:FR)(h:H):Bool:=s.wf&&(Av Nat.beq fr.marks (T3 (s.L.map fun p=>(p.1,p.2.sub s.S0)))&&(s.L.all (fun p=>Aaw p.1||Pd fr.pt s.S0 p)&&Tw s.S0 s.bl s.n h))
def stepG(T:Sb)(mv:List Nat)(n:Nat)(bl:List (Nat×Aj)):Bool:=bl.all fun p=>Nat.beq (T.g p.1) p.1||(Cc mv p.1&&Nat.ble n (T.g p.1))
def VV(s:Qj)(T:Sb)(r:OR):Bool:=match r with
 |some (.code .norm fr h)=>Av Nat.beq fr.marks (T3 (s.L.map fun p=>(p.1,p.2.sub T)))&&(s.L.all (fun p=>Aaw p.1||Pd fr.pt T p)&&(Tw T s.bl s.n (BF s.ab h)&&stepG T s.mv s.n s.bl))
 |_=>false
def Qj.out(s:Qj):Sb:=s.S0.re s.S1
def Qj.fin(s:Qj)(_:FR)(h:H):FR×H:=(frL (s.L.map fun p=>(p.1,(p.2.sub (Mz s.mv s.n)).sub (s.out.at s.n h.next))),behind s.out h s.n (Ef s.mv s.n s.bl) (Nat.add s.n s.n))
theorem JL.refl{c:Code}{b:Frame}{a:Act}{w:World}{Q:Act->World->Prop}(q:Q a w):JL P c b a w Q:=fun todo k cs hs=>⟨a,w,todo,q,hs,.refl P _⟩
theorem JL.round{c:Code}{b:Frame}{a:Act}{w:World}{Q Q':Act->World->Prop}(h:JL P c b a w Q)(g:∀a1 w1,Q a1 w1->El P c b a1 w1 .norm Q'):JL P c b a w Q':=by
 intro todo k cs hs;obtain⟨a1,w1,todo',q,h1,h2⟩:=h todo k cs hs;cases h1 with
 |code=>
  obtain⟨a2,w2,q2,g2⟩:=g a1 w1 q _ (.inLoop c::k) cs .code;exact⟨a2,w2,_,q2,.loop,h2.trans (.head stepR_loop g2)⟩
 |loop=>
  obtain⟨a2,w2,q2,g2⟩:=g a1 w1 q _ (.inLoop c::k) cs .code;exact⟨a2,w2,_,q2,.loop,h2.trans (.head stepR_inLoop g2)⟩
theorem JL.mono{c:Code}{b:Frame}{a:Act}{w:World}{Q Q':Act->World->Prop}(h:JL P c b a w Q)(hq:∀a' w',Q a' w'->Q' a' w'):JL P c b a w Q':=
 fun todo k cs hs=>let ⟨a1,w1,t,q,r⟩:=h todo k cs hs;⟨a1,w1,t,hq a1 w1 q,r⟩
theorem El.mono{c:Code}{b:Frame}{a:Act}{w:World}{o:Out}{Q Q':Act->World->Prop}(h:El P c b a w o Q)(hq:∀a' w',Q a' w'->Q' a' w'):El P c b a w o Q':=
 fun todo k cs hs=>let ⟨a1,w1,q,r⟩:=h todo k cs hs;⟨a1,w1,hq a1 w1 q,r⟩
structure LX(F F':Nat->Prop)(mv:List Nat)(bl:List (Nat×Aj))(n:Nat)(Jq0 Jq1:A1)(w0 w1:World):Prop where
 key:∀b x,Jq1 b=some x->Ae bl b=true
 kept:∀b,Cc mv b=false->Ae bl b=true->Jq1 b=Jq0 b
 Si:∀b r z,Jq1 b=some (r,z)->w0.heap.size<=r\/∃b0 z0,Jq0 b0=some (r,z0)/\Live (Aa bl n) b0
 size:w0.heap.size<=w1.heap.size
 frame:∀r,r<w0.heap.size->(∀b S,Jq0 b=some (r,S)->¬Live (Aa bl n) b)->¬F r->w1.heap[r]? =w0.heap[r]?
 fo:∀r,F' r->w0.heap.size<=r\/F r
 os:w1.os=w0.os
 tape:w1.tape=w0.tape
 output:w1.output=w0.output
 fz:∀a,a.block<w0.heap.size->w1.frozen? a=w0.frozen? a
structure Wf(s:Qj):Prop where
 cl:Gc s.bl s.n=true
 Du:∀p∈s.bl,V3 p.2=true
 L:∀p∈s.L,p.2.within (Ae s.bl)=true
 lv:Leaves s.bl s.n (Ef s.mv s.n s.bl) (s.n+s.n) (Aa (Ef s.mv s.n s.bl) (s.n+s.n))
 L1:∀p∈s.L,(p.2.sub (Mz s.mv s.n)).within (Ae (Ef s.mv s.n s.bl))=true
 slot:∀p∈s.L,T.get (Hn s.L) p.1=some p.2
 has:∀p∈s.bl,(Aa s.bl s.n).get p.1=some p.2
theorem Ak4{s:Qj}(h:s.wf=true):Wf s:=by
 simp only[Qj.wf,Ah]at h;obtain⟨a,b,c,d,e,g,f⟩:=h;exact⟨a,fun p hp=>Bf.1 b p hp,fun p hp=>Bf.1 c p hp,Cw d,fun p hp=>Bf.1 e p hp,fun p hp=>Ah9 (Bf.1 g p hp),fun p hp=>Cz (Bf.1 f p hp)⟩
theorem Wf.live{s:Qj}(h:Wf s){b:Nat}(hk:Ae s.bl b=true):Live (Aa s.bl s.n) b:=by
 obtain⟨p,hp,e⟩:=Ce hk;rw[<-e];refine⟨p.2,h.has p hp,fun e=>?_⟩;have:=h.Du p hp;rw[e]at this;cases this
theorem Wf.lt{s:Qj}(h:Wf s){b:Nat}(hk:Ae s.bl b=true):b<s.n:=by
 obtain⟨p,hp,e⟩:=Ce hk;have:=Bf.1 h.cl p hp;simp only[Ah]at this;rw[<-e];have:=this.1
 rwa [Nat.blt_eq]at this
theorem Aab{nt nl:Nat}{L:List (Nat×AV)}{a:Act}(hs:nt<=a.tmps.size)(hd:F2 (Sc J) (T3 L) a.defers)(h:∀p∈L,p.1<nl->∃v',a.tmps[p.1]? =some v'/\Bb J U p.2 v'):IX J U nt nl (frL L) a:=by
 refine⟨hs,?_,?_,?_⟩
 ·intro t v ht hg;exact h _ (Il (show (Hn L).get t=some v from hg)) ht
 ·intro t v _ hg;cases hg
 ·exact hd
theorem Qj.step{s:Qj}(hw:Wf s){X:Ctx}{c:Code}{b:Frame}{C1:AB}{T:Sb}{Uq1:An}(hfu:C1.fu=C.fu)(hc:A4 P C1 Uq1)(hx:JK C1 P Uq1)(Ny:Tk Uq1 s.ab)(hX:X.round=none)(hnl:X.nl<=1000000)(hb:∀J,LV C J X b){fr0:FR}
 (hk:VV s T (eval C1 s.fuel X (.code c fr0) (Aa s.bl s.n))=true) {a:Act} {w:World} (hr:Rel J Uq1 C (Aa s.bl s.n) w) (hfr:IX J Uq1 X.nt X.nl fr0 a):
 El P c b a w .norm fun a' w'=>∃J',IX J' (T.sig Uq1) X.nt X.nl (frL s.L) a'/\Rel J' (T.sig Uq1) C (Aa s.bl s.n) w'/\LX (Fo Uq1 (Aa s.bl s.n) w) (Fo (T.sig Uq1) (Aa s.bl s.n) w') s.mv s.bl s.n J J' w w':=by
 unfold VV at hk;split at hk
 ·rename_i fr h he;simp only[Ah]at hk;obtain⟨k1,k2,k3,k4⟩:=hk;have hcx:LV C1 J X b:=⟨by rw[hfu];exact (hb J).fi,(hb J).fn,(hb J).kind,(hb J).round⟩;refine ((Jl hc hx s.fuel).1 X c fr0 _ .norm fr h he J w a b hcx (hr.cfg hfu.symm) hfr).mono ?_
  rintro a' w' ⟨Jq1,g2,g3,g4⟩
  replace g3:=g3.BF Ny
  replace g4:=QN.BF (ab:=s.ab) g4
  have hf:=Dq k3;have hg:∀b,Ae s.bl b=true->T.g b=b\/(Cc s.mv b=true/\s.n<=T.g b):=by
   intro b hb;obtain⟨p,hp,e⟩:=Ce hb;have:=Bf.1 k4 p hp;simp only[Bool.or_eq_true,Ah]at this;rw[e]at this;rcases this with h1|⟨h1,h2⟩
   ·exact .inl (beq_eq h1)
   ·exact .inr ⟨h1,Nat.le_of_ble_eq_true h2⟩
  refine⟨rn Jq1 T.g (Ae s.bl),?_,(g3.cfg hfu).focus hf,⟨fun b x hb=>(Bc hb).1,?_,?_,g4.size,g4.frame,fun r hr=>g4.fo r (hr.focus hf),g4.os,g4.tape,g4.output,g4.fz⟩⟩
  ·refine Aab g2.size ?_ ?_
   ·have:=g2.marks;rw[Ag (fun _ _=>beq_eq) k1]at this;refine VI (F2.AdE fun p hp=>JM.Fs fun b e r z hz=>?_) this;have hk:Ae s.bl b=true:=by
     have:=hw.L p hp;rw[e]at this;exact this
    exact⟨z,by rw[Ec hk];exact hz⟩
   ·intro p hp ht;have hsl:=Bf.1 k2 p hp;rw[Bool.or_eq_true]at hsl;have hsl:Pd fr.pt T p=true:=hsl.resolve_left fun e=>by
     have:=Nat.le_of_ble_eq_true e;omega
    obtain⟨v',q1,q2⟩:=g2.pt p.1 _ ht (U9 hsl);exact⟨v',q1,q2.Fs (hw.L p hp)⟩
  ·intro b hm hb;rw[Ec hb];rcases hg b hb with e|⟨e,_⟩
   ·rw[e,g4.CW b (hw.lt hb)]
   ·rw[hm]at e;cases e
  ·intro b r z hb;obtain⟨hk,AS⟩:=Bc hb;rcases hg b hk with e|⟨_,e⟩
   ·rw[e,g4.CW b (hw.lt hk)]at AS;exact .inr ⟨b,z,AS,hw.live hk⟩
   ·exact g4.new _ r z e AS
 ·cases hk
theorem LX.refl{F:Nat->Prop}{s:Qj}(hw:Wf s){w:World}(hk:∀b x,J b=some x->Ae s.bl b=true):LX F F s.mv s.bl s.n J J w w:=
 ⟨hk,fun _ _ _=>rfl,fun b r z hb=>.inr ⟨b,z,hb,hw.live (hk b _ hb)⟩,Nat.le_refl _,fun _ _ _ _=>rfl,fun _ h=>.inr h,rfl,rfl,rfl,fun _ _=>rfl⟩
theorem LX.trans{F F1 F2:Nat->Prop}{s:Qj}{Jq0 Jq2:A1}{w0 w1 w2:World}(h:LX F F1 s.mv s.bl s.n Jq0 Jq1 w0 w1)(g:LX F1 F2 s.mv s.bl s.n Jq1 Jq2 w1 w2):LX F F2 s.mv s.bl s.n Jq0 Jq2 w0 w2 where
 key:=g.key
 kept:=fun b hm hk=>(g.kept b hm hk).trans (h.kept b hm hk)
 Si:=by
  intro b r z hb;rcases g.Si b r z hb with e|⟨b0,z0,e,hv⟩
  ·exact .inl (Nat.le_trans h.size e)
  ·exact h.Si b0 r z0 e
 size:=Nat.le_trans h.size g.size
 frame:=by
  intro r hr hn hnf;rw[g.frame r (IM hr h.size) ?_ fun hx=>(h.fo r hx).elim (fun e=>by omega) hnf,h.frame r hr hn hnf];intro b S hb hv;rcases h.Si b r S hb with e|⟨b0,z0,e,OI⟩
  ·omega
  ·exact hn b0 z0 e OI
 fo:=fun r hx=>(g.fo r hx).elim (fun e=>.inl (Nat.le_trans h.size e)) (h.fo r)
 os:=g.os.trans h.os
 tape:=g.tape.trans h.tape
 output:=g.output.trans h.output
 fz:=fun a ha=>(g.fz a (IM ha h.size)).trans (h.fz a ha)
theorem LX.foR{F F' F2:Nat->Prop}{s:Qj}{w0 w1:World}(h:LX F F' s.mv s.bl s.n J Jq1 w0 w1)(hf:∀r,F2 r->F' r):LX F F2 s.mv s.bl s.n J Jq1 w0 w1:=⟨h.key,h.kept,h.Si,h.size,h.frame,fun r hr=>h.fo r (hf r hr),h.os,h.tape,h.output,h.fz⟩
theorem LX.foL{F F' F2:Nat->Prop}{s:Qj}{w0 w1:World}(h:LX F F' s.mv s.bl s.n J Jq1 w0 w1)(hf:∀r,F r->F2 r):LX F2 F' s.mv s.bl s.n J Jq1 w0 w1:=⟨h.key,h.kept,h.Si,h.size,fun r hr hn hx=>h.frame r hr hn fun hy=>hx (hf r hy),fun r hr=>(h.fo r hr).imp (fun h=>h) (hf r),h.os,h.tape,h.output,h.fz⟩
end Eng
namespace Eng
open Go Go.RowKit
variable {P:Program} {C C':AB} {U:An} {J J' Jq1:A1}
theorem Jm{mv:List Nat}{n:Nat}{bl:List (Nat×Aj)}{b:Nat}{y:Aj}(h:(b,y)∈Ef mv n bl):
 ∃p∈bl,(Cc mv p.1=true/\((b=p.1/\y=.dead)\/(b=n+p.1/\y=p.2.sub (Mz mv n))))\/(Cc mv p.1=false/\b=p.1/\y=p.2.sub (Mz mv n)):=by
 obtain⟨p,hp,hm⟩:=List.mem_flatMap.1 h;refine⟨p,hp,?_⟩;cases hv:Cc mv p.1 with
 |true=>
  rw[hv]at hm;simp only[cond_true,BL,Prod.mk.injEq,List.not_mem_nil,or_false]at hm;exact .inl ⟨rfl,hm⟩
 |false=>
  rw[hv]at hm;simp only[cond_false,BL,Prod.mk.injEq,List.not_mem_nil,or_false]at hm;exact .inr ⟨rfl,hm⟩
def IG(Jq0 Jq1:A1)(n:Nat)(mv:List Nat):A1:=fun b=>if b<n then Jq0 b else bif Cc mv (b-n) then Jq1 (b-n) else none
section
variable {s:Qj} {Jq0:A1} {w0 w1:World}
theorem LX.Asy{F F':Nat->Prop}(hw:Wf s)(h:LX F F' s.mv s.bl s.n Jq0 Jq1 w0 w1):Sub Jq1 (rn (IG Jq0 Jq1 s.n s.mv) (Mz s.mv s.n).g (Ae s.bl)):=by
 intro b x hb;have hk:=h.key b x hb;rw[Ec hk];show IG Jq0 Jq1 s.n s.mv (bif Cc s.mv b then Nat.add s.n b else b)=some x;cases hm:Cc s.mv b with
 |true=>
  show IG Jq0 Jq1 s.n s.mv (s.n+b)=some x;unfold IG;rw[if_neg (by omega),show s.n+b-s.n=b by omega,hm];exact hb
 |false=>
  show IG Jq0 Jq1 s.n s.mv b=some x;unfold IG;rw[if_pos (hw.lt hk),<-h.kept b hm hk];exact hb
theorem RC{x:Aj}(h:V3 x=true):x.GF=true/\x ≠ .dead:=by cases x<;>first|(cases h;done)|exact⟨h,by intro e;cases e⟩
theorem LX.Apw{F F':Nat->Prop}(hw:Wf s)(h:LX F F' s.mv s.bl s.n Jq0 Jq1 w0 w1){p:Nat×Aj}(hp:p∈s.bl){o:Obj}{z:Nat}(hx:BR Jq1 U C p.2 o z):BR (IG Jq0 Jq1 s.n s.mv) U C (p.2.sub (Mz s.mv s.n)) o z:=
 BR.Ft (S:=Mz s.mv s.n) (k:=Ae s.bl) (RC (hw.Du p hp)).1 (hx.mono (h.Asy hw))
theorem LX.Agz{F F':Nat->Prop}(hw:Wf s)(h:LX F F' s.mv s.bl s.n Jq0 Jq1 w0 w1){b r z:Nat}(hb:IG Jq0 Jq1 s.n s.mv b=some (r,z))(hv:Live (Aa (Ef s.mv s.n s.bl) (s.n+s.n)) b):
 ∃p∈s.bl,Jq1 p.1=some (r,z)/\b=bif Cc s.mv p.1 then s.n+p.1 else p.1:=by
 obtain⟨y,hy,hd⟩:=hv;obtain⟨p,hp,h1⟩:=Jm (Ad hy);have Au:=hw.lt (Ei hp);rcases h1 with ⟨hm,⟨_,e⟩|⟨e,_⟩⟩|⟨hm,e,_⟩
 ·exact absurd e hd
 ·refine⟨p,hp,?_,by rw[hm];exact e⟩;unfold IG at hb;rw[if_neg (by omega),show b-s.n=p.1 by omega,hm]at hb;exact hb
 ·refine⟨p,hp,?_,by rw[hm];exact e⟩;unfold IG at hb;rw[if_pos (by omega)]at hb;rw[h.kept p.1 hm (Ei hp),<-e];exact hb
theorem LX.leave{Uq0:An}(hw:Wf s)(h:LX (Fo Uq0 (Aa s.bl s.n) w0) (Fo U (Aa s.bl s.n) w1) s.mv s.bl s.n Jq0 Jq1 w0 w1)(Mo:Uq0.k=U.k)(IS:Rel Jq0 Uq0 C (Aa s.bl s.n) w0)(hr:Rel Jq1 U C (Aa s.bl s.n) w1):
 Rel (IG Jq0 Jq1 s.n s.mv) U C (Aa (Ef s.mv s.n s.bl) (s.n+s.n)) w1/\QN (Fo Uq0 (Aa s.bl s.n) w0) (Fo U (Aa (Ef s.mv s.n s.bl) (s.n+s.n)) w1) Jq0 (IG Jq0 Jq1 s.n s.mv) (Aa s.bl s.n) (Aa (Ef s.mv s.n s.bl) (s.n+s.n)) w0 w1:=by
 have kep:∀r o,U.k r=some o->w1.heap[r]? =some o/\∀b z,IG Jq0 Jq1 s.n s.mv b ≠ some (r,z):=by
  intro r o hk;refine⟨(hr.kept r o hk).1,fun b z hb=>?_⟩;unfold IG at hb;split at hb
  ·exact (IS.kept r o (by rw[Mo];exact hk)).2 b z hb
  ·cases hm:Cc s.mv (b-s.n) with
   |false=>rw[hm]at hb;cases hb
   |true=>rw[hm]at hb;exact (hr.kept r o hk).2 _ z hb
 have one:∀b t,(Aa (Ef s.mv s.n s.bl) (s.n+s.n)).get b=some (.Am t)->∃p∈s.bl,p.2=.Am t/\b=bif Cc s.mv p.1 then s.n+p.1 else p.1:=by
  intro b t hg;obtain⟨p,hp,h1⟩:=Jm (Ad hg);have sb:∀x:Aj,Aj.Am t=x.sub (Mz s.mv s.n)->x=.Am t:=by
   intro x e;cases x with
   |Am t0=>exact e.symm
   |_=>exact Aj.noConfusion e
  rcases h1 with ⟨hm,⟨_,e⟩|⟨e,e2⟩⟩|⟨hm,e,e2⟩
  ·exact Aj.noConfusion e
  ·exact⟨p,hp,sb _ e2,by rw[hm];exact e⟩
  ·exact⟨p,hp,sb _ e2,by rw[hm];exact e⟩
 have bag1:∀p∈s.bl,∀t,p.2=.Am t->(Aa s.bl s.n).get p.1=some (.Am t):=fun p hp t e=>by rw[<-e];exact hw.has p hp
 have bagR:Hr (IG Jq0 Jq1 s.n s.mv) U (Aa (Ef s.mv s.n s.bl) (s.n+s.n)) w1:=by
  refine⟨fun b t hg=>?_,fun b t hg r EJ=>?_,fun b t b' t' hg HZ Bs r EJ hfp'=>?_⟩
  ·obtain⟨p,hp,e,_⟩:=one b t hg;exact hr.Am.rep _ t (bag1 p hp t e)
  ·obtain⟨p,hp,e,_⟩:=one b t hg;obtain⟨f1,f2⟩:=hr.Am.free _ t (bag1 p hp t e) r EJ;refine⟨fun b' z hb=>?_,f2⟩;unfold IG at hb;split at hb
   ·rcases h.fo r ⟨_,t,bag1 p hp t e,EJ⟩ with h'|⟨b2,t2,g1,g2⟩
    ·obtain⟨o,ho,_⟩:=IS.AE b' r z hb;have:=(Ht.1 ho).1;omega
    ·exact (IS.Am.free b2 t2 g1 r g2).1 b' z hb
   ·cases hm:Cc s.mv (b'-s.n) with
    |false=>rw[hm]at hb;cases hb
    |true=>rw[hm]at hb;exact f1 _ z hb
  ·obtain⟨p,hp,e,e2⟩:=one b t hg;obtain⟨q,hq,d,d2⟩:=one b' t' HZ;exact hr.Am.Vs _ t _ t' (bag1 p hp t e) (bag1 q hq t' d) (fun h'=>Bs (by rw[e2,d2,h'])) r EJ hfp'
 refine⟨⟨?_,?_,?_,kep,bagR⟩,⟨Nat.le_add_right _ _,fun b hb=>if_pos hb,?_,h.size,?_,h.frame,fun r ⟨b,t,hg,EJ⟩=>(one b t hg).elim fun p ⟨hp,e,_⟩=>h.fo r ⟨_,t,bag1 p hp t e,EJ⟩,h.os,h.tape,h.output,h.fz⟩⟩
 ·intro b r z hb;show b<s.n+s.n;unfold IG at hb;split at hb
  ·omega
  ·cases hm:Cc s.mv (b-s.n) with
   |false=>rw[hm]at hb;cases hb
   |true=>
    rw[hm]at hb;have:=hw.lt (h.key _ _ hb);omega
 ·intro b r z hb
  by_cases hi:∃p∈s.bl,Jq1 p.1=some (r,z)/\b=bif Cc s.mv p.1 then s.n+p.1 else p.1
  ·obtain⟨p,hp,e1,e2⟩:=hi;obtain⟨o,ho,hx⟩:=hr.AE p.1 r z e1;have Au:=hw.lt (Ei hp);refine⟨o,ho,fun y hy=>?_⟩;obtain⟨q,hq,h1⟩:=Jm (Ad hy);have hltq:=hw.lt (Ei hq);rcases h1 with ⟨hm,⟨_,e⟩|⟨e,e'⟩⟩|⟨hm,e,e'⟩
   ·rw[e];trivial
   ·have hpq:q.1=p.1:=by
     cases K9:Cc s.mv p.1 with
     |true=>rw[K9]at e2;have:b=s.n+p.1:=e2;omega
     |false=>rw[K9]at e2;have:b=p.1:=e2;omega
    rw[e'];refine h.Apw hw hq (hx q.2 ?_);rw[<-hpq];exact hw.has q hq
   ·have hpq:q.1=p.1:=by
     cases K9:Cc s.mv p.1 with
     |true=>rw[K9]at e2;have:b=s.n+p.1:=e2;omega
     |false=>rw[K9]at e2;have:b=p.1:=e2;omega
    rw[e'];refine h.Apw hw hq (hx q.2 ?_);rw[<-hpq];exact hw.has q hq
  ·have OF:r<w1.heap.size:=by
    unfold IG at hb;split at hb
    ·obtain⟨o,ho,_⟩:=IS.AE b r z hb;exact IM (Ht.1 ho).1 h.size
    ·cases hm:Cc s.mv (b-s.n) with
     |false=>rw[hm]at hb;cases hb
     |true=>
      rw[hm]at hb;obtain⟨o,ho,_⟩:=hr.AE _ r z hb;exact (Ht.1 ho).1
   refine⟨_,Array.getElem?_eq_getElem OF,fun y hy=>?_⟩;have:y=.dead:=by
    apply Classical.byContradiction;intro Bs;exact hi (h.Agz hw hb ⟨y,hy,Bs⟩)
   subst this;trivial
 ·intro b b' r z z' hb AS hv hv';obtain⟨p,hp,e1,e2⟩:=h.Agz hw hb hv;obtain⟨q,hq,d1,d2⟩:=h.Agz hw AS hv';rcases hr.inj p.1 q.1 r z z' e1 d1 (hw.live (Ei hp)) (hw.live (Ei hq)) with e|⟨c,m,f,e⟩
  ·exact .inl (by rw[e2,d2,e])
  ·rw[hw.has p hp]at e;exact absurd (Option.some.inj e) (UC (RC (hw.Du p hp)).1)
 ·intro b r z K8 hb;unfold IG at hb;rw[if_neg (show ¬b<s.n from Nat.not_lt.2 K8)]at hb;cases hm:Cc s.mv (b-s.n) with
  |false=>rw[hm]at hb;cases hb
  |true=>rw[hm]at hb;exact h.Si _ r z hb
 ·intro b Au ⟨y,hy,hd⟩;obtain⟨p,hp,h1⟩:=Jm (Ad hy);have Au:b<s.n:=Au;rcases h1 with ⟨hm,⟨_,e⟩|⟨e,_⟩⟩|⟨hm,e,_⟩
  ·exact absurd e hd
  ·omega
  ·rw[e];exact hw.live (Ei hp)
theorem Bb.ArG{F F':Nat->Prop}(hw:Wf s)(h:LX F F' s.mv s.bl s.n Jq0 Jq1 w0 w1){x:AV}{v:Value}(hx:Bb Jq1 U x v):Bb (IG Jq0 Jq1 s.n s.mv) U (x.sub (Mz s.mv s.n)) v:=
 Bb.Ft (S:=Mz s.mv s.n) (k:=Ae s.bl) (hx.mono (h.Asy hw))
end
end Eng
namespace Eng
open Go Go.RowKit
variable {P:Program} {C C':AB} {U:An} {J J' Jq1:A1}
def Lw(P:Program)(C:AB)(U:An)(s:HU):Prop:=∀fr h,s.start fr h=true->∀(X:Ctx) (c:Code),s.run X.fn X.nt X.nl X.round c=true->∀J w a b,LV C J X b->Rel J U C h w->IX J U X.nt X.nl fr a->
 JL P c b a w (AcN C U J X.nt X.nl h (s.fin fr h).2 w (s.fin fr h).1)
def Aa8(fr:FR)(t:Nat):Bool:=match T.get fr.pt t with |some (.one .B7)=>true|_=>false
def AjY(t es:Nat)(fr:FR)(h:H):FR:=⟨T.set fr.pt t (.one (.C2 h.2 es (.lit 0))),fr.tl,fr.marks⟩
def phH(es tag:Nat)(h:H):H:=h.new (.row tag es (.lit 0) [])
def Ar9(t es tag:Nat)(s:HU):HU:=⟨fun fr h=>Aa8 fr t&&s.start (AjY t es fr h) (phH es tag h),s.run,fun fr h=>s.fin (AjY t es fr h) (phH es tag h)⟩
theorem Lw.ph{t es tag:Nat}{s:HU}(hs:Lw P C U s):Lw P C U (Ar9 t es tag s):=by
 intro fr h BN X c AM J w a b hb hr hf;have OH:(Aa8 fr t&&s.start (AjY t es fr h) (phH es tag h))=true:=BN;simp only[Ah]at OH;obtain⟨h1,h2⟩:=OH;obtain⟨g1,g2⟩:=hr.QE (.row tag es (.lit 0) []);have Bl:T.get fr.pt t=some (.one .B7):=by
  unfold Aa8 at h1;split at h1
  ·assumption
  ·cases h1
 have hf':IX J U X.nt X.nl (AjY t es fr h) a:=by
  refine⟨hf.size,?_,hf.tl,hf.marks⟩;intro u v hu hv;rcases T.DT (show T.get (T.set fr.pt t (.one (.C2 h.2 es (.lit 0)))) u=some v from hv) with ⟨e1,e2⟩|⟨_,e2⟩
  ·subst e1;subst e2;obtain⟨v',q1,q2⟩:=hf.pt u _ hu Bl;refine⟨v',q1,?_⟩;have q2:v'=.slice none 0 0:=q2;exact⟨none,0,0,q2,rfl,.inl ⟨rfl,rfl,rfl⟩⟩
  ·exact hf.pt u v hu e2
 exact (hs _ _ h2 X c AM J w a b hb g1 hf').mono fun a' w' ⟨J',q2,q3,q4⟩=>⟨J',q2,q3,g2.trans hr g1 q4⟩
def Ar2(s t:HU):HU:=⟨fun fr h=>s.start fr h||t.start fr h,fun f nt nl rd c=>s.run f nt nl rd c&&t.run f nt nl rd c,fun fr h=>@Bool.rec (fun _=>FR×H) (t.fin fr h) (s.fin fr h) (s.start fr h)⟩
theorem Lw.or{s t:HU}(h1:Lw P C U s)(h2:Lw P C U t):Lw P C U (Ar2 s t):=by
 intro fr h BN X c AM J w a b hb hr hf;have BN:(s.start fr h||t.start fr h)=true:=BN;have AM:(s.run X.fn X.nt X.nl X.round c&&t.run X.fn X.nt X.nl X.round c)=true:=AM;rw[Ah]at AM;show JL P c b a w (AcN C U J X.nt X.nl h (@Bool.rec (fun _=>FR×H) (t.fin fr h) (s.fin fr h) (s.start fr h)).2 w (@Bool.rec (fun _=>FR×H) (t.fin fr h) (s.fin fr h) (s.start fr h)).1);cases hs:s.start fr h with
 |true=>exact h1 fr h hs X c AM.1 J w a b hb hr hf
 |false=>rw[hs]at BN;exact h2 fr h BN X c AM.2 J w a b hb hr hf
def orO(s:HU)(r:Option HU):Option HU:=match r with |none=>some s|some t=>some (Ar2 s t)
def lpO(l:List (FuncId×Nat×HU))(f:FuncId)(k:Nat):Option HU:=@List.rec (FuncId×Nat×HU) (fun _=>Option HU) none (fun p _ r=>@Bool.rec (fun _=>Option HU) r (orO p.2.2 r) (Nat.beq p.1 f&&Nat.beq p.2.1 k)) l
theorem AnB{f:FuncId}{k:Nat}:∀{l:List (FuncId×Nat×HU)},Al (fun p=>Lw P C U p.2.2) l->∀{s:HU},lpO l f k=some s->Lw P C U s:=by
 intro l h
 induction h with
 |nil=>intro s h;cases h
 |cons h0 _ ih=>
  rename_i p l _;intro s h;have h':@Bool.rec (fun _=>Option HU) (lpO l f k) (orO p.2.2 (lpO l f k)) (Nat.beq p.1 f&&Nat.beq p.2.1 k)=some s:=h;cases e:(Nat.beq p.1 f&&Nat.beq p.2.1 k) with
  |false=>rw[e]at h';exact ih h'
  |true=>
   rw[e]at h';have h':orO p.2.2 (lpO l f k)=some s:=h';cases hl:lpO l f k with
   |none=>rw[hl]at h';cases h';exact h0
   |some t=>rw[hl]at h';cases h';exact h0.or (ih hl)
theorem Ext.Abh{ab:PH}{h h1:H}{w w1:World}(e:Ext U J Jq1 (Eng.BF ab h) h1 w w1):Ext U J Jq1 h h1 w w1:=
 ⟨e.next,e.CW,fun b r S hb hn=>(e.new b r S hb hn).imp id fun⟨b0,S0,q1,q2⟩=>⟨b0,S0,q1,ED q2⟩,e.size,fun b hb hl=>ED (e.live b hb hl),fun r hr hn hf=>e.frame r hr (fun b S hb hl=>hn b S hb (ED hl)) fun hx=>hf hx.BF,fun r hx=>(e.fo r hx).imp (fun h=>h) Fo.BF,e.os,e.tape,e.output,e.fz⟩
def Amg(ab:PH)(s:HU):HU:=⟨fun fr h=>s.start fr (BF ab h),s.run,fun fr h=>s.fin fr (BF ab h)⟩
theorem Lw.ab{ab:PH}(Ny:Tk U ab){s:HU}(hs:Lw P C U s):Lw P C U (Amg ab s):=by
 intro fr h BN X c AM J w a b hb hr hf;exact (hs fr (BF ab h) BN X c AM J w a b hb (hr.BF Ny) hf).mono fun a' w' ⟨J',q2,q3,q4⟩=>⟨J',q2,q3,q4.Abh⟩
theorem Tm.ab{ab:PH}(Ny:Tk U ab){ext:FuncId->List AV->H->Option (AV×H)}(h0:Tm P U C ext):Tm P U C (fun f args h=>ext f args (BF ab h)):=by
 intro f args h v h' hk J w vs hr ha;exact (h0 f args (BF ab h) v h' hk J w vs (hr.BF Ny) ha).mono fun v' w' ⟨J',g2,g3,g4⟩=>⟨J',g2,g3,g4.Abh⟩
def AbX(nm:E->Option Int)(a:A):A:=match a with
 |.sb e=>(match nm e with |some n=>.bool (C3 (BX n 0))|none=>.sb e)
 |.sym k e=>(match nm e with |some n=>.int k n|none=>.sym k e)
 |a=>a
def NI(nm:E->Option Int)(v:AV):AV:=match v with
 |.one a=>.one (AbX nm a)
 |.agg l=>.agg (l.map (AbX nm))
 |v=>v
def AbY(nm:E->Option Int)(fr:FR):FR:=⟨T.Sa (NI nm) fr.pt,fr.tl,fr.marks⟩
theorem Yw{nm:E->Option Int}(h:∀e n,nm e=some n->e.den U=n){v:A}{x:Value}(hx:AR J U v x):AR J U (AbX nm v) x:=by
 unfold AbX;split
 ·rename_i e;cases hn:nm e with
  |none=>exact hx
  |some n=>
   have hx:x=.bool (decide (e.den U ≠ 0)):=hx;show x=.bool (C3 (BX n 0));rw[hx,h e n hn,BC]
   by_cases e0:n=0
   ·subst e0;rfl
   ·rw[beq_false_of_ne e0];simp[e0,C3]
 ·rename_i k e;cases hn:nm e with
  |none=>exact hx
  |some n=>
   have hx:x=.int k (e.den U):=hx;show x=.int k n;rw[hx,h e n hn]
 ·exact hx
theorem Yx{nm:E->Option Int}(h:∀e n,nm e=some n->e.den U=n){v:AV}{x:Value}(hx:Bb J U v x):Bb J U (NI nm v) x:=by
 cases v with
 |one a=>exact Yw h hx
 |agg l=>
  obtain⟨vs,h1,h2⟩:=hx;refine⟨vs,h1,?_⟩;clear h1
  induction h2 with
  |nil=>exact .nil
  |cons h0 _ ih=>exact .cons (Yw h h0) ih
 |Dh l=>exact hx
theorem F2.nrm{nm:E->Option Int}(h:∀e n,nm e=some n->e.den U=n){l:List AV}{vs:List Value}(hx:F2 (Bb J U) l vs):F2 (Bb J U) (l.map (NI nm)) vs:=by
 induction hx with
 |nil=>exact .nil
 |cons h0 _ ih=>exact .cons (Yx h h0) ih
theorem IX.nrm{nm:E->Option Int}(h:∀e n,nm e=some n->e.den U=n){nt nl:Nat}{fr:FR}{a:Act}(hf:IX J U nt nl fr a):IX J U nt nl (AbY nm fr) a:=by
 refine⟨hf.size,?_,hf.tl,hf.marks⟩;intro t v ht hv;have hv:T.get (T.Sa (NI nm) fr.pt) t=some v:=hv;rw[T.get_map]at hv;cases hg:T.get fr.pt t with
 |none=>rw[hg]at hv;cases hv
 |some x=>
  rw[hg]at hv;cases hv;obtain⟨v',q1,q2⟩:=hf.pt t x ht hg;exact⟨v',q1,Yx h q2⟩
def AgG(nm:E->Option Int)(s:HU):HU:=⟨s.start,s.run,fun fr h=>(AbY nm (s.fin fr h).1,(s.fin fr h).2)⟩
theorem Lw.nrm{nm:E->Option Int}(h:∀e n,nm e=some n->e.den U=n){s:HU}(hs:Lw P C U s):Lw P C U (AgG nm s):=by
 intro fr hh BN X c AM J w a b hb hr hf;exact (hs fr hh BN X c AM J w a b hb hr hf).mono fun a' w' ⟨J',q2,q3,q4⟩=>⟨J',q2.nrm h,q3,q4⟩
end Eng
namespace Eng
open Go Go.RowKit
variable {P:Program} {C C':AB} {U U':An} {J J':A1} {n:Nat}
structure Ai(n:Nat)(U U':An):Prop where
 v:∀i,i<n->U'.v i=U.v i
 r:∀t,t<n->U'.r t=U.r t
 m:∀t,t<n->U'.m t=U.m t
 k:U'.k=U.k
 b:∀t,t<n->U'.b t=U.b t
 ro:∀t,t<n->U'.ro t=U.ro t
theorem Ai.refl:Ai n U U:=⟨fun _ _=>rfl,fun _ _=>rfl,fun _ _=>rfl,rfl,fun _ _=>rfl,fun _ _=>rfl⟩
theorem Ai.symm(h:Ai n U U'):Ai n U' U:=⟨fun i hi=>(h.v i hi).symm,fun i hi=>(h.r i hi).symm,fun i hi=>(h.m i hi).symm,h.k.symm,fun i hi=>(h.b i hi).symm,fun i hi=>(h.ro i hi).symm⟩
theorem Ai.trans{Uq2:An}(h:Ai n U U')(g:Ai n U' Uq2):Ai n U Uq2:=⟨fun i hi=>(g.v i hi).trans (h.v i hi),fun i hi=>(g.r i hi).trans (h.r i hi),fun i hi=>(g.m i hi).trans (h.m i hi),g.k.trans h.k,fun i hi=>(g.b i hi).trans (h.b i hi),fun i hi=>(g.ro i hi).trans (h.ro i hi)⟩
theorem Ai.le{m:Nat}(hm:m<=n)(h:Ai n U U'):Ai m U U':=⟨fun i hi=>h.v i (IM hi hm),fun i hi=>h.r i (IM hi hm),fun i hi=>h.m i (IM hi hm),h.k,fun i hi=>h.b i (IM hi hm),fun i hi=>h.ro i (IM hi hm)⟩
def E.lo(n:Nat):E->Bool
 |.lit _=>true
 |.var i=>Nat.blt i n
 |.bin _ _ a b=>a.lo n&&b.lo n
 |.conv _ a=>a.lo n
 |.cell t a _=>Nat.blt t n&&a.lo n
 |.Bd t a _=>Nat.blt t n&&a.lo n
theorem AF{a b:Nat}(h:Nat.blt a b=true):a<b:=by rwa [Nat.blt_eq]at h
theorem E.agree(hg:Ai n U U'):∀{e:E},e.lo n=true->e.den U'=e.den U
 |.lit _,_=>rfl
 |.var i,h=>hg.v i (AF h)
 |.bin o k a b,h=>by
  have h:(a.lo n&&b.lo n)=true:=h;simp only[Ah]at h;show E5 o k (a.den U') (b.den U')=_;rw[E.agree hg h.1,E.agree hg h.2];rfl
 |.conv k a,h=>by
  show k.wrap (a.den U')=_;rw[E.agree hg (e:=a) h];rfl
 |.cell t a c,h=>by
  have h:(Nat.blt t n&&a.lo n)=true:=h;simp only[Ah]at h;show numOf (U'.r t (a.den U').toNat c)=_;rw[E.agree hg h.2,hg.r t (AF h.1)];rfl
 |.Bd t a c,h=>by
  have h:(Nat.blt t n&&a.lo n)=true:=h;simp only[Ah]at h;show Dm (U'.m t (a.den U')) c=_;rw[E.agree hg h.2,hg.m t (AF h.1)];rfl
def A.lo(n:Nat)(a:A):Bool:=match a with
 |.sym _ e=>e.lo n
 |.sb e=>e.lo n
 |.Wz _ _ e=>e.lo n
 |.pt _ e _ _=>e.lo n
 |.C2 _ _ e=>e.lo n
 |.Wp _ _ lw e=>lw.lo n&&e.lo n
 |.rc t e _=>Nat.blt t n&&e.lo n
 |.P3 t _ e=>Nat.blt t n&&e.lo n
 |.NB t e _ _=>Nat.blt t n&&e.lo n
 |.fp t=>Nat.blt t n
 |_=>true
theorem WK.agree(hg:Ai n U U'){r o t es N:Nat}(ht:t<n)(h:WK U r o t es N):WK U' r o t es N:=by
 obtain⟨cs,ty,z,h1,h2,h3⟩:=h;refine⟨cs,ty,z,by rw[hg.k];exact h1,h2,fun j c hj hc=>?_⟩;obtain⟨u,g1,g2,g3⟩:=h3 j c hj hc;exact⟨u,g1,by rw[hg.r t ht];exact g2,g3⟩
theorem AR.agree(hg:Ai n U U'){a:A}(hb:a.lo n=true){v:Value}(h:AR J U a v):AR J U' a v:=by
 cases a with
 |sym k e=>show v=.int k (e.den U');rw[E.agree hg (e:=e) hb];exact h
 |sb e=>show v=.bool (decide (e.den U' ≠ 0));rw[E.agree hg (e:=e) hb];exact h
 |Wz b es e=>obtain⟨r,S,N,h1,h2,h3,h4⟩:=h;exact⟨r,S,N,h1,h2,by rw[E.agree hg (e:=e) hb];exact h3,h4⟩
 |pt b e es c=>obtain⟨r,S,N,h1,h2,h3⟩:=h;exact⟨r,S,N,h1,h2,by rw[E.agree hg (e:=e) hb];exact h3⟩
 |C2 b es e=>obtain⟨p,N,k,h1,h2,h3⟩:=h;exact⟨p,N,k,h1,by rw[E.agree hg (e:=e) hb];exact h2,h3⟩
 |Wp b es lw e=>
  have hb:(lw.lo n&&e.lo n)=true:=hb;simp only[Ah]at hb;obtain⟨p,N,k,h1,h0,h2,h3⟩:=h;refine⟨p,N,k,h1,h0,by rw[E.agree hg hb.2];exact h2,?_⟩;rcases h3 with h3|⟨r,S,L,h4,h5,h6⟩
  ·exact .inl h3
  ·exact .inr ⟨r,S,L,h4,h5,by rw[E.agree hg hb.1];exact h6⟩
 |rc t e c=>
  have hb:(Nat.blt t n&&e.lo n)=true:=hb;simp only[Ah]at hb;show v=U'.r t (e.den U').toNat c/\v.oneCell'=true;rw[E.agree hg hb.2,hg.r t (AF hb.1)];exact h
 |P3 t es e=>
  have hb:(Nat.blt t n&&e.lo n)=true:=hb;simp only[Ah]at hb;obtain⟨p,N,q,h1,h2,h3⟩:=h;refine⟨p,N,q,h1,by rw[E.agree hg hb.2];exact h2,?_⟩;rcases h3 with h3|⟨r,o,h4,h5⟩
  ·exact .inl h3
  ·exact .inr ⟨r,o,h4,h5.agree hg (AF hb.1)⟩
 |NB t e es c=>
  have hb:(Nat.blt t n&&e.lo n)=true:=hb;simp only[Ah]at hb;obtain⟨r,o,N,Jzz,h1,h2,h3,h4⟩:=h;exact⟨r,o,N,Jzz,h1,by rw[E.agree hg hb.2];exact h2,h3,h4.agree hg (AF hb.1)⟩
 |fp t=>show v=.pointer (some ⟨U'.ro t,0,none⟩);rw[hg.ro t (AF hb)];exact h
 |_=>exact h
def V.lo(n:Nat)(x:V):Bool:=match x with
 |.one a=>a.lo n
 |.agg l=>l.all (A.lo n)
def AV.lo(n:Nat)(x:AV):Bool:=match x with
 |.one a=>a.lo n
 |.agg l=>l.all (A.lo n)
 |.Dh l=>l.all (V.lo n)
theorem F2.AeE(hg:Ai n U U'):∀{l:List A} {vs:List Value},l.all (A.lo n)=true->F2 (AR J U) l vs->F2 (AR J U') l vs:=by
 intro l
 induction l with
 |nil=>intro vs _ h;cases h;exact .nil
 |cons a l ih=>
  intro vs hb h;simp only[List.all_cons,Ah]at hb;cases h with
  |cons h0 h1=>exact .cons (h0.agree hg hb.1) (ih hb.2 h1)
theorem VR.agree(hg:Ai n U U'){x:V}(hb:x.lo n=true){v:Value}(h:VR J U x v):VR J U' x v:=by
 cases x with
 |one a=>exact AR.agree hg (a:=a) hb h
 |agg l=>obtain⟨vs,h1,h2⟩:=h;exact⟨vs,h1,h2.AeE hg hb⟩
theorem Bb.agree(hg:Ai n U U'){x:AV}(hb:x.lo n=true){v:Value}(h:Bb J U x v):Bb J U' x v:=by
 cases x with
 |one a=>exact AR.agree hg (a:=a) hb h
 |agg l=>obtain⟨vs,h1,h2⟩:=h;exact⟨vs,h1,h2.AeE hg hb⟩
 |Dh l=>
  obtain⟨vs,h1,h2⟩:=h;refine⟨vs,h1,?_⟩;clear h1;have hb:l.all (V.lo n)=true:=hb
  induction l generalizing vs with
  |nil=>cases h2;exact .nil
  |cons a l ih=>
   simp only[List.all_cons,Ah]at hb;cases h2 with
   |cons h0 h1=>exact .cons (h0.agree hg hb.1) (ih hb.2 _ h1 hb.2)
def Aj.lo(n:Nat)(x:Aj):Bool:=match x with
 |.cells c _ _ _=>T.all (A.lo n) c
 |.map es _=>es.all fun e=>e.key.lo n&&e.val.lo n
 |.row t _ e sp=>Nat.blt t n&&(e.lo n&&sp.all fun p=>p.1.lo n&&p.2.2.lo n)
 |.Ej t kn=>Nat.blt t n&&kn.all fun p=>p.1.lo n&&(match p.2 with |some v=>v.lo n|none=>true)
 |.loop l=>T.all (AV.lo n) l.tmps
 |.vm .. =>false
 |.Am t=>Nat.blt t.1 n&&Nat.blt t.2 n
 |_=>true
theorem LO(hg:Ai n U U'){j c:Nat}:∀{l:List (E×Nat×A)},(l.all fun p=>p.1.lo n&&p.2.2.lo n)=true->Ao U' j c l=Ao U j c l:=by
 intro l
 induction l with
 |nil=>intro _;rfl
 |cons p l ih=>
  intro hb;simp only[List.all_cons,Ah]at hb;unfold Ao;rw[E.agree hg hb.1.1,ih hb.2]
theorem VF(hg:Ai n U U'){z:Int}:∀{l:List (E×Option V)},(l.all fun p=>p.1.lo n&&(match p.2 with |some v=>v.lo n|none=>true))=true->Bp U' z l=Bp U z l:=by
 intro l
 induction l with
 |nil=>intro _;rfl
 |cons p l ih=>
  intro hb;simp only[List.all_cons,Ah]at hb;unfold Bp;rw[E.agree hg hb.1.1,ih hb.2]
theorem BR.agree(hg:Ai n U U'){x:Aj}(hb:x.lo n=true){o:Obj}{z:Nat}(h:BR J U C x o z):BR J U' C x o z:=by
 cases x with
 |cells c m f s=>
  obtain⟨cs,e,h1,h2,h3,h4,h5⟩:=h;exact⟨cs,e,h1,h2,h3,h4,fun i a hi ha=>let ⟨v,q1,q2⟩:=h5 i a hi ha;⟨v,q1,q2.agree hg (T.Gb (show T.all (A.lo n) c=true from hb) ha)⟩⟩
 |map es clock=>
  obtain⟨ms,h1,h2⟩:=h;refine⟨ms,h1,?_⟩;clear h1;change (es.all fun e=>e.key.lo n&&e.val.lo n)=true at hb
  induction es generalizing ms with
  |nil=>cases h2;exact .nil
  |cons e es ih=>
   simp only[List.all_cons,Ah]at hb;cases h2 with
   |cons h0 h1=>
    obtain⟨a,b,c⟩:=h0;exact .cons ⟨a.agree hg hb.1.1,b.agree hg hb.1.2,c⟩ (ih _ h1 hb.2)
 |row t es e sp=>
  have hb:(Nat.blt t n&&(e.lo n&&sp.all fun p=>p.1.lo n&&p.2.2.lo n))=true:=hb;rw[Ah,Ah]at hb;obtain⟨b1,b2,b3⟩:=hb;obtain⟨cs,ty,N,h1,h2,h3,h4,h5,h6,h7⟩:=h;refine⟨cs,ty,N,h1,h2,by rw[E.agree hg b2];exact h3,h4,h5,?_,fun j c hj hc=>let ⟨u,q1,q2⟩:=h7 j c hj hc;⟨u,q1,?_⟩⟩
  ·intro p hp;have:=Bf.1 b3 p hp;simp only[Ah]at this;rw[E.agree hg this.1,E.agree hg b2];exact h6 p hp
  ·unfold B3 at q2 ⊢;rw[LO hg b3,hg.r t (AF b1)];cases hl:Ao U j c sp with
   |none=>rw[hl]at q2;exact q2
   |some a=>
    rw[hl]at q2;obtain⟨p,hp,e⟩:=GD hl;have:=Bf.1 b3 p hp;simp only[Ah]at this;rw[<-e];rw[<-e]at q2;exact AR.agree hg this.2 q2
 |Ej t kn=>
  have hb:(Nat.blt t n&&kn.all fun p=>p.1.lo n&&(match p.2 with |some v=>v.lo n|none=>true))=true:=hb;rw[Ah]at hb;obtain⟨b1,b3⟩:=hb;obtain⟨ms,clock,h1,h2,h3⟩:=h;refine⟨ms,clock,h1,h2,fun y=>?_⟩;have h3:=h3 y;unfold BY at h3 ⊢;rw[VF hg b3,hg.m t (AF b1)];cases hl:Bp U y kn with
  |none=>rw[hl]at h3;exact h3
  |some o=>
   rw[hl]at h3;cases o with
   |none=>exact h3
   |some v=>
    obtain⟨p,hp,e⟩:=FL hl;have:=Bf.1 b3 p hp;rw[e,Ah]at this;exact BV.mono h3 fun _=>VR.agree hg this.2
 |loop l=>
  obtain⟨L,e0,h1,h2,h3,h4,h5,h6,⟨fi,h7,h8,h9⟩,RF⟩:=h;refine⟨L,e0,h1,h2,h3,h4,h5,h6,⟨fi,h7,h8,fun t v ht hv=>?_⟩,RF⟩;obtain⟨v',q1,q2⟩:=h9 t v ht hv;exact⟨v',q1,q2.agree hg (T.Gb (show T.all (AV.lo n) l.tmps=true from hb) hv)⟩
 |vm _ _ _=>cases hb
 |_=>exact h
theorem Fo.congr{h:H}{w:World}(e:∀b t,h.get b=some (.Am t)->U'.B t=U.B t){r:Nat}(hf:Fo U' h w r):Fo U h w r:=
 let ⟨b,t,h1,h2⟩:=hf;⟨b,t,h1,by rw[<-e b t h1];exact h2⟩
theorem Hr.congr{h:H}{w:World}(e:∀b t,h.get b=some (.Am t)->U'.B t=U.B t)(hk:U'.k=U.k)(hb:Hr J U h w):Hr J U' h w:=by
 refine⟨fun b t h1=>by rw[e b t h1];exact hb.rep b t h1,fun b t h1 r hf=>?_,fun b t b' t' h1 h2 Bs r hf hf'=>?_⟩
 ·rw[e b t h1]at hf;obtain⟨q1,q2⟩:=hb.free b t h1 r hf;exact⟨q1,by rw[hk];exact q2⟩
 ·rw[e b t h1]at hf;rw[e b' t' h2]at hf';exact hb.Vs b t b' t' h1 h2 Bs r hf hf'
theorem Ai.Am(hg:Ai n U U'){bl:List (Nat×Aj)}{m:Nat}(hb:(bl.all fun p=>p.2.lo n)=true)(b:Nat)(t:Nat×Nat)(h:(Aa bl m).get b=some (.Am t)):U'.B t=U.B t:=by
 have:=Bf.1 hb (b,.Am t) (Ad h);have this:(Nat.blt t.1 n&&Nat.blt t.2 n)=true:=this;rw[Ah]at this;show (U'.b t.1).at_ (U'.ro t.2)=(U.b t.1).at_ (U.ro t.2);rw[hg.b t.1 (AF this.1),hg.ro t.2 (AF this.2)]
theorem Rel.agree(hg:Ai n U U'){bl:List (Nat×Aj)}{m:Nat}(hb:(bl.all fun p=>p.2.lo n)=true){w:World}(h:Rel J U C (Aa bl m) w):Rel J U' C (Aa bl m) w:=
 ⟨h.lt,fun b r S hr=>let ⟨o,h1,h2⟩:=h.AE b r S hr;⟨o,h1,fun x hx=>(h2 x hx).agree hg (Bf.1 hb (b,x) (Ad hx))⟩,h.inj,fun r o hk=>h.kept r o (by rw[<-hg.k];exact hk),h.Am.congr (hg.Am hb) hg.k⟩
end Eng
namespace Eng
open Go Go.RowKit
variable {P:Program} {C C':AB} {U U':An} {J J':A1} {n:Nat}
def kT:Nat->Bool:=fun _=>true
section
variable {I:Sb}
theorem Bb.Asx{k:Nat->Bool}{x:AV}{v:Value}(h:Bb (rn J I.g k) (I.sig U) x v):Bb J U (x.sub I) v:=Bb.Ft (S:=I) (k:=k) h
theorem BR.Asw{x:Aj}(hI:∀b,kT b=true->I.g b=b){o:Obj}{z:Nat}(hx:x.GF=true)(h:BR J (I.sig U) C x o z):BR J U C (x.sub I) o z:=
 BR.Ft (S:=I) (k:=kT) hx (by rw[show rn J I.g kT=J from funext fun b=>by rw[Ec rfl,hI b rfl]];exact h)
end
def Sb.id0(I:Sb):Sb:={I with g:=fun b=>b}
def CL(x:Aj):Bool:=match x with |.dead=>true|_=>false
theorem Mr{x:Aj}:CL x=true↔x=.dead:=by cases x<;>simp[CL]
def B0(l:List (Nat×Aj))(b:Nat):Bool:=l.any fun p=>Nat.beq p.1 b&&C3 (CL p.2)
def Aq6(I:Sb)(n:Nat)(bl AX:List (Nat×Aj)):Bool:=AX.all fun p=>CL p.2||((@Bool.rec (fun _=>Bool) (Nat.ble n (I.g p.1)||B0 bl (I.g p.1)) (Nat.beq (I.g p.1) p.1) (Nat.blt p.1 n))&&AX.all fun q=>CL q.2||@Bool.rec (fun _=>Bool) true (Nat.beq p.1 q.1) (Nat.beq (I.g p.1) (I.g q.1)))
def Mt(I:Sb)(s:Mc):Bool:=Av AV.AJ (s.args.map (AV.sub I.id0)) s.args&&((s.bl.all fun p=>p.2.GF&&Aj.eq2 (p.2.sub I.id0) p.2)&&((s.AX.all fun p=>p.2.GF)&&(leaves s.bl s.n s.AX s.n1 (Aa s.AX s.n1)&&(s.args.all (AV.within (Ae s.bl))&&(s.v.within (B0 s.AX)&&(Aq6 I s.n s.bl s.AX&&(Nat.ble s.n s.n1&&(s.AX.all fun p=>p.2.within (B0 s.AX)))))))))
def Ald(a:A):Bool:=match a with |.C2 .. =>true|.KW .. =>true|.slice .. =>true|.B7=>true|.any=>true|_=>false
def A.Wu(a p:A):Bool:=match p with |.any=>Ald a|p=>a.AJ p
theorem A.QH{a p:A}{u:Value}(h:a.Wu p=true)(hv:AR J U a u):AR J U p u:=by
 unfold A.Wu at h;split at h
 ·unfold Ald at h;split at h
  ·obtain⟨p,N,k,e,_⟩:=hv;exact⟨_,_,_,e⟩
  ·obtain⟨r,S,c,_,e,_⟩:=hv;exact⟨_,_,_,e⟩
  ·obtain⟨r,S,_,e⟩:=hv;exact⟨_,_,_,e⟩
  ·exact⟨_,_,_,hv⟩
  ·exact hv
  ·cases h
 ·rw[<-A.Ac h];exact hv
def Akx(l m:List A):Bool:=match l,m with | [],[]=>true|a::l,b::m=>a.Wu b&&Akx l m|_,_=>false
theorem AcB:∀{l m:List A} {vs:List Value},Akx l m=true->F2 (AR J U) l vs->F2 (AR J U) m vs
 | [],[],_,_,h=>h
 |a::l,b::m,_,h,.cons h0 h1=>by
  have h:(a.Wu b&&Akx l m)=true:=h;rw[Ah]at h;exact .cons (A.QH h.1 h0) (AcB h.2 h1)
def AV.Wu(v p:AV):Bool:=match v,p with |.one a,.one b=>a.Wu b|.agg l,.agg m=>Akx l m|v,p=>v.AJ p
theorem AV.QH{v p:AV}{u:Value}(h:v.Wu p=true)(hv:Bb J U v u):Bb J U p u:=by
 unfold AV.Wu at h;split at h
 ·exact A.QH h hv
 ·obtain⟨vs,e,hv⟩:=hv;exact⟨vs,e,AcB h hv⟩
 ·rw[<-AV.Ac h];exact hv
def Anj(I:Sb)(s:Mc)(v:AV)(h:H):Bool:=v.Wu (s.v.sub I)&&s.AX.all fun p=>CL p.2||hasB h (I.g p.1) (p.2.sub I)
def Sy(J J':A1)(I:Sb)(n:Nat)(k:Nat->Bool):A1:=fun b=>if b<n then J b else bif k b then J' (I.g b) else none
theorem Et{l:List (Nat×Aj)}{b:Nat}(h:B0 l b=true):∃p∈l,p.1=b/\CL p.2=false:=by
 obtain⟨p,hp,e⟩:=List.any_eq_true.1 h;rw[Ah]at e;refine⟨p,hp,beq_eq e.1,?_⟩;cases hd:CL p.2 with
 |false=>rfl
 |true=>rw[hd]at e;cases e.2
theorem K6{l:List (Nat×Aj)}{p:Nat×Aj}(hp:p∈l)(hd:CL p.2=false):B0 l p.1=true:=List.any_eq_true.2 ⟨p,hp,by rw[hd,Ah];exact⟨Nat.beq_refl _,rfl⟩⟩
theorem Hs.gen{I:Sb}{s:Mc}(hk:Mt I s=true)(h:∀J w vs,Rel J U C (Aa s.bl s.n) w->F2 (Bb J U) s.args vs->
 Ci P s.f vs.toArray w fun v' w'=>∃J' h1 v,Bb J' U v v'/\Rel J' U C h1 w'/\Ext U J J' (Aa s.bl s.n) h1 w w'/\Anj I s v h1=true):Hs P C (I.sig U) s:=by
 simp only[Mt,Ah]at hk;obtain⟨k1,k2,k3,k4,k5,k6,k7,k8,k9⟩:=hk;have k1:=Ag (fun _ _=>AV.Ac) k1;have k2:=fun p hp=>Bf.1 k2 p hp
 simp only[Ah]at k2;have k3:=fun p hp=>Bf.1 k3 p hp
 have k8:=Nat.le_of_ble_eq_true k8;have k9:=fun p hp=>Bf.1 k9 p hp
 have hlv:=Cw k4;have FF:=hlv.cl;have hlt1:∀p∈s.AX,p.1<s.n1:=fun p hp=>by
  have:=Bf.1 FF p hp;rw[Ah]at this;exact AF this.1
 have Qz:∀p∈s.AX,CL p.2=false->(p.1<s.n->I.g p.1=p.1)/\(¬p.1<s.n->s.n<=I.g p.1\/B0 s.bl (I.g p.1)=true)/\∀q∈s.AX,CL q.2=false->I.g p.1=I.g q.1->p.1=q.1:=by
  intro p hp hd;have:=Bf.1 k7 p hp;rw[hd,Bool.false_or,Ah]at this;obtain⟨a,b⟩:=this;refine⟨fun hl=>?_,fun hl=>?_,fun q hq hdq e=>?_⟩
  ·rw[show Nat.blt p.1 s.n=true by rw[Nat.blt_eq];exact hl]at a;exact beq_eq a
  ·rw[show Nat.blt p.1 s.n=false by cases hb:Nat.blt p.1 s.n with |false=>rfl|true=>exact absurd (AF hb) hl]at a;have a:(Nat.ble s.n (I.g p.1)||B0 s.bl (I.g p.1))=true:=a;rw[Bool.or_eq_true]at a;exact a.imp Nat.le_of_ble_eq_true id
  ·have:=Bf.1 b q hq;rw[hdq,Bool.false_or,show Nat.beq (I.g p.1) (I.g q.1)=true by rw[e];exact Nat.beq_refl _]at this;exact beq_eq this
 have PY:∀{k:Nat->Bool} {x:AV},(∀b,k b=true->Ae s.AX b=true)->True:=fun _=>trivial
 have hlk:∀b,B0 s.AX b=true->Ae s.AX b=true:=fun b hb=>let ⟨p,hp,e,_⟩:=Et hb;by rw[<-e];exact Ei hp
 have hwk:s.v.within (Ae s.AX)=true:=by
  have hA:∀a:A,a.within (B0 s.AX)=true->a.within (Ae s.AX)=true:=by
   intro a ha;cases a<;>first|exact ha|exact hlk _ ha|exact Bf.2 fun c hc=>hlk c (Bf.1 (show List.all _ _=true from ha) c hc)
  have hL:∀l:List A,l.all (A.within (B0 s.AX))=true->l.all (A.within (Ae s.AX))=true:=fun l hl=>Bf.2 fun a ha=>hA a (Bf.1 hl a ha)
  have hV:∀x:V,x.within (B0 s.AX)=true->x.within (Ae s.AX)=true:=fun x hx=>by cases x with |one a=>exact hA a hx|agg l=>exact hL l hx
  generalize s.v=v at k6 ⊢;cases v with
  |one a=>exact hA a k6
  |agg l=>exact hL l k6
  |Dh l=>exact Bf.2 fun x hx=>hV x (Bf.1 (show List.all _ _=true from k6) x hx)
 refine⟨by simp only[Ah];exact⟨k5,hwk⟩,fun J w vs hr ha=>?_⟩;have hbg:∀b t,(Aa s.bl s.n).get b=some (.Am t)->(I.sig U).B t=U.B t:=fun b t hx=>by
  have e:(Aj.Am t).sub I.id0=.Am t:=Aj.GO (k2 _ (Ad hx)).2;have e:I.rp t=t:=Aj.Am.inj e;show U.B (I.rp t)=U.B t;rw[e]
 have IQ:Rel J U C (Aa s.bl s.n) w:=by
  refine⟨hr.lt,fun b r S hb=>?_,hr.inj,hr.kept,hr.Am.congr (fun b t hx=>(hbg b t hx).symm) rfl⟩;obtain⟨o,h1,h2⟩:=hr.AE b r S hb;refine⟨o,h1,fun x hx=>?_⟩;have hm:=k2 _ (Ad hx);have e:x.sub I.id0=x:=Aj.GO hm.2;have q:=BR.Asw (I:=I.id0) (fun _ _=>rfl) hm.1 (h2 x hx);rw[e]at q;exact q
 have ha':F2 (Bb J U) s.args vs:=by
  rw[<-k1];generalize s.args=l at ha;clear k1 hr IQ k5
  induction ha with
  |nil=>exact .nil
  |cons h0 _ ih=>exact .cons (Bb.Asx (I:=I.id0) (k:=kT) h0) ih
 refine (h J w vs IQ ha').mono ?_
 rintro v' w' ⟨J',h1,v,g2,g3,g4,g5⟩
 unfold Anj at g5;rw[Ah]at g5;obtain⟨g5,g6⟩:=g5;have g2:=AV.QH g5 g2;have Bl:∀b x,(Aa s.AX s.n1).get b=some x->CL x=false->(b,x)∈s.AX/\h1.get (I.g b)=some (x.sub I):=fun b x hx hd=>by
  have hm:=Ad hx;have:=Bf.1 g6 (b,x) hm;have this:(CL x||hasB h1 (I.g b) (x.sub I))=true:=this;rw[hd,Bool.false_or]at this;exact⟨hm,Cz this⟩
 have Dk:∀b,Live (Aa s.AX s.n1) b->Live h1 (I.g b)/\∃x,(b,x)∈s.AX/\CL x=false/\h1.get (I.g b)=some (x.sub I):=fun b ⟨x,hx,hd⟩=>by
  have hdd:CL x=false:=by cases hh:CL x with |false=>rfl|true=>exact absurd (Mr.1 hh) hd
  obtain⟨q1,q2⟩:=Bl b x hx hdd;exact⟨⟨_,q2,fun e=>hd (Aj.II e)⟩,x,q1,hdd,q2⟩
 have hrn:∀b,B0 s.AX b=true->Sy J J' I s.n (B0 s.AX) b=J' (I.g b):=by
  intro b hb;obtain⟨p,hp,e,hd⟩:=Et hb;subst e;unfold Sy
  by_cases Au:p.1<s.n
  ·rw[if_pos Au,((Qz p hp hd).1 Au),g4.CW p.1 Au]
  ·rw[if_neg Au,hb];rfl
 have DU:Sub (rn J' I.g (B0 s.AX)) (Sy J J' I s.n (B0 s.AX)):=by
  intro b x hb;obtain⟨q1,q2⟩:=Bc hb;rw[hrn b q1];exact q2
 have bagR:Hr (Sy J J' I s.n (B0 s.AX)) (I.sig U) (Aa s.AX s.n1) w':=by
  refine⟨fun b t hx=>g3.Am.rep _ _ (Bl b (.Am t) hx rfl).2,fun b t hx r hf=>?_,fun b t b' t' hx hx' Bs r hf hf'=>?_⟩
  ·obtain⟨q1,q2⟩:=g3.Am.free _ _ (Bl b (.Am t) hx rfl).2 r hf;refine⟨fun b' S hb=>?_,q2⟩;unfold Sy at hb;split at hb
   ·rename_i Au;exact q1 b' S ((g4.CW b' Au).trans hb)
   ·cases Mo:B0 s.AX b' with
    |false=>rw[Mo]at hb;cases hb
    |true=>rw[Mo]at hb;exact q1 _ S hb
  ·obtain⟨m1,e1⟩:=Bl b (.Am t) hx rfl;obtain⟨m2,e2⟩:=Bl b' (.Am t') hx' rfl;exact g3.Am.Vs _ _ _ _ e1 e2 (fun e=>Bs ((Qz _ m1 rfl).2.2 _ m2 rfl e)) r hf hf'
 refine⟨Sy J J' I s.n (B0 s.AX),Aa s.AX s.n1,(Bb.Fs k6 g2).mono DU,⟨?_,?_,?_,?_,bagR⟩,⟨k8,fun b hb=>if_pos hb,?_,g4.size,?_,fun r hr hn hf=>g4.frame r hr hn fun hx=>hf (hx.congr fun b t hx=>(hbg b t hx).symm),fun r ⟨b,t,hx,EJ⟩=>(g4.fo r ⟨I.g b,I.rp t,(Bl b (.Am t) hx rfl).2,EJ⟩).imp (fun h=>h) fun hx=>hx.congr fun b t hx=>(hbg b t hx).symm,g4.os,g4.tape,g4.output,g4.fz⟩,k4⟩
 ·intro b r S hb;show b<s.n1;unfold Sy at hb;split at hb
  ·omega
  ·cases Mo:B0 s.AX b with
   |false=>rw[Mo]at hb;cases hb
   |true=>obtain⟨p,hp,e,_⟩:=Et Mo;rw[<-e];exact hlt1 p hp
 ·intro b r S hb
  by_cases Mo:B0 s.AX b=true
  ·rw[hrn b Mo]at hb;obtain⟨o,q1,q2⟩:=g3.AE (I.g b) r S hb;refine⟨o,q1,fun x hx=>?_⟩;cases hd:CL x with
   |true=>rw[Mr.1 hd];trivial
   |false=>
    obtain⟨q3,q4⟩:=Bl b x hx hd;exact (BR.Fs (k3 _ q3) (k9 _ q3) (q2 _ q4)).mono DU
  ·have Au:b<s.n:=by
    apply Classical.byContradiction;intro hn;unfold Sy at hb;rw[if_neg hn,Bool.eq_false_iff.2 Mo]at hb;cases hb
   have AS:J' b=some (r,S):=by rw[g4.CW b Au];unfold Sy at hb;rw[if_pos Au]at hb;exact hb
   obtain⟨o,q1,_⟩:=g3.AE b r S AS;refine⟨o,q1,fun x hx=>?_⟩;cases hd:CL x with
   |true=>rw[Mr.1 hd];trivial
   |false=>exact absurd (K6 (Ad hx) hd) Mo
 ·intro b b' r S S' hb AS hv hv';obtain⟨v1,x,m1,d1,e1⟩:=Dk b hv;obtain⟨v2,x',m2,d2,e2⟩:=Dk b' hv';have DN:J' (I.g b)=some (r,S):=by rw[<-hrn b (K6 m1 d1)];exact hb
  have MA:J' (I.g b')=some (r,S'):=by rw[<-hrn b' (K6 m2 d2)];exact AS
  rcases g3.inj _ _ r S S' DN MA v1 v2 with e|⟨c,m,f,e⟩
  ·exact .inl ((Qz _ m1 d1).2.2 _ m2 d2 e)
  ·rw[e1]at e;exact absurd (Option.some.inj e) (Aj.QG (k3 _ m1))
 ·intro r o hk;refine⟨(g3.kept r o hk).1,fun b S hb=>?_⟩;unfold Sy at hb;split at hb
  ·exact (hr.kept r o hk).2 b S hb
  ·cases Mo:B0 s.AX b with
   |false=>rw[Mo]at hb;cases hb
   |true=>rw[Mo]at hb;exact (g3.kept r o hk).2 _ S hb
 ·intro b r S K8 hb;have K8:s.n<=b:=K8;unfold Sy at hb;rw[if_neg (show ¬b<s.n from Nat.not_lt.2 K8)]at hb;cases Mo:B0 s.AX b with
  |false=>rw[Mo]at hb;cases hb
  |true=>
   rw[Mo]at hb;have hb:J' (I.g b)=some (r,S):=hb;obtain⟨p,hp,e,hd⟩:=Et Mo;have h3:=(Qz p hp hd).2.1 (by rw[e];omega);rw[e]at h3
   by_cases Au:s.n<=I.g b
   ·exact g4.new (I.g b) r S Au hb
   ·right;have h4:=h3.resolve_left Au;obtain⟨q,hq,eq,hdq⟩:=Et h4;refine⟨I.g b,S,?_,?_⟩
    ·rw[<-g4.CW (I.g b) (show I.g b<s.n by omega)];exact hb
    ·have hqb:=g3.AE (I.g b) r S hb;cases hh:(Aa s.bl s.n).get (I.g b) with
     |some y=>
      refine⟨y,hh,fun ey=>?_⟩;have OI:Live h1 (I.g b):=by
       have:=Bf.1 g6 p hp;have this:(CL p.2||hasB h1 (I.g p.1) (p.2.sub I))=true:=this;rw[hd,Bool.false_or,e]at this;exact⟨_,Cz this,fun ed=>by rw[Aj.II ed]at hd;cases hd⟩
      obtain⟨y',FH,hd'⟩:=g4.live (I.g b) (show I.g b<s.n by omega) OI;rw[hh]at FH;cases FH;exact hd' ey
     |none=>
      exfalso;have OI:Live h1 (I.g b):=by
       have:=Bf.1 g6 p hp;have this:(CL p.2||hasB h1 (I.g p.1) (p.2.sub I))=true:=this;rw[hd,Bool.false_or,e]at this;exact⟨_,Cz this,fun ed=>by rw[Aj.II ed]at hd;cases hd⟩
      obtain⟨y',FH,_⟩:=g4.live (I.g b) (show I.g b<s.n by omega) OI;rw[hh]at FH;cases FH
 ·intro b Au hv;obtain⟨v1,x,m1,d1,_⟩:=Dk b hv;have OF:b<s.n:=Au;rw[(Qz _ m1 d1).1 OF]at v1;exact g4.live b Au v1
end Eng
end
