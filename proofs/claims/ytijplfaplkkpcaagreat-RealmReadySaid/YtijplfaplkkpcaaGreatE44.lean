/- The law's walk from Start's heap through its loop to its end. No conditions beside those in its theorems. -/
import Derived.Test.YtijplfaplkkpcaaGreatGL
import Derived.Test.YtijplfaplkkpcaaGreatLW0
import Derived.Test.YtijplfaplkkpcaaGreatLW2
import Derived.Test.YtijplfaplkkpcaaGreatE36
import Derived.Test.YtijplfaplkkpcaaGreatE37
import Derived.Test.YtijplfaplkkpcaaGreatQP
import Derived.Test.YtijplfaplkkpcaaGreatE24
set_option linter.unusedVariables false
set_option linter.unusedSimpArgs false
set_option linter.unusedSectionVars false
set_option linter.constructorNameAsVariable false
set_option maxRecDepth 100000
noncomputable section
namespace V
open Go Eng Go.Proofs
def ApW:BP:=e24.DP WD (i25.take 4)
def B6:D7:=match (i25.drop 4).head? with |some (Eng.Item.lp d t)=>Aa3 WD ApW d t|_=>Aa3 WD ApW ⟨0,0,[],[],0,[],0,0,[],[],[],.lit 0,.lit 0⟩ .nil
theorem Agr:e25.ls[13]? =some (B6,true):=by kernel_rfl
theorem Aj1:B6.ok WD:=(Afn.ls.mem _ (Oj Agr)).1
end V
section
open Go Eng Go.Proofs
namespace Eng
theorem Al.Yz{α:Type}{p:α->Prop}:∀{l:List α},(∀x∈l,p x)->Al p l
 | [],_=>.nil
 |_::_,h=>.cons (h _ GU) (Al.Yz fun x hx=>h x (Gq _ hx))
end Eng
namespace V
def lE:List E:=(List.range 98).map .var
def lN:List Nat:=List.range 98
def lG:List Nat:=List.range 25
def Ag3(s:St):Bool:=match eval (Is WD s) 400 X4 (.code kLp (frL B6.L)) (Aa B6.bl B6.n) with |some (.code .norm fr _)=>fr.marks.isEmpty|_=>false
theorem An4:knB (s0L B6) (Ki 98 98 lE lN lN lG) B6.cf B6.rd B6.mp (List.replicate 40 {})=true:=by decide +kernel
theorem An6:(Nat.beq B6.nh 98&&(Zt (s0L B6).base lE lN lN&&Nat.ble B6.nc B6.nh))=true:=by decide +kernel
theorem Aj5:(B6.outs.all fun o=>Ag3 ((s0L B6).loop WD B6 lE lN lN lG [] o))=true:=by decide +kernel
theorem Agw:∀U,B6.q U:=(Afn.ls.mem _ (Oj Agr)).2 rfl
theorem Agu:AA WD (s0L B6) fun s'=>Ag3 s'=true:=by
 have h1:=An6;rw[Ah]at h1;have hn:=beq_eq h1.1;have hb:(s0L B6).base=98:=hn;refine AA.loop B6 Aj1 lE lN lN lG [] (fun U hs=>?_) h1.2 (Al.Yz fun o ho=>AA.done (Bf.1 Aj5 o ho));have:=RU hs An4 Agw;rw[hb,hn];exact this
end V
end
section
open Go Eng Go.Proofs
namespace Eng
variable {P:Program} {C:AB} {U U':An} {J J':A1} {h:H} {w w':World} {n:Nat}
structure Kept(F:Nat->Prop)(w w':World):Prop where
 size:w.heap.size<=w'.heap.size
 heap:∀r,r<w.heap.size->¬F r->w'.heap[r]? =w.heap[r]?
 os:w'.os=w.os
 tape:w'.tape=w.tape
 output:w'.output=w.output
 fz:∀a,a.block<w.heap.size->w'.frozen? a=w.frozen? a
def AcM(J:A1)(U:An)(h:H)(w:World)(r:Nat):Prop:=(∃b S,J b=some (r,S))\/Fo U h w r
theorem Ext.kept{h':H}(hx:Ext U J J' h h' w w'):Kept (AcM J U h w) w w':=
 ⟨hx.size,fun r hr hn=>hx.frame r hr (fun b S hb _=>hn (.inl ⟨b,S,hb⟩)) fun hf=>hn (.inr hf),hx.os,hx.tape,hx.output,hx.fz⟩
theorem Fo.agree{bl:List (Nat×Aj)}{m:Nat}(hg:Ai n U U')(hb:(bl.all fun p=>p.2.lo n)=true){r:Nat}(hf:Fo U' (Aa bl m) w r):Fo U (Aa bl m) w r:=by
 obtain⟨b,t,h1,h2⟩:=hf;have:=Bf.1 hb _ (Ad h1);have this:(Nat.blt t.1 n&&Nat.blt t.2 n)=true:=this;rw[Ah]at this;refine⟨b,t,h1,?_⟩;have e:U'.B t=U.B t:=by
  show (U'.b t.1).at_ (U'.ro t.2)=(U.b t.1).at_ (U.ro t.2);rw[hg.b _ (AF this.1),hg.ro _ (AF this.2)]
 rw[e]at h2;exact h2
theorem Kept.mono{F G:Nat->Prop}(h:Kept F w w')(hfg:∀r,F r->G r):Kept G w w':=⟨h.size,fun r hr hn=>h.heap r hr fun hf=>hn (hfg r hf),h.os,h.tape,h.output,h.fz⟩
end Eng
namespace V
theorem Aj4:((B6.cf.all (PT B6.nh)&&(B6.rd.all (L6 B6.nh)&&B6.mp.all (L6 B6.nh)))&&((B6.bl.all fun p=>p.2.lo B6.nh)&&(B6.L.all fun p=>p.2.lo B6.nh)))=true:=by decide +kernel
theorem Aj6{U:An}(hi:B6.inv U){J:A1}{w:World}{a:Act}{b:Frame}(hx:LV (CS WD) J X4 b)(hr:Rel J U (CS WD) (Aa B6.bl B6.n) w)(hf:IX J U 98 10 (frL B6.L) a):
 El WD.P kLp b a w .norm fun a' w'=>(a'.defers=[]/\98<=a'.tmps.size)/\Kept (AcM J U (Aa B6.bl B6.n) w) w w':=by
 have hlo:=Aj4;simp only[Ah]at hlo;obtain⟨⟨l1,l2,l3⟩,l4,l5⟩:=hlo;have hs:UU WD (s0L B6) U:=fun Uq2 g2=>⟨hi.cf.PO (fun _ h1 h2=>A2.agree g2 h1 h2) l1,hi.rd.PO (fun _ h1 h2=>EO.agree g2 h1 h2) l2,Agw Uq2,.nil,.nil,.nil,.nil,.nil,.nil,.nil,.nil,hi.mp.PO (fun _ h1 h2=>HN.agree g2 h1 h2) l3⟩
 obtain⟨s',U',hq,hg,hs'⟩:=Agu U hs;have hg:Ai B6.nh U U':=hg;have Iy:=hs'.self;unfold Ag3 at hq;split at hq
 ·rename_i fr h' he;have hc:=(Jl (Qs BZ Iy) (Qx Iy) 400).1 X4 kLp _ _ _ _ _ he;have IQ:Rel J U' (Is WD s') (Aa B6.bl B6.n) w:=Rel.cfg (C:=CS WD) (C':=Is WD s') rfl (hr.agree hg l4);refine (hc J w a b ⟨hx.fi,hx.fn,hx.kind,hx.round⟩ IQ (hf.agree hg l5)).mono ?_
  rintro a' w' ⟨J',f1,_,f3⟩
  refine⟨⟨?_,f1.size⟩,f3.kept.mono fun r hr=>hr.imp id fun hf=>hf.agree hg l4⟩;have hm:=f1.marks;rw[List.isEmpty_iff.1 hq]at hm;generalize a'.defers=D at hm ⊢;cases hm;rfl
 ·cases hq
end V
end
section
open Go Eng Go.Proofs
namespace Eng
variable {P:Program} {C:AB} {U:An} {J:A1} {w:World}
theorem IF(hk:∀r o,U.k r=some o->w.heap[r]? =some o):Rel (fun _=>none) U C (Aa [] 0) w:=
 ⟨fun _ _ _ h=>(nomatch h),fun _ _ _ h=>(nomatch h),fun _ _ _ _ _ h=>(nomatch h),fun r o h=>⟨hk r o h,fun _ _ h=>(nomatch h)⟩,
  ⟨fun _ _ h=>(nomatch Ad h),fun _ _ h=>(nomatch Ad h),fun _ _ _ _ h=>(nomatch Ad h)⟩⟩
theorem Ld{r:Nat}(h:AcM (fun _=>none) U (Aa [] 0) w r):False:=by
 rcases h with ⟨_,_,h⟩|⟨_,_,h,_⟩
 ·cases h
 ·cases Ad h
end Eng
namespace Eng
theorem M3{x:OR}{k:FR->H->OR}{fr:FR}{h:H}(he:GY x k=some (.code .norm fr h)):∃fr1 h1,x=some (.code .norm fr1 h1)/\k fr1 h1=some (.code .norm fr h):=by
 obtain⟨o1,fr1,h1,e1,he⟩:=FC he;cases o1 with
 |norm=>exact⟨fr1,h1,e1,he⟩
 |exit id=>cases he
 |ret=>cases he
end Eng
namespace V
def G5(t:Nat):List Ck:=if t=530 then List.replicate 8 (.i .u64) else if t=560 then [.i .u64] else if t=520\/t=561 then List.replicate 9 (.i .i64) else if 551<=t/\t<=555 then JN else if t=562 then GS else if t=563 then List.replicate 2 (.i .i64) else if t=564 then [.i .i64,.n,.b] else if 500<=t/\t<=507 then [.i .i64] else []
def CO(t j c:Nat):Value:=match stL.rows.find? (fun p=>Nat.beq p.1 t) with
 |some p=>if c<p.2.2 then (match T.get p.2.1 (j*p.2.2+c) with |some a=>a.cv.getD undef|none=>ckD ((G5 t).getD c .u)) else ckD ((G5 t).getD c .u)
 |none=>ckD ((G5 t).getD c .u)
def sgB(v0:Value):An:={v:=fun _=>0,r:=fun t=>if t=640 then fun _ _=>v0 else CO t,m:=stL.sig.m,k:=fun _=>none,b:=fun _=>.no,ro:=fun _=>0}
theorem Aos:(stL.rows.find? fun p=>Nat.beq p.1 640).isNone=true:=by decide +kernel
theorem Ao2{U:An}(hr:∀t,t ≠ 640->U.r t=CO t)(hm:U.m=stL.sig.m):stL.on U:=by
 have h:=Iq.AnR (L:=stL) (U:={v:=fun _=>0,r:=stL.sig.r,m:=stL.sig.m,k:=fun _=>none,b:=fun _=>.no,ro:=fun _=>0}) rfl rfl;refine⟨fun t p hp j c a hc ha=>?_,fun t p hp=>by rw[hm];exact h.m t p hp⟩
 by_cases e:t=640
 ·subst e;have:=Aos;rw[hp]at this;cases this
 ·rw[hr t e];unfold CO;rw[hp];show (if c<p.2.2 then _ else _)=_;rw[if_pos hc,ha]
variable {v0:Value} {w:World} {a:Act} {b:Frame}
def Zx(b:Frame):Prop:=b.fn=4/\b.kind=.normal/\b.roundOf=none
theorem Zx.ctx(h:Zx b){C:AB}(hC:C.fu=WD.fu){J:A1}:LV C J X4 b:=by
 refine⟨?_,h.1,h.2.1,h.2.2⟩;have:(match WD.fu 4 with |some fi=>Nat.beq fi.nt 98&&Nat.beq fi.nl 10 |none=>false)=true:=by decide +kernel
 cases hf:WD.fu 4 with
 |none=>rw[hf]at this;cases this
 |some fi=>
  rw[hf]at this;rw[Ah]at this;exact⟨fi,by rw[hC];exact hf,beq_eq this.1,beq_eq this.2⟩
structure Aiq(v0:Value)(a:Act):Prop where
 size:98<=a.tmps.size
 s0:a.tmps[0]? =some v0
 one:v0.oneCell'=true
 defers:a.defers=[]
theorem Anm(h:Aiq v0 a):IX (fun _=>none) (sgB v0) 98 10 frB a:=by
 refine⟨h.size,fun t u _ hu=>?_,(fun t v _ hv=>nomatch hv),by rw[h.defers];exact .nil⟩;have hu:=T.CZ (show T.get (T.ofList [AV.one (.rc 640 (.lit 0) 0)]) t=some u from hu)
 match t,hu with
 | 0,hu=>
  cases hu;refine⟨v0,h.s0,?_,h.one⟩;show v0=(if (640:Nat)=640 then fun _ _=>v0 else CO 640:Nat->Nat->Value) 0 0;rw[if_pos rfl]
 |t+1,hu=>cases hu
def StP(v0:Value)(w:World)(fr:FR)(h:H)(a1:Act)(w1:World):Prop:=∃Jq1,IX Jq1 (sgB v0) 98 10 fr a1/\Rel Jq1 (sgB v0) (CS WD) h w1/\Ext (sgB v0) (fun _=>none) Jq1 hB h w w1
theorem SO{fr DM:FR}{h h':H}{c:Code}{a1:Act}{w1:World}(hb:Zx b)(hp:StP v0 w fr h a1 w1)(he:eval (CS WD) 400 X4 (.code c fr) h=some (.code .norm DM h')):El WD.P c b a1 w1 .norm (StP v0 w DM h'):=by
 obtain⟨Jq1,f1,r1,x1⟩:=hp;have hc:=(Jl (Vm (U:=sgB v0) BZ) Vy 400).1 X4 c fr h .norm DM h' he;refine (hc Jq1 w1 a1 b (hb.ctx rfl) r1 f1).mono ?_
 rintro a2 w2 ⟨Jq2,f2,r2,x2⟩
 exact⟨Jq2,f2,r2,x1.trans (IF (C:=CS WD) fun _ _ h=>nomatch h) r1 x2⟩
structure St1(v0:Value)(w:World)(Jq1:A1)(a1:Act)(w1:World):Prop where
 rel:Rel Jq1 (sgB v0) (CS WD) (Aa stB stN) w1
 new:∀c r S,Jq1 c=some (r,S)->w.heap.size<=r
 kept:Kept (fun _=>False) w w1
 act:Aiq v0 a1
 s3:∃r S,Jq1 43=some (r,S)/\a1.tmps[3]? =some (.pointer (some ⟨r,0,none⟩))
 s5:a1.tmps[5]? =some (.int .i64 0)
theorem JE{fr:FR}{i:Nat}{v:AV}(h:LR fr i v=true):T.get fr.pt i=some v:=by
 unfold LR at h;cases hg:T.get fr.pt i with
 |none=>rw[hg]at h;cases h
 |some u=>rw[hg]at h;rw[AV.Ac h]
theorem AaU(hb:Zx b)(ha:Aiq v0 a){Q2 Q:Act->World->Prop}{o:Out}(hL:∀Jq1 a1 w1,St1 v0 w Jq1 a1 w1->El WD.P kLp b a1 w1 .norm Q2)(hE:∀a2 w2,Q2 a2 w2->El WD.P Aay b a2 w2 o Q):
 El WD.P (.seq kR3 (.seq kS4 (.seq (.seq kR6 kLp) Aay))) b a w o Q:=by
 have Ke:=Asn;obtain⟨r,hr⟩:∃r,ev3=r:=⟨_,rfl⟩
 rw[hr]at Ke;have h0:StP v0 w frB hB a w:=⟨fun _=>none,Anm ha,IF fun _ _ h=>(nomatch h),Ext.refl _ _ _ (IF (C:=CS WD) fun _ _ h=>(nomatch h))⟩;obtain⟨fr,h,he,Ke⟩:∃fr h,r=some (.code .norm fr h)/\(((stB.all fun p=>hasB h p.1 p.2)&&(Gc stB stN&&Nat.ble h.next stN))&&(LR fr 0 (.one (.rc 640 (.lit 0) 0))&&(LR fr 3 (.one (.ptr 43 0))&&(LR fr 5 (.one (.int .i64 0))&&fr.marks.isEmpty))))=true:=by
  clear hr;unfold AlO at Ke;split at Ke
  ·rename_i fr h;exact⟨fr,h,rfl,Ke⟩
  ·cases Ke
 obtain⟨fr1,h1,e1,he⟩:=M3 (hr.trans he);obtain⟨fr2,h2,e2,e3⟩:=M3 he;refine (SO hb h0 e1).Aee fun a1 w1 p1=>(SO hb p1 e2).Aee fun a2 w2 p2=>((SO hb p2 e3).Aee fun a3 w3 p3=>?_).Aee hE
 obtain⟨Jq3,f3,r3,x3⟩:=p3;simp only[Ah]at Ke;obtain⟨⟨k1,k2,k3⟩,k4,k5,k6,k7⟩:=Ke;have Bl:∀p∈stB,h.get p.1=some p.2:=fun p hp=>Cz (Bf.1 k1 p hp)
 obtain⟨v3,g1,g2⟩:=f3.pt 0 _ (by decide) (JE k4);obtain⟨v4,g3,r,S,g4,g5⟩:=f3.pt 3 _ (by decide) (JE k5);obtain⟨v5,g6,g7⟩:=f3.pt 5 _ (by decide) (JE k6);have g7:v5=.int .i64 0:=g7;have g2:v3=v0:=by
  rw[show v3=(sgB v0).r 640 0 0 from g2.1];show (if (640:Nat)=640 then fun _ _=>v0 else CO 640:Nat->Nat->Value) 0 0=v0;rw[if_pos rfl]
 refine hL (Eng.AL Jq3 (Ae stB)) a3 w3 ⟨r3.forget Bl k2,fun c r S hc=>?_,?_,⟨f3.size,by rw[g1,g2],ha.one,?_⟩,⟨r,S,?_,by rw[g3,g5]⟩,by rw[g6,g7]⟩
 ·rcases x3.new c r S (Nat.zero_le _) (As hc).2 with h|⟨_,_,h,_⟩
  ·exact h
  ·cases h
 ·exact x3.kept.mono fun r hr=>Ld hr
 ·have hm:=f3.marks;rw[List.isEmpty_iff.1 k7]at hm;generalize a3.defers=D at hm ⊢;cases hm;rfl
 ·rw[BT (by decide +kernel)];exact g4
end V
end
namespace V
open Go Eng Go.Proofs
def atB(b i:Nat):E:=match (Aa Ti stM).get b with |some (.cells c _ _ _)=>(match T.get c i with |some (.int _ n)=>.lit n|some (.bool x)=>.lit (if x then 1 else 0)|_=>.lit 0)|_=>.lit 0
def ix(l:List Nat)(b:Nat):Nat:=l.getD b 0
def sM:Sb:={s:=.var,r:=fun _=>530,m:=fun t=>t,g:=ix [1,0]}
def sA:Sb:={s:=fun i=>if i=0 then .lit 16 else atB 9 (i-1),r:=fun _=>520,m:=fun t=>t,g:=ix [9,914]}
def sP:Sb:={s:=fun i=>atB 18 i,r:=fun t=>t,m:=fun t=>t,g:=ix [18]}
def sT:Sb:={s:=.var,r:=fun t=>t,m:=fun _=>510,g:=ix [20,19]}
def sQ:Sb:={s:=fun i=>if i=0 then .lit 2 else .lit 0,r:=fun t=>492+t,m:=fun t=>t,g:=ix [21,2774,2866,2867,2868,2869,2870,2871,2872]}
def sR:Sb:={s:=.var,r:=fun _=>600,m:=fun t=>t,g:=ix [16,14,1025,2355,1066,2210,1108,1150,2485,1192,1234,1276,1947,1810,1318,1360,1402,1444,2080,1486,1528,1570,1622,2630,1664,1716]}
def sE:Sb:={s:=.var,r:=fun t=>t,m:=fun t=>t,g:=ix [294]}
def sW(b t n:Nat):Sb:={s:=fun _=>.lit (.ofNat n),r:=fun _=>t,m:=fun t=>t,g:=ix [b]}
def psE:List (ME×Sb):=[(⟨.one (.int .i64 13),.one (.ptr 294 0),0⟩,sE)]
def psW:List (ME×Sb):=[(⟨.one (.int .i64 1),.one (.C2 61 8 (.lit 3)),0⟩,sW 61 551 3),(⟨.one (.int .i64 2),.one (.C2 89 8 (.lit 16)),1⟩,sW 89 552 16),(⟨.one (.int .i64 8),.one (.C2 185 8 (.lit 3)),2⟩,sW 185 553 3),(⟨.one (.int .i64 9),.one (.C2 239 8 (.lit 16)),3⟩,sW 239 554 16),(⟨.one (.int .i64 32),.one (.C2 921 8 (.lit 2)),4⟩,sW 921 555 2)]
def hT:H:=Aa Ti stM
theorem c_M:Qd Za.D sM hT=true:=by decide +kernel
theorem c_A:Qd KN.D sA hT=true:=by decide +kernel
theorem c_P:Qd Zb.D sP hT=true:=by decide +kernel
theorem c_T:Qd Hm.D sT hT=true:=by decide +kernel
theorem c_Q:Qd IU.D sQ hT=true:=by decide +kernel
theorem c_R:Qd Zc.D sR hT=true:=by decide +kernel
theorem c_E:Ajj ⟨YZ.D,.ptr 0 0⟩ 23 22 1 psE Ti stM=true:=by decide +kernel
theorem c_W:Ajj ⟨SH.D,.C2 0 8 (.var 0)⟩ 13 12 5 psW Ti stM=true:=by decide +kernel
end V
namespace V
open Go Eng Go.Proofs
def kN:List Nat:=[40,995,66,99,210,269,993]
def fE:Be:=⟨YZ.D,.ptr 0 0⟩
def fW:Be:=⟨SH.D,.C2 0 8 (.var 0)⟩
def shK(D:Shape)(S:Sb):List Nat:=D.bl.map fun p=>S.g p.1
def thL(pM pA pP pT pQ pE pS pR pN:CH):List Tq:=[⟨pM,sM.g 0,shK Za.D sM,2900,400,408⟩,⟨pA,sA.g 0,shK KN.D sA,2901,401,409⟩,⟨pP,sP.g 0,shK Zb.D sP,2902,402,410⟩,⟨pT,sT.g 0,shK Hm.D sT,2903,403,411⟩,⟨pQ,sQ.g 0,shK IU.D sQ,2904,404,412⟩,
 ⟨pE,23,(Ajk fE 23 22 psE).flatten,2905,405,413⟩,⟨pS,13,(Ajk fW 13 12 psW).flatten,2906,406,414⟩,⟨pR,sR.g 0,shK Zc.D sR,2907,407,415⟩,⟨pN,40,kN,2908,427,428⟩]
def AcV:List (Nat×Aj):=[(2900,.Am (400,408)),(2901,.Am (401,409)),(2902,.Am (402,410)),(2903,.Am (403,411)),(2904,.Am (404,412)),(2905,.Am (405,413)),(2906,.Am (406,414)),(2907,.Am (407,415)),(2908,.Am (427,428))]
theorem Abj(pM pA pP pT pQ pE pS pR pN:CH):(thL pM pA pP pT pQ pE pS pR pN).map (fun c=>(c.key,Aj.Am (c.t,c.o)))=AcV:=rfl
theorem AhE(pM pA pP pT pQ pE pS pR pN:CH):V1 Ti stM stX (thL pM pA pP pT pQ pE pS pR pN)=true:=by kernel_rfl
def stS:Sb:={
 s:=fun i=>if i=17 then .lit 1 else if i=19 then .lit 2 else if i=21 then .lit 2 else if i=23 then .lit 1 else if i=25 then .lit 16 else if i=95 then .var 701 else if 31<=i/\i<=94 then atB 33 (i-29) else .lit 0
 r:=fun t=>if t<8 then 400+t else if t=16 then 616 else if t=30 then 630 else if t=20 then 562 else if t=22 then 563 else if t=24 then 564 else if t=26 then 561 else if t=29 then 560 else if t=27 then 427 else 702
 m:=fun t=>400+t
 g:=ix [43,11,17,10,2900,2901,2902,2903,2904,2905,2906,2907,39,25,24,33,984,35,2779,36,2783,37,323,42,2908]}
theorem AhD:Tw stS B6.bl B6.n (Aa (stX++AcV) 2920)=true:=by decide +kernel
end V
section
open Go Eng Go.Proofs
namespace Eng
variable {C:AB} {U:An} {J:A1} {w:World} {bl:List (Nat×Aj)} {n:Nat}
theorem Rel.Qr(hr:Rel J U C (Aa bl n) w){b m:Nat}{c:T A}{f:Bool}{s:Option Nat}(hg:(Aa bl n).get b=some (.cells c m f s)){r S:Nat}(hρ:J b=some (r,S)):
 ∃(cs:Array Value) (ty:TypeId),w.heap[r]? =some (.cells cs ty (0,0))/\cs.size=S/\m<=S/\(f=true->m=S)/\∀i a,i<m->T.get c i=some a->∃v,cs[i]? =some v/\AR J U a v:=by
 obtain⟨o,ho,hx⟩:=hr.AE b r S hρ;obtain⟨cs,ty,rfl,h2,h3,h4,h5⟩:=hx _ hg;exact⟨cs,ty,ho,h2,h3,h4,h5⟩
theorem Rel.ne(hr:Rel J U C (Aa bl n) w)(hp:(bl.all fun p=>OV p.2)=true){b b' r r' S S':Nat}(h:J b=some (r,S))(h':J b'=some (r',S'))(hl:Live (Aa bl n) b)(Py:Live (Aa bl n) b')(Bs:b ≠ b'):r ≠ r':=fun e=>by
 subst e;rcases hr.inj b b' r S S' h h' hl Py with e|e
 ·exact Bs e
 ·exact Le hp e
theorem Rel.ArC(hr:Rel J U C (Aa bl n) w){b m i b':Nat}{c:T A}{f:Bool}{s:Option Nat}(hρ:∃r S,J b=some (r,S))(hg:(Aa bl n).get b=some (.cells c m f s))(hi:i<m)(hc:T.get c i=some (.ptr b' 0)):∃r S,J b'=some (r,S):=by
 obtain⟨r,S,h⟩:=hρ;obtain⟨cs,ty,_,_,_,_,h5⟩:=hr.Qr hg h;obtain⟨v,_,r',S',h2,_⟩:=h5 i _ hi hc;exact⟨r',S',h2⟩
end Eng
namespace V
def LL:List (Int×Nat×Nat):=[(1,66,3),(2,99,16),(8,210,3),(9,269,16),(32,993,2)]
def nId(j:Nat):Int:=(LL.getD j (0,0,0)).1
def Un(j:Nat):Nat:=(LL.getD j (0,0,0)).2.1
def nNn(j:Nat):Nat:=(LL.getD j (0,0,0)).2.2
def AiH(b n:Nat):Bool:=match hT.get b with |some (.cells c m true none)=>Nat.beq m (n*8)&&(List.range (n*8)).all fun i=>(match T.get c i with |some (.int k _)=>Gt (.i k) (EE.getD (i % 8) .u)|_=>false)|_=>false
def AgE:List A:=[.int .i64 1,.slice 66 0 3 3,.int .i64 2,.slice 99 0 16 16,.int .i64 8,.slice 210 0 3 3,.int .i64 9,.slice 269 0 16 16,.int .i64 32,.slice 993 0 2 2]
theorem All:hasB hT 40 (BK [.C2 995 2 (.lit 5)])=true:=by decide +kernel
theorem AgD:hasB hT 995 (.cells (T.ofList AgE) 10 false none)=true:=by decide +kernel
theorem AnK:((List.range 5).all fun j=>AiH (Un j) (nNn j))=true:=by decide +kernel
theorem AbS:(Ti.all fun p=>OV p.2)=true:=by decide +kernel
theorem Alm:∀j,j<5->T.get (T.ofList AgE) (j*2)=some (.int .i64 (nId j))/\T.get (T.ofList AgE) (j*2+1)=some (.slice (Un j) 0 (nNn j) (nNn j))/\1<=nNn j/\nNn j<=16
 | 0,_=>⟨rfl,rfl,by decide,by decide⟩
 | 1,_=>⟨rfl,rfl,by decide,by decide⟩
 | 2,_=>⟨rfl,rfl,by decide,by decide⟩
 | 3,_=>⟨rfl,rfl,by decide,by decide⟩
 | 4,_=>⟨rfl,rfl,by decide,by decide⟩
 |n+5,h=>absurd h (by omega)
theorem Aa7:∀i,i<5->∀j,j<5->(nId i=nId j->i=j)/\(Un i=Un j->i=j)/\Un i ≠ 40/\Un i ≠ 995:=by decide
def Ael(J:A1)(w:World)(z:Int):Option Bool:=(LL.find? fun p=>decide (p.1=z)).map fun p=>CA w ((J p.2.1).elim 0 (·.1)) p.2.2
theorem Akt{J:A1}{w:World}:∀j,j<5->Ael J w (nId j)=some (CA w ((J (Un j)).elim 0 (·.1)) (nNn j))
 | 0,_=>rfl
 | 1,_=>rfl
 | 2,_=>rfl
 | 3,_=>rfl
 | 4,_=>rfl
 |n+5,h=>absurd h (by omega)
theorem Zh{J:A1}{w:World}{z:Int}(h:(Ael J w z).isSome=true):∃j,j<5/\nId j=z:=by
 unfold Ael at h;rw[Option.isSome_map]at h;obtain⟨p,hp⟩:=Option.isSome_iff_exists.1 h;have h1:=List.mem_of_find?_eq_some hp;have h2:=of_decide_eq_true (List.find?_some (p:=fun (p:Int×Nat×Nat)=>decide (p.1=z)) hp);obtain⟨j,hj,e⟩:=List.getElem_of_mem h1;have hj:j<5:=hj;refine⟨j,hj,?_⟩;unfold nId;rw[Iw,List.getElem?_eq_getElem (show j<LL.length from hj),<-h2,<-e];rfl
theorem Alg{b:Nat}{x:Aj}(h:hasB hT b x=true)(hd:x ≠ .dead):Live hT b:=⟨x,Cz h,hd⟩
theorem WY{b n:Nat}(h:AiH b n=true):∃c,hT.get b=some (.cells c (n*8) true none)/\∀i,i<n*8->∃k z,T.get c i=some (.int k z)/\EE.getD (i % 8) .u=.i k:=by
 unfold AiH at h;split at h
 ·rename_i c m hg;rw[Ah]at h;have:=beq_eq h.1;subst this;refine⟨c,hg,fun i hi=>?_⟩;have:=Bf.1 h.2 i (List.mem_range.2 hi);split at this
  ·rename_i k z hz;exact⟨k,z,hz,(Er this).symm⟩
  ·cases this
 ·cases h
theorem Aa9{J:A1}{U:An}{w:World}(hr:Rel J U (CS WD) (Aa Ti stM) w){ro S0:Nat}(h0:J 40=some (ro,S0)):(Tq.mk (D0 (Ael J w)) 40 kN 2908 427 428).Du J (Aa Ti stM) w:=by
 obtain⟨cs,ty,g1,g2,_,g4,g5⟩:=hr.Qr (Cz All) h0;have g4:1=S0:=g4 rfl;obtain⟨v,e1,p,N,k,rfl,eN,ep⟩:=g5 0 (.C2 995 2 (.lit 5)) (by decide) rfl;have eN:(N:Int)=5:=eN;obtain rfl:N=5:=by omega
 rcases ep with ⟨_,h,_⟩|⟨r,S,hρ,rfl,hk,hle⟩
 ·cases h
 obtain⟨cs2,ty2,f1,f2,f3,_,f5⟩:=hr.Qr (Cz AgD) hρ;have Ix:cs= #[.slice (some ⟨r,0,none⟩) 5 k]:=by
  apply Array.ext_getElem?;intro i
  match i with
  | 0=>rw[e1];rfl
  |i+1=>rw[Array.getElem?_eq_none (by omega),Array.getElem?_eq_none (by simp)]
 subst Ix;have c0:cellAt w ro 0=some (.slice (some ⟨r,0,none⟩) 5 k):=by rw[Bi g1];rfl
 have hN:Co w ro=5:=by unfold Co;rw[c0]
 have hR:Cy w ro=some r:=by unfold Cy;rw[c0];rfl
 have l40:Live (Aa Ti stM) 40:=Alg All (by simp[BK]);have l995:Live (Aa Ti stM) 995:=Alg AgD (by simp);have Fm:∀j,j<5->AiH (Un j) (nNn j)=true:=fun j hj=>Bf.1 AnK j (List.mem_range.2 hj)
 have lB:∀j,j<5->Live (Aa Ti stM) (Un j):=fun j hj=>by
  obtain⟨c,hc,_⟩:=WY (Fm j hj);exact⟨_,hc,by simp⟩
 have el:∀j,j<5->∃q S,J (Un j)=some (q,S)/\cs2[j*2]? =some (.int .i64 (nId j))/\cs2[j*2+1]? =some (.slice (some ⟨q,0,none⟩) (nNn j) (nNn j)):=fun j hj=>by
  obtain⟨q1,q2,_,_⟩:=Alm j hj;obtain⟨v1,a1,a2⟩:=f5 (j*2) _ (by omega) q1;obtain⟨v2,b1,q,S',b2,b3⟩:=f5 (j*2+1) _ (by omega) q2;exact⟨q,S',b2,by rw[a1,show v1=_ from a2],by rw[b1,b3]⟩
 have hId:∀j,j<5->BJ w ro j=nId j:=fun j hj=>by
  obtain⟨q,S',_,h1,_⟩:=el j hj;unfold BJ CG;rw[hR];show (match cellAt w r (j*2) with |some v=>numOf v|none=>0)=_;rw[Bi f1,h1];rfl
 have hSl:∀j,j<5->∃q S,J (Un j)=some (q,S)/\HT w ro j=some q:=fun j hj=>by
  obtain⟨q,S',h0,_,h1⟩:=el j hj;refine⟨q,S',h0,?_⟩;unfold HT CG;rw[hR];show (cellAt w r (j*2+1)).bind CM=_;rw[Bi f1,h1];rfl
 refine⟨ro,S0,h0,⟨⟨ty,_,k,by rw[hN];exact g1,.inr ⟨r,cs2,ty2,rfl,?_,f1,by rw[hk,f2],?_⟩⟩,?_,?_,?_⟩,?_,?_⟩
 ·exact (hr.ne AbS h0 hρ l40 l995 (by decide)).symm
 ·refine⟨by rw[hN];exact hle,fun j hj=>?_⟩;rw[hN]at hj;obtain⟨q,S',a1,a2,a3⟩:=el j hj;obtain⟨_,_,n1,n2⟩:=Alm j hj;obtain⟨i1,i2⟩:=(Aa7 j hj j hj).2.2;refine⟨nId j,q,nNn j,nNn j,a2,a3,hr.ne AbS a1 h0 (lB j hj) l40 i1,hr.ne AbS a1 hρ (lB j hj) l995 i2,⟨⟨n1,n2⟩,Nat.le_refl _,?_⟩,?_⟩
  ·obtain⟨c,hc,PW⟩:=WY (Fm j hj);obtain⟨cs3,ty3,b1,b2,b3,b4,b5⟩:=hr.Qr hc a1;refine⟨cs3,ty3,b1,by rw[b2];exact b4 rfl,fun i c' hi hc'=>?_⟩;obtain⟨kd,z,k1,k2⟩:=PW (i*8+c') (by omega);obtain⟨v,v1,v2⟩:=b5 (i*8+c') _ (by omega) k1;have v2:v=.int kd z:=v2;refine⟨v,v1,by rw[v2];rfl,?_⟩;rw[show (i*8+c') % 8=c' by omega]at k2;rw[k2,v2];exact⟨z,rfl⟩
  ·rw[Akt j hj,a1];rfl
 ·intro i j hi hj e;rw[hN]at hi hj;rw[hId i hi,hId j hj]at e;exact (Aa7 i hi j hj).1 e
 ·intro z hz;obtain⟨j,hj,e⟩:=Zh hz;exact⟨j,by rw[hN];exact hj,by rw[hId j hj];exact e⟩
 ·intro i j hi hj e;rw[hN]at hi hj;obtain⟨q,S1,a1,a2⟩:=hSl i hi;obtain⟨q',S2,b1,b2⟩:=hSl j hj;rw[a2,b2]at e;have e:q=q':=Option.some.inj e
  by_cases hij:Un i=Un j
  ·exact (Aa7 i hi j hj).2.1 hij
  ·exact absurd e (hr.ne AbS a1 b1 (lB i hi) (lB j hj) hij)
 ·rintro y (e|e|⟨j,hj,e⟩)
  ·exact⟨40,by simp[kN],S0,by rw[e];exact h0⟩
  ·rw[hR]at e;cases e;exact⟨995,by simp[kN],S,hρ⟩
  ·rw[hN]at hj;obtain⟨q,S',a1,a2⟩:=hSl j hj;rw[a2]at e;cases e;refine⟨Un j,?_,S',a1⟩;show Un j∈kN
   match j,hj with
   | 0,_=>simp[kN,Un,LL]
   | 1,_=>simp[kN,Un,LL]
   | 2,_=>simp[kN,Un,LL]
   | 3,_=>simp[kN,Un,LL]
   | 4,_=>simp[kN,Un,LL]
   |n+5,h=>omega
 ·intro b hb;have hb:b∈kN:=hb;simp only[kN,BL,List.mem_nil_iff,or_false]at hb;rcases hb with rfl|rfl|rfl|rfl|rfl|rfl|rfl
  ·exact l40
  ·exact l995
  ·exact lB 0 (by decide)
  ·exact lB 1 (by decide)
  ·exact lB 2 (by decide)
  ·exact lB 3 (by decide)
  ·exact lB 4 (by decide)
end V
end
section
open Go Eng Go.Proofs
namespace Eng
variable {C:AB} {U:An} {J:A1} {w:World} {bl:List (Nat×Aj)} {n:Nat}
def SG(U:An)(k:Nat->Option Obj):An:={U with k:=k}
theorem E.Rh{k:Nat->Option Obj}:∀e:E,e.den (SG U k)=e.den U:=by
 intro e
 induction e with
 |lit n=>rfl
 |var i=>rfl
 |bin o q a b iha ihb=>simp only[E.den,iha,ihb]
 |conv q a ih=>simp only[E.den,ih]
 |cell t a c ih=>simp only[E.den,ih];rfl
 |Bd t a c ih=>simp only[E.den,ih];rfl
theorem AR.SG{k:Nat->Option Obj}(h0:∀r,U.k r=none){a:A}{v:Value}(h:AR J U a v):AR J (Eng.SG U k) a v:=by
 cases a with
 |P3 t es n=>
  obtain⟨p,N,q,h1,h2,h3⟩:=h;refine⟨p,N,q,h1,by rw[E.Rh];exact h2,?_⟩;rcases h3 with h3|⟨r,o,_,cs,ty,z,h4,_⟩
  ·exact .inl h3
  ·rw[h0]at h4;cases h4
 |NB t e es c=>
  obtain⟨r,o,N,Jzz,_,_,_,cs,ty,z,h4,_⟩:=h;rw[h0]at h4;cases h4
 |fp t=>exact h
 |_=>simp only[AR,E.Rh]at h ⊢;exact h
def AiC(x:Aj):Bool:=match x with |.cells .. =>true|.row _ _ _ []=>true|.Am _=>true|_=>false
theorem BR.SG{k:Nat->Option Obj}(h0:∀r,U.k r=none){x:Aj}{o:Obj}{S:Nat}(hx:AiC x=true)(h:BR J U C x o S):BR J (Eng.SG U k) C x o S:=by
 unfold AiC at hx;split at hx
 ·obtain⟨cs,e,h1,h2,h3,h4,h5⟩:=h;exact⟨cs,e,h1,h2,h3,h4,fun i a hi ha=>let ⟨v,q1,q2⟩:=h5 i a hi ha;⟨v,q1,q2.SG h0⟩⟩
 ·obtain⟨cs,ty,N,h1,h2,h3,h4,h5,_,h7⟩:=h;exact⟨cs,ty,N,h1,h2,by rw[E.Rh];exact h3,h4,h5,(fun p hp=>nomatch hp),h7⟩
 ·exact h.elim
 ·cases hx
theorem Rel.SG{k:Nat->Option Obj}(hr:Rel J U C (Aa bl n) w)(hs:(bl.all fun p=>AiC p.2)=true)(h0:∀r,U.k r=none)(hk:∀r o,k r=some o->w.heap[r]? =some o/\¬AcM J U (Aa bl n) w r):Rel J (Eng.SG U k) C (Aa bl n) w:=by
 refine⟨hr.lt,fun b r S hb=>?_,hr.inj,fun r o hko=>⟨(hk r o hko).1,fun b S hb=>(hk r o hko).2 (.inl ⟨b,S,hb⟩)⟩,⟨fun b t hg=>hr.Am.rep b t hg,fun b t hg r hf=>⟨(hr.Am.free b t hg r hf).1,?_⟩,fun b t b' t' hg HZ Bs r hf=>hr.Am.Vs b t b' t' hg HZ Bs r hf⟩⟩
 ·obtain⟨o,ho,hx⟩:=hr.AE b r S hb;exact⟨o,ho,fun x hg=>BR.SG h0 (Bf.1 hs _ (Ad hg)) (hx x hg)⟩
 ·show k r=none;cases hkr:k r with
  |none=>rfl
  |some o=>exact absurd (.inr ⟨b,t,hg,hf⟩) (hk r o hkr).2
end Eng
namespace V
def Aoc(J:A1)(t c:Nat):Value:=match Aku.find? (fun p=>Nat.beq p.1 t&&Nat.beq p.2.1 c) with |some p=>Wi J p.2.2 |none=>undef
def IH(v0:Value)(J:A1)(N:Int)(rw:Nat->Nat->Value):An:={v:=fun i=>if i=701 then N else 0,r:=fun t=>if t=702 then rw else if t=616\/t=630\/t=600 then fun _ c=>Aoc J t c else (sgB v0).r t,m:=stL.sig.m,k:=fun _=>none,b:=fun _=>.no,ro:=fun _=>0}
variable {v0:Value} {J:A1} {N:Int} {BO:Nat->Nat->Value} {w w1:World} {a1:Act}
theorem Aef:Ai 600 (sgB v0) (IH v0 J N BO):=by
 refine⟨fun i hi=>?_,fun t ht=>?_,fun _ _=>rfl,rfl,fun _ _=>rfl,fun _ _=>rfl⟩
 ·show (if i=701 then N else 0)=0;rw[if_neg (by omega)]
 ·show (if t=702 then BO else if t=616\/t=630\/t=600 then fun _ c=>Aoc J t c else (sgB v0).r t)=_;rw[if_neg (by omega),if_neg (by omega)]
theorem Akn:∀p∈Aku,(IH v0 J N BO).r p.1 0 p.2.1=Wi J p.2.2:=by
 intro p hp;simp only[Aku,BL,List.mem_nil_iff,or_false]at hp;rcases hp with rfl|rfl|rfl|rfl|rfl|rfl<;>rfl
def Aht(J:A1)(b:Nat):Nat:=(J b).elim 0 (·.1)
theorem Hj{b:Nat}(h:∃r S,J b=some (r,S)):∃S,J b=some (Aht J b,S):=by
 obtain⟨r,S,h⟩:=h;exact⟨S,by unfold Aht;rw[h];rfl⟩
def Ux(J:A1)(U:An)(w:World):List Tq:=thL (Za.D.Am WD (sM.sig U)) (KN.D.Am WD (sA.sig U)) (Zb.D.Am WD (sP.sig U)) (Hm.D.Am WD (sT.sig U)) (IU.D.Am WD (sQ.sig U)) (fE.Am WD (JR U psE)) (fW.Am WD (JR U psW)) (Zc.D.Am WD (sR.sig U)) (D0 (Ael J w))
def sg2(J:A1)(U:An)(w:World):An:={U with b:=fun t=>((Ux J U w).find? fun c=>Nat.beq c.t t).elim .no (·.P),ro:=fun o=>((Ux J U w).find? fun c=>Nat.beq c.o o).elim 0 fun c=>Aht J c.b0}
structure WJ(J:A1):Prop where
 h1:∃r S,J 1=some (r,S)
 h9:∃r S,J 9=some (r,S)
 h18:∃r S,J 18=some (r,S)
 h20:∃r S,J 20=some (r,S)
 h21:∃r S,J 21=some (r,S)
 h23:∃r S,J 23=some (r,S)
 h13:∃r S,J 13=some (r,S)
 h16:∃r S,J 16=some (r,S)
 h40:∃r S,J 40=some (r,S)
def My(b i b':Nat):Bool:=match hT.get b with |some (.cells c m _ _)=>Nat.blt i m&&(match T.get c i with |some a=>A.AJ a (.ptr b' 0)|none=>false)|_=>false
theorem DX{U:An}{b i b':Nat}(hr:Rel J U (CS WD) (Aa Ti stM) w)(h:My b i b'=true)(hρ:∃r S,J b=some (r,S)):∃r S,J b'=some (r,S):=by
 unfold My at h;split at h
 ·rename_i c m f s hg;rw[Ah]at h;cases ha:T.get c i with
  |none=>rw[ha]at h;cases h.2
  |some a=>
   rw[ha]at h;exact hr.ArC hρ hg (AF h.1) (by rw[ha,A.Ac h.2])
 ·cases h
theorem AuR:(My 43 0 11&&(My 43 1 39&&(My 11 0 1&&(My 11 2 9&&(My 11 3 17&&(My 11 4 18&&(My 11 5 20&&(My 11 6 21&&(My 11 7 23&&(My 17 0 13&&(My 17 1 16&&(My 39 3 42&&My 42 0 40))))))))))))=true:=by decide +kernel
theorem Aq7{U:An}(hr:Rel J U (CS WD) (Aa Ti stM) w)(h:∃r S,J 43=some (r,S)):WJ J:=by
 have hp:=AuR;simp only[Ah]at hp;obtain⟨p1,p2,p3,p4,p5,p6,p7,p8,p9,p10,p11,p12,p13⟩:=hp;have Xl:=DX hr p1 h;have e39:=DX hr p2 h;have e17:=DX hr p5 Xl;have e42:=DX hr p12 e39;exact⟨DX hr p3 Xl,DX hr p4 Xl,DX hr p6 Xl,DX hr p7 Xl,DX hr p8 Xl,DX hr p9 Xl,DX hr p10 e17,DX hr p11 e17,DX hr p13 e42⟩
theorem PF{U:An}(hr:Rel J U (CS WD) (Aa Ti stM) w)(hk:∀r,U.k r=none)(h:WJ J):∀c∈Ux J U w,c.Du J (Aa Ti stM) w:=by
 obtain⟨⟨_,_,e1⟩,⟨_,_,e9⟩,⟨_,_,e18⟩,⟨_,_,e20⟩,⟨_,_,e21⟩,⟨_,_,e23⟩,⟨_,_,Zs⟩,⟨_,_,e16⟩,⟨_,_,e40⟩⟩:=h;have hE:∀p∈psE,Be.T7 fE (p.2.sig U):=fun p _=>trivial
 have hW:∀p∈psW,Be.T7 fW (p.2.sig U):=by
  intro p hp;simp only[psW,BL,List.mem_nil_iff,or_false]at hp;rcases hp with rfl|rfl|rfl|rfl|rfl
  ·exact (by decide:(1:Int)<=3)
  ·exact (by decide:(1:Int)<=16)
  ·exact (by decide:(1:Int)<=3)
  ·exact (by decide:(1:Int)<=16)
  ·exact (by decide:(1:Int)<=2)
 intro c hc;simp only[Ux,thL,BL,List.mem_nil_iff,or_false]at hc;rcases hc with rfl|rfl|rfl|rfl|rfl|rfl|rfl|rfl|rfl
 ·exact Tq.HD hr rfl hk c_M e1 2900 400 408
 ·exact Tq.HD hr rfl hk c_A e9 2901 401 409
 ·exact Tq.HD hr rfl hk c_P e18 2902 402 410
 ·exact Tq.HD hr rfl hk c_T e20 2903 403 411
 ·exact Tq.HD hr rfl hk c_Q e21 2904 404 412
 ·exact Tq.AgJ hr rfl hk c_E hE e23 2905 405 413
 ·exact Tq.AgJ hr rfl hk c_W hW Zs 2906 406 414
 ·exact Tq.HD hr rfl hk c_R e16 2907 407 415
 ·exact Aa9 hr e40
end V
end
namespace V
open Go Eng Go.Proofs
variable {v0:Value} {N:Int} {BO:Nat->Nat->Value} {w w1:World} {a1:Act} {Jq1:A1}
def rh2(Jq1:A1):A1:=Eng.AL Jq1 (Ae stG)
def rh3(Jq1:A1):A1:=Eng.AL (rh2 Jq1) (Ae Ti)
def rh5(Jq1:A1):A1:=rn (Eng.AL (rh3 Jq1) (Ae stX)) stS.g (Ae B6.bl)
def sgA(v0:Value)(Jq1:A1)(N:Int)(BO:Nat->Nat->Value)(w1:World):An:=sg2 (rh3 Jq1) (IH v0 (rh2 Jq1) N BO) w1
theorem Acy(hs:St1 v0 w Jq1 a1 w1){b r S:Nat}(h:rh3 Jq1 b=some (r,S)):w.heap.size<=r:=hs.new b r S (As (As h).2).2
theorem Agj:(Ae stG 43&&(Ae Ti 43&&Nat.ble stM 2920))=true:=by decide +kernel
theorem Ak7:(stX.all fun p=>Fw p.2)=true:=by decide +kernel
theorem Ags:(B6.bl.all fun p=>AiC p.2)=true:=by decide +kernel
theorem Al0{J:A1}{U:An}:∀c∈Ux J U w,(sg2 J U w).b c.t=c.P:=by
 intro c hc;have hc':=hc;unfold Ux thL at hc';simp only[BL,List.mem_nil_iff,or_false]at hc';show ((Ux J U w).find? fun c'=>Nat.beq c'.t c.t).elim .no (·.P)=c.P;unfold Ux thL;rcases hc' with rfl|rfl|rfl|rfl|rfl|rfl|rfl|rfl|rfl<;>rfl
theorem Al1{J:A1}{U:An}(hd:WJ J):∀c∈Ux J U w,∃S,J c.b0=some ((sg2 J U w).ro c.o,S):=by
 intro c hc;have hc':=hc;unfold Ux thL at hc';simp only[BL,List.mem_nil_iff,or_false]at hc';have h:(sg2 J U w).ro c.o=Aht J c.b0:=by
  show ((Ux J U w).find? fun c'=>Nat.beq c'.o c.o).elim 0 (fun c=>Aht J c.b0)=_;unfold Ux thL;rcases hc' with rfl|rfl|rfl|rfl|rfl|rfl|rfl|rfl|rfl<;>rfl
 rw[h];clear h hc;rcases hc' with rfl|rfl|rfl|rfl|rfl|rfl|rfl|rfl|rfl
 ·exact Hj hd.h1
 ·exact Hj hd.h9
 ·exact Hj hd.h18
 ·exact Hj hd.h20
 ·exact Hj hd.h21
 ·exact Hj hd.h23
 ·exact Hj hd.h13
 ·exact Hj hd.h16
 ·exact Hj hd.h40
theorem V6(hs:St1 v0 w Jq1 a1 w1):Rel (rh3 Jq1) (IH v0 (rh2 Jq1) N BO) (CS WD) (Aa Ti stM) w1:=by
 have r0:=Rel.NG hs.rel Ao6;have r2:Rel (rh2 Jq1) (sgB v0) (CS WD) (Aa stG stM) w1:=Rel.wk (Ao2 (U:=sgB v0) (fun t ht=>if_neg ht) rfl) r0 Aso;exact Rel.Ak1 r2 Akw Aef Akn
theorem Aas(hs:St1 v0 w Jq1 a1 w1):WJ (rh3 Jq1):=by
 have hk:=Agj;simp only[Ah]at hk;refine Aq7 (V6 (N:=0) (BO:=fun _ _=>undef) hs) ?_;obtain⟨r,S,h,_⟩:=hs.s3;exact⟨r,S,by unfold rh3 rh2;rw[BT hk.2.1,BT hk.1];exact h⟩
theorem Ahb{J:A1}{U:An}:((Ux J U w).map fun c=>(c.key,Aj.Am (c.t,c.o)))=AcV:=by unfold Ux;exact Abj _ _ _ _ _ _ _ _ _
theorem AdP{J:A1}{U:An}:V1 Ti stM stX (Ux J U w)=true:=by unfold Ux;exact AhE _ _ _ _ _ _ _ _ _
theorem Adw{J:A1}{U:An}{n':Nat}(hr:Rel J U (CS WD) (Aa Ti stM) w)(hn:stM<=n')(hk:∀r,U.k r=none)(hd:WJ J):Rel (Eng.AL J (Ae stX)) (sg2 J U w) (CS WD) (Aa (stX++(Ux J U w).map fun c=>(c.key,.Am (c.t,c.o))) n') w:=
 Rel.Aqa hr AdP hn (PF hr hk hd) rfl rfl rfl rfl Al0 (Al1 hd)
theorem Ajp(hs:St1 v0 w Jq1 a1 w1):Rel (Eng.AL (rh3 Jq1) (Ae stX)) (sgA v0 Jq1 N BO w1) (CS WD) (Aa (stX++AcV) 2920) w1:=by
 have hk:=Agj;simp only[Ah]at hk;have h:=Adw (n':=2920) (V6 (N:=N) (BO:=BO) hs) (AN hk.2.2) (fun _=>rfl) (Aas hs);rw[Ahb]at h;exact h
theorem AfO(hs:St1 v0 w Jq1 a1 w1):Rel (rh5 Jq1) (stS.sig (sgA v0 Jq1 N BO w1)) (CS WD) (Aa B6.bl B6.n) w1:=(Ajp hs).focus (Dq AhD)
theorem Amr{J:A1}{U:An}{k:Nat}{t:Nat×Nat}(h:(k,Aj.Am t)∈stX++AcV):∃c∈Ux J U w,t=(c.t,c.o):=by
 rcases List.mem_append.1 h with h|h
 ·have:=Bf.1 Ak7 _ h;cases this
 ·have h:(k,Aj.Am t)∈(Ux J U w).map (fun c=>(c.key,Aj.Am (c.t,c.o))):=by unfold Ux;rw[Abj];exact h
  obtain⟨c,hc,e⟩:=List.mem_map.1 h;exact⟨c,hc,(Aj.Am.inj (congrArg Prod.snd e)).symm⟩
theorem Yb(hs:St1 v0 w Jq1 a1 w1):∀y,AcM (rh5 Jq1) (stS.sig (sgA v0 Jq1 N BO w1)) (Aa B6.bl B6.n) w1 y->w.heap.size<=y:=by
 have hf:=Dq AhD
 rintro y (⟨b,S,h⟩|⟨b,t,hgb,EJ⟩)
 ·exact Acy hs (As (Bc h).2).2
 ·have hm:(Aa (stX++AcV) 2920).get (stS.g b)=some (.Am (stS.rp t)):=hf.get (b,.Am t) (Ad hgb);have EJ:((sgA v0 Jq1 N BO w1).B (stS.rp t)).fp w1 y:=EJ;obtain⟨c,hc,e2⟩:=Amr (w:=w1) (J:=rh3 Jq1) (U:=IH v0 (rh2 Jq1) N BO) (Ad hm);rw[e2]at EJ;obtain⟨ro,S0,q1,_,q3,_⟩:=PF (V6 (N:=N) (BO:=BO) hs) (fun _=>rfl) (Aas hs) c hc;obtain⟨S',q4⟩:=Al1 (w:=w1) (U:=IH v0 (rh2 Jq1) N BO) (Aas hs) c hc;have EJ:(((sgA v0 Jq1 N BO w1).b c.t).at_ ((sgA v0 Jq1 N BO w1).ro c.o)).fp w1 y:=EJ;have hb:(sgA v0 Jq1 N BO w1).b c.t=c.P:=Al0 c hc;rw[hb]at EJ;rw[q4]at q1;have:(sgA v0 Jq1 N BO w1).ro c.o=ro:=congrArg Prod.fst (Option.some.inj q1);rw[this]at EJ;obtain⟨b',_,S2,q5⟩:=q3 y EJ;exact Acy hs q5
end V
namespace V
open Go Eng Go.Proofs
def cvK(k:Ck)(a:A):Bool:=match k,a with |.i k,.int k' _=>decide (k=k')|.b,.bool _=>true|.n,.B7=>true|.u,_=>true|_,_=>false
theorem Afe{k:Ck}{a:A}(h:cvK k a=true):A9 k (a.cv.getD undef):=by
 unfold cvK at h;split at h
 ·rw[of_decide_eq_true h];exact⟨_,rfl⟩
 ·exact⟨_,rfl⟩
 ·rfl
 ·trivial
 ·cases h
def Avf(t:Nat)(l:List A)(es:Nat):Bool:=l.zipIdx.all fun p=>cvK ((G5 t).getD (p.2 % es) .u) p.1
theorem FW{t es:Nat}{l:List A}(h:stL.rows.find? (fun p=>Nat.beq p.1 t)=some (t,(T.ofList l,es)))(hk:Avf t l es=true):∀j c,A9 ((G5 t).getD c .u) (CO t j c):=by
 intro j c;unfold CO;rw[h];show A9 _ (if c<es then (match T.get (T.ofList l) (j*es+c) with |some a=>a.cv.getD undef|none=>ckD ((G5 t).getD c .u)) else ckD ((G5 t).getD c .u))
 by_cases hc:c<es
 ·rw[if_pos hc];cases ha:T.get (T.ofList l) (j*es+c) with
  |none=>exact O2
  |some a=>
   have h1:=T.CZ ha;have h2:=Bf.1 hk (a,j*es+c) (List.mem_zipIdx_iff_getElem?.2 h1);have h3:(j*es+c) % es=c:=by rw[Nat.add_comm,Nat.add_mul_mod_self_right];exact Nat.mod_eq_of_lt hc
   have h2:cvK ((G5 t).getD ((j*es+c) % es) .u) a=true:=h2;rw[h3]at h2;exact Afe h2
 ·rw[if_neg hc];exact O2
theorem M1{t:Nat}(h:stL.rows.find? (fun p=>Nat.beq p.1 t)=none):∀j c,A9 ((G5 t).getD c .u) (CO t j c):=by
 intro j c;unfold CO;rw[h];exact O2
theorem Aui:∀j c,A9 ((G5 500).getD c .u) (CO 500 j c):=FW (l:=Fb Al6) (es:=1) (by kernel_rfl) (by decide +kernel)
theorem Auj:∀j c,A9 ((G5 520).getD c .u) (CO 520 j c):=FW (l:=Fb Al7) (es:=9) (by kernel_rfl) (by decide +kernel)
theorem Auk:∀j c,A9 ((G5 530).getD c .u) (CO 530 j c):=FW (l:=Fb Al8) (es:=8) (by kernel_rfl) (by decide +kernel)
theorem Aul:∀j c,A9 ((G5 551).getD c .u) (CO 551 j c):=FW (l:=Fb Al9) (es:=8) (by kernel_rfl) (by decide +kernel)
theorem Aum:∀j c,A9 ((G5 552).getD c .u) (CO 552 j c):=FW (l:=Fb AlA) (es:=8) (by kernel_rfl) (by decide +kernel)
theorem Aun:∀j c,A9 ((G5 553).getD c .u) (CO 553 j c):=FW (l:=Fb AlB) (es:=8) (by kernel_rfl) (by decide +kernel)
theorem Auo:∀j c,A9 ((G5 554).getD c .u) (CO 554 j c):=FW (l:=Fb AlC) (es:=8) (by kernel_rfl) (by decide +kernel)
theorem Aup:∀j c,A9 ((G5 555).getD c .u) (CO 555 j c):=FW (l:=Fb AlD) (es:=8) (by kernel_rfl) (by decide +kernel)
theorem Auq:∀j c,A9 ((G5 560).getD c .u) (CO 560 j c):=FW (l:=Fb AlE) (es:=1) (by kernel_rfl) (by decide +kernel)
theorem Aur:∀j c,A9 ((G5 561).getD c .u) (CO 561 j c):=FW (l:=Fb AlF) (es:=9) (by kernel_rfl) (by decide +kernel)
theorem Aus:∀j c,A9 ((G5 562).getD c .u) (CO 562 j c):=FW (l:=Fb AlG) (es:=24) (by kernel_rfl) (by decide +kernel)
theorem Aut:∀j c,A9 ((G5 563).getD c .u) (CO 563 j c):=FW (l:=Fb AlH) (es:=2) (by kernel_rfl) (by decide +kernel)
theorem Auu:∀j c,A9 ((G5 564).getD c .u) (CO 564 j c):=FW (l:=Fb AlI) (es:=3) (by kernel_rfl) (by decide +kernel)
end V
namespace V
open Go Eng Go.Proofs
variable {v0:Value} {J:A1} {N:Int} {BO:Nat->Nat->Value} {w:World}
theorem Oa{t:Nat}(ht:t<600):(IH v0 J N BO).r t=CO t:=by
 show (if t=702 then BO else if t=616\/t=630\/t=600 then fun _ c=>Aoc J t c else (sgB v0).r t)=_;rw[if_neg (by omega),if_neg (by omega)];show (if t=640 then fun _ _=>v0 else CO t)=_;rw[if_neg (by omega)]
abbrev s1(v0:Value)(J:A1)(N:Int)(BO:Nat->Nat->Value):An:=IH v0 J N BO
theorem Au2:AD.is 4 (Za.D.Am WD (sM.sig (IH v0 J N BO))):=(AqZ _).2 ⟨_,rfl,.nil,.cons ⟨fun j c=>by
 show A9 ((List.replicate 8 (Ck.i .u64)).getD c .u) ((IH v0 J N BO).r 530 j c);rw[Oa (by decide)];exact Auk j c,trivial⟩ .nil,trivial,.nil⟩
theorem Au4:AD.is 5 (Zb.D.Am WD (sP.sig (IH v0 J N BO))):=(Ara _).2 ⟨_,rfl,.nil,.nil,trivial,.nil⟩
theorem Au6:AD.is 9 (Zc.D.Am WD (sR.sig (IH v0 J N BO))):=(Arb _).2 ⟨_,rfl,.nil,.nil,trivial,.nil⟩
theorem Au1:AD.is 6 (fE.Am WD (JR (IH v0 J N BO) psE)):=(kE _).2 ⟨_,rfl,fun z Y _=>⟨.nil,.nil,trivial,.nil⟩⟩
theorem Au3:AD.is 8 (D0 (Ael J w)):=(HM _).2 ⟨_,rfl,fun z hz=>by
 obtain⟨j,hj,e⟩:=Zh hz;subst e
 match j,hj with
 | 0,_=>decide
 | 1,_=>decide
 | 2,_=>decide
 | 3,_=>decide
 | 4,_=>decide
 |n+5,h=>omega⟩
theorem Au8:AD.is 7 (fW.Am WD (JR (IH v0 J N BO) psW)):=(kW _).2 ⟨_,rfl,fun z Y h=>by
 unfold JR at h;rw[Option.map_eq_some_iff]at h;obtain⟨p,hp,rfl⟩:=h;have hm:=List.mem_of_find?_eq_some hp;have row:∀t,t<600->(∀j c,A9 ((G5 t).getD c .u) (CO t j c))->G5 t=JN->∀j c,A9 (JN.getD c .u) ((IH v0 J N BO).r t j c):=fun t ht hk he j c=>by
  rw[Oa ht,<-he];exact hk j c
 simp only[psW,BL,List.mem_nil_iff,or_false]at hm;rcases hm with rfl|rfl|rfl|rfl|rfl
 ·exact⟨.cons rfl (.cons rfl .nil),.cons ⟨row 551 (by decide) Aul rfl,trivial⟩ .nil,trivial,.nil⟩
 ·exact⟨.cons rfl (.cons rfl .nil),.cons ⟨row 552 (by decide) Aum rfl,trivial⟩ .nil,trivial,.nil⟩
 ·exact⟨.cons rfl (.cons rfl .nil),.cons ⟨row 553 (by decide) Aun rfl,trivial⟩ .nil,trivial,.nil⟩
 ·exact⟨.cons rfl (.cons rfl .nil),.cons ⟨row 554 (by decide) Auo rfl,trivial⟩ .nil,trivial,.nil⟩
 ·exact⟨.cons rfl (.cons rfl .nil),.cons ⟨row 555 (by decide) Aup rfl,trivial⟩ .nil,trivial,.nil⟩⟩
end V
namespace V
open Go Eng Go.Proofs
variable {v0:Value} {J:A1} {N:Int} {BO:Nat->Nat->Value} {w:World}
def An9(e:E):Int:=match e with |.lit n=>n|_=>0
theorem Ai8(b i:Nat)(U:An):(atB b i).den U=An9 (atB b i):=by
 unfold atB;split
 ·split<;>rfl
 ·rfl
theorem Ai3:JJ 16 ((List.range 64).map fun k=>An9 (atB 9 (k+1))):=by
 unfold JJ;decide +kernel
theorem Au0:AD.is 3 (KN.D.Am WD (sA.sig (IH v0 J N BO))):=(Ago _).2 ⟨_,rfl,.cons (FN (show (0:Int)<=16 by decide)) (.cons (Az (g:=80) (ns:=.var 0::av 2) (rs:=[]) (ms:=[]) (bs:=[]) (by
 show JJ (16:Int) ((av 2).map (E.den (sA.sig (IH v0 J N BO))));have e:(av 2).map (E.den (sA.sig (IH v0 J N BO)))=(List.range 64).map fun k=>An9 (atB 9 (k+1)):=by
  unfold av;rw[List.map_map];refine List.map_congr_left fun k _=>?_
  show ((if 2+k=0 then E.lit 16 else atB 9 (2+k-1)):E).den _=_;rw[if_neg (by omega),show 2+k-1=k+1 by omega];exact Ai8 _ _ _
 rw[e];exact Ai3)) (.cons (Hg (show (16:Int)<=65536 by decide)) .nil)),.cons ⟨fun j c=>by
  show A9 ((List.replicate 9 (Ck.i .i64)).getD c .u) ((IH v0 J N BO).r 520 j c);rw[Oa (by decide)];exact Auj j c,trivial⟩ .nil,trivial,.nil⟩
theorem AuK:numOf (CO 500 0 0)=1/\numOf (CO 500 1 0)=8:=by decide +kernel
theorem ArD{n:Nat->Int}{r:Nat->Rw}(h0:n 0=2)(hn:∀q,1<=q->q<8->n q=0)(hr:r 0=CO 500):QOK n r/\∀x,CN n r x↔x=1\/x=8:=by
 obtain⟨e0,e1⟩:=AuK;have at_:∀q,q<8->∀j:Nat,(j:Int)<n q->q=0/\(j=0\/j=1):=fun q hq j hj=>by
  by_cases h:q=0
  ·subst h;rw[h0]at hj;exact⟨rfl,by omega⟩
  ·rw[hn q (by omega) hq]at hj;omega
 refine⟨⟨fun q hq j hj=>?_,fun q hq q' Fu j j' hj He e=>?_⟩,fun x=>⟨?_,?_⟩⟩
 ·obtain⟨rfl,rfl|rfl⟩:=at_ q hq j hj
  ·rw[hr,e0];omega
  ·rw[hr,e1];omega
 ·obtain⟨rfl,hh⟩:=at_ q hq j hj;obtain⟨rfl,hh'⟩:=at_ q' Fu j' He;rw[hr]at e;rcases hh with rfl|rfl<;>rcases hh' with rfl|rfl
  ·exact⟨rfl,rfl⟩
  ·rw[e0,e1]at e;omega
  ·rw[e0,e1]at e;omega
  ·exact⟨rfl,rfl⟩
 ·rintro ⟨q,hq,j,hj,e⟩
  obtain⟨rfl,rfl|rfl⟩:=at_ q hq j hj
  ·rw[hr,e0]at e;exact .inl e.symm
  ·rw[hr,e1]at e;exact .inr e.symm
 ·rintro (rfl|rfl)
  ·exact⟨0,by omega,0,by rw[h0];decide,by rw[hr,e0]⟩
  ·exact⟨0,by omega,1,by rw[h0];decide,by rw[hr,e1]⟩
theorem Akl(i:Nat):(sQ.sig (IH v0 J N BO)).v i=if i=0 then 2 else 0:=by
 show ((if i=0 then E.lit 2 else E.lit 0):E).den _=_
 by_cases h:i=0
 ·rw[if_pos h,if_pos h];rfl
 ·rw[if_neg h,if_neg h];rfl
theorem Aou{i:Nat}(h:i<8):(sQ.sig (IH v0 J N BO)).r (8+i)=CO (500+i):=by
 show (IH v0 J N BO).r (492+(8+i))=_;rw[Oa (by omega),show 492+(8+i)=500+i by omega]
theorem qAt:QOK (fun q=>((Fi.map (E.den (sQ.sig (IH v0 J N BO)))).getD q 0)) (fun q=>(Iz.map (sQ.sig (IH v0 J N BO)).r).getD q EB):=by
 refine (ArD rfl (fun q h1 h2=>?_) ?_).1
 ·match q,h1,h2 with
  | 1,_,_=>rfl
  | 2,_,_=>rfl
  | 3,_,_=>rfl
  | 4,_,_=>rfl
  | 5,_,_=>rfl
  | 6,_,_=>rfl
  | 7,_,_=>rfl
  | 0,h,_=>omega
  |n+8,_,h=>omega
 ·exact Aou (i:=0) (by decide)
theorem qIs{x:Int}:QM (IU.D.Am WD (sQ.sig (IH v0 J N BO))) x↔x=1\/x=8:=by
 refine (ArD (n:=(sQ.sig (IH v0 J N BO)).v) (r:=fun i=>(sQ.sig (IH v0 J N BO)).r (8+i)) ?_ (fun q h1 h2=>?_) ?_).2 x
 ·rw[Akl];rfl
 ·rw[Akl,if_neg (by omega)]
 ·exact Aou (i:=0) (by decide)
end V
namespace V
open Go Eng Go.Proofs
variable {v0:Value} {J:A1} {N:Int} {BO:Nat->Nat->Value} {w:World}
theorem Au5:AD.is 1 (IU.D.Am WD (sQ.sig (IH v0 J N BO))):=(kQ _).2 ⟨_,rfl,⟨by
 refine Al.append (Al.Yz fun x hx=>?_) (.cons (Az (g:=2) (ns:=Fi) (rs:=Iz) (ms:=[]) (bs:=[]) qAt) (Al.Yz fun x hx=>?_))
 ·obtain⟨i,_,rfl⟩:=List.mem_map.1 hx;refine FN (show (0:Int)<=(sQ.sig (IH v0 J N BO)).v i from ?_);rw[Akl];split<;>decide
 ·obtain⟨i,_,rfl⟩:=List.mem_map.1 hx;refine Hg (show (sQ.sig (IH v0 J N BO)).v i<=(65535:Int) from ?_);rw[Akl];split<;>decide,by
 refine Al.Yz fun x hx=>?_
 obtain⟨i,hi,rfl⟩:=List.mem_map.1 hx;have hi:i<8:=List.mem_range.1 hi;refine⟨fun j c=>?_,trivial⟩;show A9 ([Ck.i .i64].getD c .u) ((sQ.sig (IH v0 J N BO)).r (i+8) j c);rw[Nat.add_comm,Aou hi];have hk:∀t,500<=t->t<=507->G5 t=[.i .i64]:=fun t h1 h2=>by
  unfold G5;rw[if_neg (by omega),if_neg (by omega),if_neg (by omega),if_neg (by omega),if_neg (by omega),if_neg (by omega),if_neg (by omega),if_pos ⟨h1,h2⟩]
 rw[<-hk (500+i) (by omega) (by omega)]
 match i,hi with
 | 0,_=>exact Aui j c
 | 1,_=>exact M1 (t:=501) (by kernel_rfl) j c
 | 2,_=>exact M1 (t:=502) (by kernel_rfl) j c
 | 3,_=>exact M1 (t:=503) (by kernel_rfl) j c
 | 4,_=>exact M1 (t:=504) (by kernel_rfl) j c
 | 5,_=>exact M1 (t:=505) (by kernel_rfl) j c
 | 6,_=>exact M1 (t:=506) (by kernel_rfl) j c
 | 7,_=>exact M1 (t:=507) (by kernel_rfl) j c
 |n+8,h=>omega,trivial,.nil⟩⟩
def AlV(e:ME):Bool:=match GP e,e.val with
 |some z,.agg l=>(Nat.beq l.length 24&&(l.zipIdx.all fun p=>cvK (GS.getD p.2 .u) p.1))&&((match e.val.cv with |some u=>decide (Dm (some u) 0=z/\(1<=z/\z<=65535)/\0<=Dm (some u) 1/\Dm (some u) 1<=4/\0<=Dm (some u) 2/\Dm (some u) 2<=7/\0<=Dm (some u) 9/\0<=Dm (some u) 10/\0<=Dm (some u) 16/\Dm (some u) 16<=4096/\0<=Dm (some u) 17/\Dm (some u) 17<=4096/\Dm (some u) 1=1)|none=>false)&&(decide (z=1)||decide (z=8)))
 |_,_=>false
theorem AoA:((LU LQ).all AlV)=true:=by decide +kernel
theorem AhN:(Dz (LU LQ) 1).isSome=true/\(Dz (LU LQ) 8).isSome=true:=by decide +kernel
theorem Asz{z:Int}{u:Value}(h:Dz (LU LQ) z=some u):∃e∈LU LQ,GP e=some z/\e.val.cv=some u:=by
 unfold Dz at h;obtain⟨e,he,hv⟩:=Option.bind_eq_some_iff.1 h;exact⟨e,List.mem_of_find?_eq_some he,of_decide_eq_true (List.find?_some (p:=fun (e:ME)=>decide (GP e=some z)) he),hv⟩
theorem Zl{z:Int}{u:Value}(h:Dz (LU LQ) z=some u):(Dm (some u) 0=z/\(1<=z/\z<=65535)/\WN (fun c=>Dm (some u) c)/\Dm (some u) 1=1)/\AgK GS u/\(z=1\/z=8):=by
 obtain⟨e,hm,hk,hv⟩:=Asz h;have hc:=Bf.1 AoA e hm;unfold AlV at hc;rw[hk]at hc;split at hc
 ·rename_i z' l hz hl;cases hz;rw[hv]at hc;simp only[Ah,Bool.or_eq_true]at hc;obtain⟨⟨c1,c2⟩,c3,c4⟩:=hc;have c3:=of_decide_eq_true c3;refine⟨⟨c3.1,c3.2.1,⟨c3.2.2.1,c3.2.2.2.1,c3.2.2.2.2.1,c3.2.2.2.2.2.1,c3.2.2.2.2.2.2.1,c3.2.2.2.2.2.2.2.1,c3.2.2.2.2.2.2.2.2.1,c3.2.2.2.2.2.2.2.2.2.1,c3.2.2.2.2.2.2.2.2.2.2.1,c3.2.2.2.2.2.2.2.2.2.2.2.1⟩,c3.2.2.2.2.2.2.2.2.2.2.2.2⟩,?_,c4.imp of_decide_eq_true of_decide_eq_true⟩;rw[hl]at hv;unfold V.cv at hv;have hv:(bif l.all (fun a=>a.cv.isSome) then some (Value.agg (l.map fun a=>a.cv.getD undef).toArray) else none)=some u:=hv;cases ha:l.all (fun a=>a.cv.isSome) with
  |false=>rw[ha]at hv;cases hv
  |true=>
   rw[ha]at hv;cases hv;refine⟨_,rfl,by rw[List.length_map,beq_eq c1];rfl,fun c v hcv=>?_⟩;rw[List.getElem?_map]at hcv;obtain⟨a,ha',rfl⟩:=Option.map_eq_some_iff.1 hcv;exact Afe (Bf.1 c2 (a,c) (List.mem_zipIdx_iff_getElem?.2 ha'))
 ·cases hc
theorem AlN:stL.sig.m 510=Dz (LU LQ):=by kernel_rfl
theorem Au7:AD.is 2 (Hm.D.Am WD (sT.sig (IH v0 J N BO))):=by
 have hm:(sT.sig (IH v0 J N BO)).m 0=Dz (LU LQ):=AlN;refine (kT _).2 ⟨_,rfl,⟨.cons (Az (g:=50) (ns:=[]) (rs:=[]) (ms:=[0]) (bs:=[]) ?_) .nil,.nil,trivial,.cons (fun z u hu=>?_) .nil⟩⟩
 ·show QS ((sT.sig (IH v0 J N BO)).m 0);rw[hm];intro z hz;obtain⟨u,hu⟩:=Option.isSome_iff_exists.1 hz;obtain⟨⟨h1,h2,h3,_⟩,_⟩:=Zl hu;rw[hu];exact⟨h1,h2.1,h3⟩
 ·have hu:(sT.sig (IH v0 J N BO)).m 0 z=some u:=hu;rw[hm]at hu;obtain⟨⟨_,h2,_⟩,h4,_⟩:=Zl hu;exact⟨by omega,(MkP.agg (by decide)).2 h4⟩
theorem tIs{x:Int}:TR (Hm.D.Am WD (sT.sig (IH v0 J N BO))) x↔x=1\/x=8:=by
 have hm:(sT.sig (IH v0 J N BO)).m 0=Dz (LU LQ):=AlN;show (∃u,(sT.sig (IH v0 J N BO)).m 0 x=some u/\Dm (some u) 1=1)↔_;rw[hm];constructor
 ·rintro ⟨u,hu,_⟩
  exact (Zl hu).2.2
 ·rintro (rfl|rfl)
  ·obtain⟨u,hu⟩:=Option.isSome_iff_exists.1 AhN.1;exact⟨u,hu,(Zl hu).1.2.2.2⟩
  ·obtain⟨u,hu⟩:=Option.isSome_iff_exists.1 AhN.2;exact⟨u,hu,(Zl hu).1.2.2.2⟩
end V
namespace V
open Go Eng Go.Proofs
variable {v0:Value} {Jq1:A1} {N:Int} {BO:Nat->Nat->Value} {w1:World} {kA:Nat->Option Obj}
def geL(i:Nat):CF:=⟨.geq,.var i,.lit 0,true⟩
def leM(i:Nat):CF:=⟨.leq,.var i,.bin .add .i64 (.var 97) (.lit 1000),true⟩
def cfL:List CF:=[ri 3 4,geL 19,geL 21,geL 23,geL 25,geL 97,⟨.leq,.var 97,.var 95,true⟩,⟨.leq,.var 95,.lit 60,true⟩,leM 19,leM 21,leM 23,leM 25]
def i8:List Ck:=List.replicate 8 (.i .i64)
def rdL:List KC:=[(0,[.g 4]),(1,[.g 3]),(2,[.g 5]),(3,[.g 2]),(4,[.g 1]),(5,[.g 6]),(6,[.g 7]),(7,[.g 9]),(20,GS),(22,List.replicate 2 (.i .i64)),(24,[.i .i64,.n,.b]),(26,List.replicate 9 (.i .i64)),(29,[.i .u64]),(27,[.g 8]),(96,i8)]
theorem An2:(Av Ep B6.cf cfL&&(Av EK B6.rd rdL&&B6.mp.isEmpty))=true:=by decide +kernel
def sgZ(v0:Value)(Jq1:A1)(N:Int)(BO:Nat->Nat->Value)(w1:World)(kA:Nat->Option Obj):An:=SG (stS.sig (sgA v0 Jq1 N BO w1)) kA
theorem Aj3(h0:0<=N)(h60:N<=60)(hrw:∀j c,A9 (i8.getD c .u) (BO j c)):B6.inv (sgZ v0 Jq1 N BO w1 kA):=by
 have hc:=An2;simp only[Ah]at hc;obtain⟨c1,c2,c3⟩:=hc;have e1:=Ag (fun _ _=>Cr) c1;have e2:=Ag (fun _ _=>BH) c2;have e3:=List.isEmpty_iff.1 c3;have nog:∀{t:Nat} {ks:List Ck} {r:Nat->Nat->Value},WA ks=true->(sgZ v0 Jq1 N BO w1 kA).r t=r->(∀j c,A9 (ks.getD c .u) (r j c))->EO (sgZ v0 Jq1 N BO w1 kA) (t,ks):=fun hn hr hk=>⟨fun j c=>by
  show A9 _ ((sgZ v0 Jq1 N BO w1 kA).r _ j c);rw[hr];exact hk j c,Eo hn⟩
 have row:∀t,t<600->(IH v0 (rh2 Jq1) N BO).r t=CO t:=fun t ht=>Oa ht
 have bagk:∀{t k:Nat},AD.is k ((sgZ v0 Jq1 N BO w1 kA).b t)->EO (sgZ v0 Jq1 N BO w1 kA) (t,[.g k]):=fun h=>⟨fun j c=>by cases c<;>trivial,h⟩
 show Kn B6.cf B6.rd B6.q _ B6.mp;rw[e1,e2,e3];refine⟨?_,?_,Agw _,.nil⟩
 ·refine .cons (LN fun x=>?_) (.cons (FN (show (0:Int)<=2 by decide)) (.cons (FN (show (0:Int)<=2 by decide)) (.cons (FN (show (0:Int)<=1 by decide)) (.cons (FN (show (0:Int)<=16 by decide)) (.cons (FN (show (0:Int)<=0 by decide))
   (.cons (Hg (show (0:Int)<=N from h0)) (.cons (Hg (show N<=(60:Int) from h60)) (.cons (Hg (show (2:Int)<=IntKind.i64.wrap (0+1000) by decide)) (.cons (Hg (show (2:Int)<=IntKind.i64.wrap (0+1000) by decide)) (.cons (Hg (show (1:Int)<=IntKind.i64.wrap (0+1000) by decide)) (.cons (Hg (show (16:Int)<=IntKind.i64.wrap (0+1000) by decide)) .nil)))))))))))
  show QM (IU.D.Am WD (sQ.sig (IH v0 (rh2 Jq1) N BO))) x↔TR (Hm.D.Am WD (sT.sig (IH v0 (rh2 Jq1) N BO))) x;exact qIs.trans tIs.symm
 ·refine .cons (bagk Au2) (.cons (bagk Au0) (.cons (bagk Au4) (.cons (bagk Au7) (.cons (bagk Au5) (.cons (bagk Au1) (.cons (bagk Au8) (.cons (bagk Au6) (.cons (nog rfl (row 562 (by decide)) Aus) (.cons (nog rfl (row 563 (by decide)) Aut) (.cons (nog rfl (row 564 (by decide)) Auu) (.cons (nog rfl (row 561 (by decide)) Aur) (.cons (nog rfl (row 560 (by decide)) Auq) (.cons (bagk Au3) (.cons (nog rfl rfl hrw) .nil))))))))))))))
end V
namespace V
open Go Eng Go.Proofs
variable {v0:Value} {Jq1:A1} {w w1:World} {a1:Act} {b:Frame}
def lL:List (Nat×AV):=[(0,.one (.P3 96 8 (.var 95))),(3,.one (.ptr 0 0)),(5,.one (.sym .i64 (.var 97)))]
theorem Arc:Av (fun p q=>Nat.beq p.1 q.1&&AV.AJ p.2 q.2) B6.L lL=true:=by decide +kernel
theorem Agq:B6.L=lL:=Ag (fun a b h=>by
 rw[Ah]at h;exact Prod.ext (beq_eq h.1) (AV.Ac h.2)) Arc
structure WC(w:World)(v0:Value)(n:Nat)(kA:Nat->Option Obj)(BO:Nat->Nat->Value):Prop where
 val:∃p k,v0=.slice p n k/\(n=0\/∃r o cs ty z,p=some ⟨r,o,none⟩/\kA r=some (.cells cs ty z)/\o+n*8<=cs.size/\∀j c,j<n->c<8->∃u,cs[o+(j*8+c)]? =some u/\u=BO j c/\u.oneCell'=true)
 obj:∀r o,kA r=some o->r<w.heap.size/\w.heap[r]? =some o
 kind:∀j c,A9 (i8.getD c .u) (BO j c)
theorem bl0:(Ae B6.bl 0&&(Ae stX 43&&(Ae Ti 43&&Ae stG 43)))=true:=by decide +kernel
theorem Ajo{n:Nat}{kA:Nat->Option Obj}{BO:Nat->Nat->Value}(hA:WC w v0 n kA BO)(hs:St1 v0 w Jq1 a1 w1):IX (rh5 Jq1) (sgZ v0 Jq1 n BO w1 kA) 98 10 (frL B6.L) a1:=by
 rw[Agq];have hk:=bl0;simp only[Ah]at hk;refine⟨hs.act.size,fun t u _ hu=>?_,(fun t v _ hv=>nomatch hv),by rw[hs.act.defers];exact .nil⟩;have hm:(t,u)∈lL:=Il hu;simp only[lL,BL,List.mem_nil_iff,or_false,Prod.mk.injEq]at hm;rcases hm with ⟨rfl,rfl⟩|⟨rfl,rfl⟩|⟨rfl,rfl⟩
 ·obtain⟨p,k,e,h⟩:=hA.val;refine⟨v0,hs.act.s0,p,n,k,e,rfl,h.imp id ?_⟩
  rintro ⟨r,o,cs,ty,z,h1,h2,h3,h4⟩
  exact⟨r,o,h1,cs,ty,z,h2,h3,h4⟩
 ·obtain⟨r,S,h1,h2⟩:=hs.s3;refine⟨_,h2,r,S,?_,rfl⟩;show rn (Eng.AL (rh3 Jq1) (Ae stX)) stS.g (Ae B6.bl) 0=_;rw[Ec hk.1];show Eng.AL (rh3 Jq1) (Ae stX) 43=_;unfold rh3 rh2;rw[BT hk.2.1,BT hk.2.2.1,BT hk.2.2.2];exact h1
 ·exact⟨_,hs.s5,rfl⟩
theorem Agv(hb:Zx b){n:Nat}{kA:Nat->Option Obj}{BO:Nat->Nat->Value}(hA:WC w v0 n kA BO)(hn:n<=60)(hs:St1 v0 w Jq1 a1 w1):
 El WD.P kLp b a1 w1 .norm fun a' w'=>(a'.defers=[]/\98<=a'.tmps.size)/\Kept (fun _=>False) w w':=by
 have hr:=Rel.SG (k:=kA) (AfO (N:=n) (BO:=BO) hs) Ags (fun _=>rfl) fun r o hk=>by
  obtain⟨h1,h2⟩:=hA.obj r o hk;refine⟨by rw[hs.kept.heap r h1 (fun h=>h)];exact h2,fun ho=>?_⟩;have:=Yb hs r ho;omega
 refine (Aj6 (U:=sgZ v0 Jq1 n BO w1 kA) (Aj3 (by omega) (by omega) hA.kind) (hb.ctx rfl) hr (Ajo hA hs)).mono ?_
 rintro a' w' ⟨h1,h2⟩
 have C7:∀r,AcM (rh5 Jq1) (sgZ v0 Jq1 n BO w1 kA) (Aa B6.bl B6.n) w1 r->w.heap.size<=r:=fun r ho=>Yb (N:=n) (BO:=BO) hs r ho
 have k1:=hs.kept;refine⟨h1,Nat.le_trans k1.size h2.size,fun r hr _=>?_,h2.os.trans k1.os,h2.tape.trans k1.tape,h2.output.trans k1.output,fun a ha=>?_⟩
 ·rw[h2.heap r (IM hr k1.size) fun ho=>by have:=C7 r ho;omega,k1.heap r hr fun h=>h]
 ·rw[h2.fz a (IM ha k1.size),k1.fz a ha]
end V
namespace V
open Go Eng Go.Proofs
variable {v0:Value} {w:World} {a:Act} {b:Frame}
def frA:FR:=⟨T.ofList [.one (.P3 0 8 (.var 0))],.nil,[]⟩
def stA:St:={s0L B6 with base:=1,cf:=[⟨.gtr,.var 0,.lit 60,false⟩],rd:=[],K:=fun _=>True,mp:=[]}
def evA:OR:=GY (eval (Is WD stA) 400 X4 (.code kR0 frA) hB) fun fr h=>eval (Is WD stA) 400 X4 (.code kS1 fr) h
def Ahd(r:OR):Bool:=match r with |some (.code .norm fr _)=>LR fr 0 (.one (.P3 0 8 (.var 0)))&&fr.marks.isEmpty|_=>false
theorem Aoa:Ahd evA=true:=by decide +kernel
def sgI(n:Nat)(kA:Nat->Option Obj)(BO:Nat->Nat->Value):An:={v:=fun _=>n,r:=fun _=>BO,m:=fun _ _=>none,k:=kA,b:=fun _=>.no,ro:=fun _=>0}
theorem Afr(hb:Zx b)(hd:a.defers=[])(hz:98<=a.tmps.size):El WD.P Aay b a w .ret fun a' w'=>(a'.tmps[2]? =some (.bool true)/\a'.defers=[]/\98<=a'.tmps.size)/\Kept (fun _=>False) w w':=by
 have Ke:=AmM;obtain⟨r,hr⟩:∃r,eval (CS WD) 400 X4 (.code Aay fr0) (Aa [] 0)=r:=⟨_,rfl⟩
 rw[hr]at Ke;obtain⟨fr,h,he,h1,h2⟩:∃fr h,r=some (.code .ret fr h)/\T.get fr.pt 2=some (.one (.bool true))/\fr.marks=[]:=by
  clear hr;unfold Acx at Ke;split at Ke
  ·rename_i fr h;split at Ke
   ·rename_i v hv;rw[Ah]at Ke;exact⟨fr,h,rfl,by rw[hv,AV.Ac Ke.1],List.isEmpty_iff.1 Ke.2⟩
   ·cases Ke
  ·cases Ke
 have hc:=(Jl (Vm (U:=sgB undef) BZ) Vy 400).1 X4 Aay fr0 _ .ret fr h (hr.trans he);refine (hc (fun _=>none) w a b (hb.ctx rfl) (IF fun _ _ h=>(nomatch h)) ⟨hz,(fun t u _ hu=>nomatch hu),(fun t v _ hv=>nomatch hv),by rw[hd];exact .nil⟩).mono ?_
 rintro a' w' ⟨J',f1,_,x1⟩
 obtain⟨v,g1,g2⟩:=f1.pt 2 _ (by decide) h1;refine⟨⟨by rw[g1,show v=_ from g2],?_,f1.size⟩,x1.kept.mono fun r hr=>Ld hr⟩;have hm:=f1.marks;rw[h2]at hm;generalize a'.defers=D at hm ⊢;cases hm;rfl
end V
namespace V
open Go Eng Go.Proofs
variable {v0:Value} {w:World} {a:Act} {b:Frame}
theorem RQ{w w1 w2:World}(h:Kept (fun _=>False) w w1)(k:Kept (fun _=>False) w1 w2):Kept (fun _=>False) w w2:=
 ⟨Nat.le_trans h.size k.size,fun r hr _=>by rw[k.heap r (IM hr h.size) (fun h=>h),h.heap r hr fun h=>h],k.os.trans h.os,k.tape.trans h.tape,k.output.trans h.output,fun a ha=>by rw[k.fz a (IM ha h.size),h.fz a ha]⟩
theorem Agt(hb:Zx b){n:Nat}{kA:Nat->Option Obj}{BO:Nat->Nat->Value}(hA:WC w v0 n kA BO)(hn:n<=60)(h0:a.tmps[0]? =some v0)(hz:98<=a.tmps.size)(hd:a.defers=[]):
 El WD.P bd4 b a w .ret fun a' w'=>(a'.tmps[2]? =some (.bool true)/\a'.defers=[]/\98<=a'.tmps.size)/\Kept (fun _=>False) w w':=by
 rw[Ams];have Iy:stA.ok WD (sgI n kA BO):=⟨.cons ((BU (by decide)).2 (show decide ((n:Int)>60)=false from decide_eq_false (by omega))) .nil,.nil,trivial,.nil,.nil,.nil,.nil,.nil,.nil,.nil,.nil,.nil⟩;have Ke:=Aoa;obtain⟨r,hr⟩:∃r,evA=r:=⟨_,rfl⟩
 rw[hr]at Ke;obtain⟨fr,h,he,k1,k2⟩:∃fr h,r=some (.code .norm fr h)/\LR fr 0 (.one (.P3 0 8 (.var 0)))=true/\fr.marks=[]:=by
  clear hr;unfold Ahd at Ke;split at Ke
  ·rename_i fr h;rw[Ah]at Ke;exact⟨fr,h,rfl,Ke.1,List.isEmpty_iff.1 Ke.2⟩
  ·cases Ke
 obtain⟨fr1,h1,e1,e2⟩:=M3 (hr.trans he);have hR0:Rel (fun _=>none) (sgI n kA BO) (Is WD stA) hB w:=IF fun r o hk=>(hA.obj r o hk).2
 have hF0:IX (fun _=>none) (sgI n kA BO) 98 10 frA a:=by
  refine⟨hz,fun t u _ hu=>?_,(fun t v _ hv=>nomatch hv),by rw[hd];exact .nil⟩;have hu:=T.CZ (show T.get (T.ofList [AV.one (.P3 0 8 (.var 0))]) t=some u from hu)
  match t,hu with
  | 0,hu=>
   cases hu;obtain⟨p,k,e,h⟩:=hA.val;refine⟨v0,h0,p,n,k,e,rfl,h.imp id ?_⟩
   rintro ⟨r,o,cs,ty,z,q1,q2,q3,q4⟩
   exact⟨r,o,q1,cs,ty,z,q2,q3,q4⟩
  |t+1,hu=>cases hu
 have hc:=(Jl (Qs BZ Iy) (Qx Iy) 400).1;refine (hc X4 kR0 frA hB .norm fr1 h1 e1 _ w a b (hb.ctx rfl) hR0 hF0).Aee fun a1 w1 q1=>?_
 obtain⟨Jq1,f1,r1,x1⟩:=q1;refine (hc X4 kS1 fr1 h1 .norm fr h e2 Jq1 w1 a1 b (hb.ctx rfl) r1 f1).Aee fun a2 w2 q2=>?_
 obtain⟨Jq2,f2,r2,x2⟩:=q2;have hk:Kept (fun _=>False) w w2:=(x1.trans hR0 r1 x2).kept.mono fun r hr=>Ld hr
 obtain⟨v2,g1,p,M,k,e,hM,hp⟩:=f2.pt 0 _ (by decide) (JE k1);have hM:(M:Int)=(n:Int):=hM;obtain rfl:M=n:=by omega
 have hA2:WC w2 v2 M kA BO:=by
  refine⟨⟨p,k,e,hp.imp id ?_⟩,fun r o Cs=>?_,hA.kind⟩
  ·rintro ⟨r,o,q1,cs,ty,z,q2,q3,q4⟩
   exact⟨r,o,cs,ty,z,q1,q2,q3,q4⟩
  ·obtain⟨q1,q2⟩:=hA.obj r o Cs;exact⟨IM q1 hk.size,by rw[hk.heap r q1 fun h=>h];exact q2⟩
 have ha2:Aiq v2 a2:=⟨f2.size,g1,by rw[e];rfl,by
  have hm:=f2.marks;rw[k2]at hm;generalize a2.defers=D at hm ⊢;cases hm;rfl⟩
 refine AaU (w:=w2) hb ha2 (Q2:=fun a' w'=>(a'.defers=[]/\98<=a'.tmps.size)/\Kept (fun _=>False) w2 w') (fun Jq3 a3 w3 hs=>Agv hb hA2 hn hs) fun a4 w4 h4=>?_
 refine (Afr hb h4.1.1 h4.1.2).mono fun a5 w5 h5=>⟨h5.1,RQ hk (RQ h4.2 h5.2)⟩
end V
namespace V
open Go Eng Go.Proofs
variable {v0:Value} {w:World}
theorem An5{n:Nat}{kA:Nat->Option Obj}{BO:Nat->Nat->Value}(hA:WC w v0 n kA BO)(hn:n<=60):Ci WD.P 4 #[v0] w fun v' w'=>v'=.bool true/\Kept (fun _=>False) w w':=by
 refine⟨Tab.fu4.enters,fun cs=>?_⟩
 let b:Frame:={(default:Frame) with fn:=4,kind:=.normal}
 let a0:Act:=⟨#[v0]++Array.replicate 97 undef,[]⟩
 have henter:Frame.enter WD.P 4 #[v0] .normal=b.atR a0 [.code bd4]:=by
  have h4:WD.P.funcs[4]? =some Tryz.f4:=Tryz.func4
  have h5:Tryz.f4.body=some bd4:=by kernel_rfl
  have h6:Tryz.f4.ntmps=98:=by kernel_rfl
  simp only[Frame.enter,h4,h5,h6,Option.map_some,Option.getD_some,Option.bind_some]
  rfl
 obtain⟨a1,w1,⟨⟨h1,h2,h3⟩,hk⟩,k0,hst⟩:=Agt (b:=b) (a:=a0) (w:=w) ⟨rfl,rfl,rfl⟩ hA hn (by simp[a0]) (by simp[a0]) rfl [.code bd4] [] cs .code
 obtain⟨tm,df⟩:=a1
 have h2:df=[]:=h2
 subst h2
 refine⟨.bool true,w1,_,⟨rfl,hk⟩,(by rw[henter];exact hst.trans (.one (stepR_ret rfl))),rfl,rfl,rfl,rfl,Tryz.f4,Tryz.func4,?_⟩
 have h1:tm[2]? =some (.bool true):=h1
 have h6:tm.getD 2 undef=.bool true:=by rw[Array.getD_eq_getD_getElem?,h1];rfl
 show Sem.run WD.P (results Tryz.f4 tm) w1=.ok (.bool true) w1
 simp[results,Tryz.f4,go_sem,h1]
end V
end
