/- Code, loops, ranges over functions and whole calls are evaluated right. No conditions beside those in its theorems. -/
import Derived.Test.YtijplfaplkkpcaaGreatE6
import Derived.RangeFuncNested
import Derived.KernelRfl
import Derived.RowKit3
import Derived.IntWalk
set_option linter.unusedVariables false
set_option linter.unusedSimpArgs false
set_option linter.unusedSectionVars false
set_option linter.constructorNameAsVariable false
set_option maxRecDepth 100000
noncomputable section
namespace Eng
open Go
variable {J J':A1} {U:An} {C:AB} {P:Program} {o:Oper}
theorem H8{h:H}{l:Nat}{k:I1->OR}{r:Rs}(hk:Ul h l k=some r):∃x,h.get l=some (.loop x)/\k x=some r:=by
 obtain⟨b,hb,B1⟩:=Ar (o:=h.get l) hk;cases b with
 |loop x=>exact⟨x,hb,B1⟩
 |_=>cases B1
theorem Rel.loop{h:H}{w:World}(hr:Rel J U C h w){l r S:Nat}(hl:J l=some (r,S)){x:I1}(hg:h.get l=some (.loop x)):∃L,w.heap[r]? =some (.loop L)/\I2 J U C x L:=by
 obtain⟨ob,hw,hx⟩:=hr.AE l r S hl;obtain⟨L,rfl,hL⟩:=hx _ hg;exact⟨L,hw,hL⟩
theorem Rel.NN{h:H}{w:World}(hr:Rel J U C h w){l r S:Nat}(hl:J l=some (r,S)){x y:I1}{L:Loop}(hg:h.get l=some (.loop x))(hy:I2 J U C y L):
 Rel J U C (h.put l (.loop y)) (w.putObj r (.loop L))/\Ext U J J h (h.put l (.loop y)) w (w.putObj r (.loop L)):=
 hr.put hl ⟨_,hg,by simp⟩ (hr.one hl hg (by simp) (by simp)) _ _ ⟨L,rfl,hy⟩
theorem I2.st{x:I1}{L:Loop}(h:I2 J U C x L)(s:LoopState):I2 J U C {x with st:=s} {L with state:=s}:=by
 obtain⟨_,h2⟩:=h;exact⟨rfl,h2⟩
theorem I2.B8{x:I1}{L:Loop}(h:I2 J U C x L)(s:LoopState){j:Option Jp}{c:Option Code}(hj:jpR j c):I2 J U C {x with st:=s,B8:=j} {L with state:=s,pending:=c}:=by
 obtain⟨_,_,h2⟩:=h;exact⟨rfl,hj,h2⟩
theorem stepR_rangeFunc{b:Frame}{a:Act}{k:List Item}{cs:List Frame}{w w1:World}{f:Operand}{params:Array Tmp}{assign body:Code}{l:Nat}{mark:List Deferred}{g:FuncId}{DD:Array Value}
 (hent:(Instr.enterLoop b.fn a.tmps params assign body b.roundOf).run P w=.ok (l,mark) w1) (hf:a.eval f=.func (.func g) #[] DD) (hg:Enters P g):
 step P (lone (b.atR a (.code (.rangeFunc f params assign body)::k)) cs w)=
  .next (lone (Frame.enter P g (#[.func (.yield l) #[] #[]]++DD) .normal) (b.atR ⟨a.tmps,mark++a.defers⟩ (.inRangeFunc l::k)::cs) w1):=by
 have he:=Frame.eval_atR b ⟨a.tmps,mark++a.defers⟩ (.inRangeFunc l::k);have GJ:(⟨a.tmps,mark++a.defers⟩:Act).eval=a.eval:=by funext x;cases x<;>rfl
 rw[GJ]at he;simp only[Frame.atR]at he;have hx:(do let d <-resolve a.eval {callee:=.value f,args:= #[.const (.func (.yield l) #[] #[])],argTypes:= #[]} 0;invoke d.target d.args:Sem Next).run P w1=.ok (.enter g (#[.func (.yield l) #[] #[]]++DD)) w1:=by
  have:=hg (#[.func (.yield l) #[] #[]]++DD) w1;simp only[resolve,hf,Deferred.ofValue,Sem.run_bind,Sem.run_pure,Result.andThen_ok,invoke,Array.empty_append];rw[<-this];simp[Act.eval]
 refine step_lone_go ?_;simp[stepG,stepG.exec,Frame.atR,Sem.runT_eq,hent,GStep.bare_after,stepG.apply,he,hx]
theorem stepR_endRangeFunc{b:Frame}{a:Act}{k:List Item}{cs:List Frame}{w w1:World}{l:Nat}{j:Option Code}(he:(Instr.endLoop l).run P w=.ok j w1):
 step P (lone (b.atR a (.endRangeFunc l::k)) cs w)=.next (lone (b.atR a ((j.map Item.code).toList++k)) cs w1):=
 step_lone_go (by simp[stepG,stepG.exec,Frame.atR,Sem.runT_eq,he,GStep.bare_after])
theorem Ahg{rec:Rec}(K7:CY C P U rec){X:Ctx}{f:Operand}{params:Array Tmp}{assign body:Code}{fr fr2:FR}{h0 h:H}{g:FuncId}{DD:List Nat}{d:Nat}{o:Out}{DM:FR}{h':H}
 (hk:SR rec X fr2 params.toList assign body g DD d h=some (.code o DM h')) (hpt:fr2.pt=fr.pt) (htl:fr2.tl=.nil)
 {Jq0 J:A1} {w0 w:World} {a:Act} {b:Frame} {wd S:Nat} {mark:List Deferred} (hx:LV C J X b) (IS:Rel Jq0 U C h0 w0) (hr:Rel J U C h w) (he0:Ext U Jq0 J h0 h w0 w) (hf:IX J U X.nt X.nl fr a)
 (hm:F2 (Sc J) fr2.marks (mark++a.defers)) (hd:J d=some (wd,S))
 (hent:(Instr.enterLoop b.fn a.tmps params assign body b.roundOf).run P w0=.ok (w.heap.size,mark) (push w (.loop {state:=.ready,pending:=none,fn:=b.fn,tmps:=a.tmps,params,assign,body,defers:=wd})))
 (hv:∃cvs:List Value,a.eval f=.func (.func g) #[] cvs.toArray/\F2 (AeP J) DD cvs):
 El P (.rangeFunc f params assign body) b a w0 o (AcN C U Jq0 X.nt X.nl h0 h' w0 DM):=by
 obtain⟨vv,h1,hcall,B1⟩:=Lt hk;obtain⟨r,hrg,AW⟩:=H8 B1;have hs1:=hr.Gn (w.heap.size,0);obtain⟨fi,hfi1,hfi2,hfi3⟩:=hx.fi;have hL:I2 (GG J h.next (w.heap.size,0)) U C {st:=.ready,B8:=none,fn:=X.fn,tmps:=fr2.pt,params:=params.toList,assign,body,defs:=d}
  {state:=.ready,pending:=none,fn:=b.fn,tmps:=a.tmps,params,assign,body,defers:=wd}:=
  ⟨rfl,rfl,hx.fn,rfl,rfl,rfl,⟨fi,hfi1,by rw[hfi2];exact hf.size,by rw[hfi3,hpt];exact hf.pt.mono hs1⟩,⟨S,hs1 _ _ hd⟩⟩
 obtain⟨Ic,he1⟩:=hr.new (.loop {st:=.ready,B8:=none,fn:=X.fn,tmps:=fr2.pt,params:=params.toList,assign,body,defs:=d}) _ 0 ⟨_,rfl,hL⟩;obtain⟨cvs,Ke,Px⟩:=hv;have hyl:Bb (GG J h.next (w.heap.size,0)) U (.one (.Qe h.next)) (.func (.yield w.heap.size) #[] #[]):=⟨_,_,Ay _ _ _,rfl⟩;have hcv:F2 (Bb (GG J h.next (w.heap.size,0)) U) (Vj DD) cvs:=by
  clear hcall hk Ke
  induction Px with
  |nil=>exact .nil
  |cons hb _ ih=>obtain⟨r,S,h2,h3⟩:=hb;exact .cons ⟨r,S,hs1 _ _ h2,h3⟩ ih
 have hC:=K7.call X g _ _ vv h1 hcall _ _ _ Ic (.cons hyl hcv);refine DE (by simp) fun k cs=>?_
 obtain⟨v',w2,frx,⟨Jq2,_,hr2,he2⟩,s1,_,s2⟩:=hC.2 (b.atR ⟨a.tmps,mark++a.defers⟩ (.inRangeFunc w.heap.size::k)::cs);have hs2:=he2.sub Ic;have hl2:Jq2 h.next=some (w.heap.size,0):=hs2 _ _ (Ay _ _ _)
 obtain⟨L,hLw,hLr⟩:=hr2.loop hl2 hrg;unfold Xo at AW;have hnb:r.st ≠ .busy/\VW r.B8 fr2 (h1.put h.next (.loop {r with st:=.exhausted}))=some (.code o DM h'):=by
  split at AW
  ·cases AW
  ·rename_i hb;exact⟨hb,AW⟩
 obtain⟨DN,B9⟩:=hnb;have hend:=run_endLoop (P:=P) hLw (by rw[hLr.1];exact DN);obtain⟨hr3,he3⟩:=hr2.NN hl2 hrg (hLr.st .exhausted);have hs3:=he3.sub hr2;have DU:Sub J Jq2:=fun b x hb=>hs2 _ _ (hs1 b x hb)
 have hext:Ext U Jq0 Jq2 h0 _ w0 _:=(he0.trans IS hr he1).trans IS Ic (he2.trans Ic hr2 he3);have hfr:IX Jq2 U X.nt X.nl fr2 ⟨a.tmps,mark++a.defers⟩:=
  ⟨hf.size,by rw[hpt];exact hf.pt.mono DU,(by rw[htl];intro t v _ hv;exact nomatch hv),hm.mono fun _ _ ⟨r,S,g1,g2⟩=>⟨r,S,DU _ _ g1,g2⟩⟩
 have Fh:Steps P (lone (b.atR a (.code (.rangeFunc f params assign body)::k)) cs w0)
  (lone (b.atR ⟨a.tmps,mark++a.defers⟩ ((L.pending.map Item.code).toList++k)) cs (w2.putObj w.heap.size (.loop {L with state:=.exhausted}))):=by
  have s3:step P (lone frx (b.atR ⟨a.tmps,mark++a.defers⟩ (.inRangeFunc w.heap.size::k)::cs) w2)=.next (lone (b.atR ⟨a.tmps,mark++a.defers⟩ (.endRangeFunc w.heap.size::k)) cs w2):=step_leave_returned s2
  refine .head (stepR_rangeFunc hent Ke hC.1) (Steps.trans ?_ (.head s3 (.one (stepR_endRangeFunc hend))));have:(#[.func (.yield w.heap.size) #[] #[]]++cvs.toArray:Array Value)=(Value.func (.yield w.heap.size) #[] #[]::cvs).toArray:=by simp
  rw[this];exact s1
 have Pz:=hLr.2.1;unfold VW at B9;split at B9
 ·rename_i hp;cases B9;have hp':L.pending=none:=by rw[hp]at Pz;exact Pz
  refine⟨_,_,⟨Jq2,hfr,hr3,hext⟩,?_⟩;rw[hp']at Fh ⊢;exact Fh
 ·rename_i hp;cases B9;have hp':L.pending=some .ret:=by rw[hp]at Pz;exact Pz
  refine⟨_,_,⟨Jq2,hfr,hr3,hext⟩,k,?_⟩;rw[hp']at Fh ⊢;exact Fh
 ·rename_i id hp;cases B9;have hp':L.pending=some (.exit id):=by rw[hp]at Pz;exact Pz
  refine⟨_,_,⟨Jq2,hfr,hr3,hext⟩,k,rfl,?_⟩;rw[hp']at Fh ⊢;exact Fh
theorem Ahh{rec:Rec}(K7:CY C P U rec){X:Ctx}{f:Operand}{params:Array Tmp}{assign body:Code}{fr:FR}{h:H}{o:Out}{DM:FR}{h':H}
 (hk:ev (od X.nl f) fr.pt fr.tl (fun f=>DI f (Wr rec X fr h params.toList assign body))=some (.code o DM h')):Io C P U X (.rangeFunc f params assign body) fr h o DM h':=by
 obtain⟨u,hu,B1⟩:=Aq hk;obtain⟨fa,rfl,AW⟩:=AY B1;clear hk B1;cases fa with
 |fn g DD=>
  intro J w a b hx hr hf;obtain⟨cvs,Ke,Px⟩:=AaA hf.pt hf.tl hu;have RI:=hx.round;unfold Wr at AW;simp only at AW;split at AW
  ·rename_i hrd;rw[hrd]at RI;simp only at RI;have hs1:=hr.Gn (w.heap.size,0);obtain⟨Ic,he1⟩:=hr.new (.defs true) (.deferred (some [])) 0 rfl;refine Ahg (fr:=fr) K7 AW rfl rfl (hx.mono hs1) hr Ic he1 (hf.mono hs1) (mark:=[{target:=.collected w.heap.size,args:= #[]}]) (wd:=w.heap.size) (S:=0) ?_ (Ay _ _ _) ?_ ⟨cvs,Ke,?_⟩
   ·exact .cons ⟨_,_,Ay _ _ _,rfl⟩ (hf.mono hs1).marks
   ·rw[RI];have:=run_enterLoop_outer (P:=P) (w:=w) b.fn a.tmps params assign body;rw[this];simp only[World.alloc,push,Array.size_push]
   ·exact Px.mono fun _ _ ⟨r,S,h1,h2⟩=>⟨r,S,hs1 _ _ h1,h2⟩
  ·rename_i rr hrd;rw[hrd]at RI;obtain⟨wr,S,hwr,hbr⟩:=RI;obtain⟨l,hl,B9⟩:=H8 AW;obtain⟨L,hLw,hLr⟩:=hr.loop hwr hl;obtain⟨S',hdefs⟩:=hLr.2.2.2.2.2.2.2;refine Ahg (fr:=fr) K7 B9 rfl rfl hx hr hr (Ext.refl J h w hr) hf (mark:=[]) (wd:=L.defers) (S:=S') hf.marks hdefs ?_ ⟨cvs,Ke,Px⟩;rw[hbr];have:=run_enterLoop_inner (P:=P) hLw b.fn a.tmps params assign body;rw[this];rfl
 |_=>cases AW
end Eng
namespace Eng
open Go
variable {J J':A1} {U:An} {C:AB} {P:Program} {o:Oper}
theorem AcT{n:Nat}:∀{l:List Nat},AeF l n=true->∀t∈l,t<n:=by
 intro l
 induction l with
 |nil=>intro _ t ht;cases ht
 |cons x l ih=>
  intro h t ht;have h':@Bool.rec (fun _=>Bool) false (AeF l n) (Nat.blt x n)=true:=h;cases hb:Nat.blt x n with
  |false=>rw[hb]at h';cases h'
  |true=>
   rw[hb]at h';rcases BL.1 ht with e|e
   ·rw[e];exact Nat.le_of_ble_eq_true hb
   ·exact ih h' t e
theorem YX{nl:Nat}:∀{ps:List Tmp} {args:List AV} {vs:List Value} {pt:T AV} {tmps:Array Value},F2 (Bb J U) args vs->(∀t∈ps,t<tmps.size)->Zr J U nl pt tmps->
 Zr J U nl (Lk pt ps args) ((ps.zip vs).foldl (fun tmps (x:Tmp×Value)=>tmps.setIfInBounds x.1 x.2) tmps):=by
 intro ps
 induction ps with
 |nil=>intro args vs pt tmps _ _ hp;exact hp
 |cons t ps ih=>
  intro args vs pt tmps ha Au hp;cases ha with
  |nil=>exact hp
  |cons hv ha=>
   rename_i v va args vs;show Zr J U nl (Lk (pt.set t v) ps args) _;rw[List.zip_cons_cons,List.foldl_cons];refine ih ha (fun u hu=>by simpa using Au u (Gq _ hu)) ?_;intro u x hu hx;rcases T.DT hx with ⟨e1,e2⟩|⟨e1,e2⟩
   ·subst e1;subst e2;exact⟨va,by rw[Array.getElem?_setIfInBounds_self_of_lt (Au u (by simp))],hv⟩
   ·rw[Array.getElem?_setIfInBounds_ne (fun e=>e1 e.symm)];exact hp u x hu e2
theorem Aaa:∀(l:List (Tmp×Value)) (tmps:Array Value),(l.foldl (fun tmps (x:Tmp×Value)=>tmps.setIfInBounds x.1 x.2) tmps).size=tmps.size:=by
 intro l
 induction l with
 |nil=>intro _;rfl
 |cons x l ih=>intro tmps;rw[List.foldl_cons,ih];simp
theorem Aem{x:OR}{k:FR->H->OR}{v:AV}{h':H}(h:GY x k=some (.val v h')):∃fr hh,x=some (.code .norm fr hh)/\k fr hh=some (.val v h'):=by
 obtain⟨o,fr,hh,hx,hk⟩:=FC h;cases o with
 |norm=>exact⟨fr,hh,hx,hk⟩
 |exit id=>cases hk
 |ret=>cases hk
theorem As7{rec:Rec}(N7:QL C P U rec){l:Nat}{args:List AV}{h:H}{v:AV}{h':H}(hk:AlQ C rec l args h=some (.val v h')){J:A1}{w:World}{vs:List Value}{r S:Nat}
 (hl:J l=some (r,S)) (hr:Rel J U C h w) (ha:F2 (Bb J U) args vs):Z1 P r vs.toArray w (UW C U J h h' w v):=by
 obtain⟨x,hg,B1⟩:=H8 hk;obtain⟨fi,hfi,AW⟩:=Ar B1;obtain⟨hlen,B9⟩:=Ap AW;obtain⟨Au,Eb⟩:=Ap B9;obtain⟨fr1,h1,hassign,I7⟩:=Aem Eb;obtain⟨x2,hg2,KX⟩:=H8 I7;obtain⟨L,hLw,hLr⟩:=hr.loop hl hg;obtain⟨e1,e2,e3,e4,e5,e6,⟨fi',hfi',e7,e8⟩,e9⟩:=hLr;rw[hfi]at hfi';cases hfi';have Dr:args.length=x.params.length:=by rw[<-E8,<-E8];exact beq_eq hlen
 have hps:vs.toArray.size=L.params.size:=by
  have h1:L.params.size=x.params.length:=by rw[<-e4];simp
  have h2:=ha.length;simp;omega
 have hy:=run_yield (P:=P) (args:=vs.toArray) hLw hps
 let b:Frame:={(default:Frame) with fn:=L.fn,kind:=.normal,roundOf:=some r}
 let tm:Array Value:=(L.params.zip vs.toArray).foldl (fun tmps (t,a)=>tmps.setIfInBounds t a) L.tmps
 have htm:tm=(x.params.zip vs).foldl (fun tmps (x:Tmp×Value)=>tmps.setIfInBounds x.1 x.2) L.tmps:=by
  show (L.params.zip vs.toArray).foldl _ _=_;rw[<-Array.foldl_toList,Array.toList_zip,e4]
 have hfr:Frame.round r L.fn tm L.assign L.body .normal=b.atR ⟨tm,[]⟩ [.code L.assign,.beginRound,.code L.body]:=rfl;have hctx:∀{Jq2:A1},Sub J Jq2->LV C Jq2 ⟨x.fn,fi.nt,fi.nl,some l⟩ b:=fun hs=>⟨⟨fi,hfi,rfl,rfl⟩,e3,rfl,⟨r,S,hs _ _ hl,rfl⟩⟩
 have hF:IX J U fi.nt fi.nl ⟨Lk x.tmps x.params args,.nil,[]⟩ ⟨tm,[]⟩:=by
  refine⟨?_,?_,(fun t v _ hv=>nomatch hv),.nil⟩
  ·show fi.nt<=tm.size;rw[htm,Aaa];exact e7
  ·show Zr J U fi.nl _ tm;rw[htm];exact YX ha (fun t ht=>IM (AcT Au t ht) e7) e8
 refine⟨tm,L.assign,L.body,L.fn,hy,fun c cs=>?_⟩;obtain⟨a1,w1,⟨Jq1,f1,r1,x1⟩,c1⟩:=N7 _ _ _ _ _ _ _ hassign J w ⟨tm,[]⟩ b (hctx (Sub.refl J)) hr hF (.code L.assign::[.beginRound,.code L.body]) [.beginRound,.code L.body] (c::cs) (by rw[<-e5];exact .code);have hs1:=x1.sub hr;have hl1:=hs1 _ _ hl;obtain⟨L2,hLw2,hLr2⟩:=r1.loop hl1 hg2;unfold WT at KX;split at KX
 ·rename_i hready;have hbeg:=run_beginRound (P:=P) hLw2 (by rw[hLr2.1];exact hready);obtain⟨r2,x2'⟩:=r1.NN hl1 hg2 (hLr2.st .busy);obtain⟨o,fr3,h3,hbody,N4⟩:=FC KX;obtain⟨x3,hg3,N5⟩:=H8 N4;obtain⟨a3,w3,⟨Jq3,f3,r3,x3'⟩,c3⟩:=N7 _ _ _ _ _ _ _ hbody Jq1 _ a1 b (hctx hs1) r2 f1 [.code L.body] [] (c::cs) (by rw[<-e6];exact .code);have hs3:=x3'.sub r2;have hl3:=hs3 _ _ hl1;obtain⟨L3,hLw3,hLr3⟩:=r3.loop hl3 hg3;have x13:=(x1.trans hr r1 x2').trans hr r2 x3';have start:Steps P (lone (Frame.round r L.fn tm L.assign L.body .normal) (c::cs) w) (lone (b.atR a1 [.code L.body]) (c::cs) (w1.putObj r (.loop {L2 with state:=.busy}))):=by
   rw[hfr];exact Steps.trans c1 (.one (stepR_beginRound rfl hbeg))
  cases o with
  |norm=>
   cases N5;have hend:=run_endRound (P:=P) none hLw3;obtain⟨r4,x4⟩:=r3.NN hl3 hg3 (hLr3.B8 .ready (j:=none) (c:=none) rfl);exact⟨_,_,⟨Jq3,rfl,r4,x13.trans hr r3 x4⟩,start.trans (Steps.trans c3 (.one (stepR_round_end rfl rfl hend)))⟩
  |ret=>
   cases N5;have hend:=run_endRound (P:=P) (some .ret) hLw3;obtain⟨r4,x4⟩:=r3.NN hl3 hg3 (hLr3.B8 .done (j:=some .ret) (c:=some .ret) rfl);obtain⟨k0,g⟩:=c3;exact⟨_,_,⟨Jq3,rfl,r4,x13.trans hr r3 x4⟩,start.trans (g.trans (.one (stepR_round_ret rfl rfl hend)))⟩
  |exit id=>
   cases N5;have hend:=run_endRound (P:=P) (some (.exit id)) hLw3;obtain⟨r4,x4⟩:=r3.NN hl3 hg3 (hLr3.B8 .done (j:=some (.exit id)) (c:=some (.exit id)) rfl);obtain⟨k0,g0,g⟩:=c3;exact⟨_,_,⟨Jq3,rfl,r4,x13.trans hr r3 x4⟩,start.trans (g.trans (.one (stepR_round_exit rfl rfl (g0.trans rfl) hend)))⟩
 ·cases KX
theorem AjF{nl nt:Nat}:∀{l:List Nat} {h:H} {k:H->OR} {r:Rs},Lo l h k=some r->∃h',k h'=some r/\∀P U J w (ds:List Deferred),Rel J U C h w->F2 (Sc J) l ds->
 ∃w',Rel J U C h' w'/\Ext U J J h h' w w'/\∀(fr:Frame) cs,fr.mode=.returning->fr.defers=ds->Steps P (lone fr cs w) (lone {fr with defers:=[]} cs w'):=by
 intro l
 induction l with
 |nil=>
  intro h k r hk;refine⟨h,hk,?_⟩;intro P U J w ds hr hd;cases hd;refine⟨w,hr,Ext.refl J h w hr,?_⟩;intro fr cs hm hd;have:({fr with defers:=[]}:Frame)=fr:=by cases fr;simp at hd;subst hd;rfl
  rw[this];exact .refl P _
 |cons m l ih=>
  intro h k r hk;have Cs:Sf h m (fun h=>Lo l h k)=some r:=hk;unfold Sf at Cs;split at Cs
  ·rename_i hg;obtain⟨h',h1,h2⟩:=ih Cs;refine⟨h',h1,?_⟩;intro P U J w ds hr hd;cases hd with
   |cons hm hds=>
    rename_i d ds;obtain⟨rr,S,hb,rfl⟩:=hm;obtain⟨ob,hw,hx⟩:=hr.AE m rr S hb;have hob:ob=.deferred (some []):=hx _ hg;subst hob;have htake:=run_takeDeferred (P:=P) hw;obtain⟨r1,e1⟩:=hr.put hb ⟨_,hg,by simp⟩ (hr.one hb hg (by simp) (by simp)) (.defs false) (.deferred none) rfl;obtain⟨w',r2,e2,hs⟩:=h2 P U J _ ds r1 hds;refine⟨w',r2,e1.trans hr r1 e2,?_⟩;intro fr cs hm hd;have hstep:=step_collected (P:=P) (cs:=cs) (by rw[hm];simp) hd rfl htake;exact .head hstep (hs {fr with defers:=ds} cs hm rfl)
  ·cases Cs
def AdX(tmps:Array Value):ResultVar->Sem Value
 |.tmp t=>pure (tmps.getD t undef)
 |.cell a t=>do loadVar t (<-asAddr (tmps.getD a undef))
theorem Ahn{nl:Nat}{fr:FR}{h:H}{rv:ResultVar}{k:AV->OR}{r:Rs}(hk:Wm C nl fr h rv k=some r):∃v,k v=some r/\∀P U J w (tmps:Array Value),A4 P C U->Rel J U C h w->Zr J U nl fr.pt tmps->TlR J U nl fr.tl tmps->
 ∃v',(AdX tmps rv).run P w=.ok v' w/\Bb J U v v':=by
 cases rv with
 |tmp t=>
  obtain⟨u,hu,B1⟩:=Aq (show ev (Dn nl t) fr.pt fr.tl k=some r from hk);exact⟨u,B1,fun P U J w tmps _ _ hp ht=>⟨_,rfl,La hp ht hu⟩⟩
 |cell a t=>
  obtain⟨u,hu,B1⟩:=Aq (show ev (Dn nl a) fr.pt fr.tl _=some r from hk);obtain⟨b,off,rfl,AW⟩:=FV B1;cases ht:C.ty t with
  |none=>rw[AH ht]at AW;cases AW
  |some ti=>
   rw[AI ht]at AW;cases ha:ti.agg with
   |false=>
    rw[ha]at AW;obtain⟨c,n,f,s,x,hg,Au,hx,B9⟩:=Sv AW;refine⟨.one x,B9,?_⟩;intro P U J w tmps hc hr hp htl;obtain⟨rr,S,hb,he⟩:=La hp htl hu;obtain⟨v,hv,Gy⟩:=hr.cell hb hg Au hx;have h1:=(hc.ty t ti ht).GR w;rw[ha]at h1;exact⟨v,by simp[AdX,he,asAddr,loadVar,h1,hv],Gy⟩
   |true=>
    rw[ha]at AW;obtain⟨c,n,f,s,l,hg,hle,hx,B9⟩:=HJ AW;refine⟨.agg l,B9,?_⟩;intro P U J w tmps hc hr hp htl;obtain⟨rr,S,hb,he⟩:=La hp htl hu;obtain⟨vs,hf,hlen,hv⟩:=hr.cells hb hg hle hx;have h1:=(hc.ty t ti ht).GR w;have h2:=(hc.ty t ti ht).BE w;rw[ha]at h1;have h3:=run_loadCells_list (P:=P) (w:=w) ⟨rr,off,none⟩ vs hv;rw[hlen]at h3;exact⟨.agg vs.toArray,by simp[AdX,he,asAddr,loadVar,h1,h2,h3],vs,rfl,hf⟩
theorem AdY{nl:Nat}{fr:FR}{h:H}:∀{l:List ResultVar} {k:List V->OR} {r:Rs},NU C nl fr h l k=some r->∃vs,k vs=some r/\∀P U J w (tmps:Array Value),A4 P C U->Rel J U C h w->Zr J U nl fr.pt tmps->TlR J U nl fr.tl tmps->
 ∃us,(l.mapM (AdX tmps)).run P w=.ok us w/\F2 (VR J U) vs us:=by
 intro l
 induction l with
 |nil=>intro k r hk;exact⟨[],hk,fun P U J w tmps _ _ _ _=>⟨[],rfl,.nil⟩⟩
 |cons rv l ih=>
  intro k r hk;obtain⟨v,B1,h1⟩:=Ahn (show Wm C nl fr h rv (fun v=>vK v fun v=>NU C nl fr h l fun vs=>k (v::vs))=some r from hk);obtain⟨x,rfl,AW⟩:=Ho B1;obtain⟨vs,B9,h2⟩:=ih AW;refine⟨x::vs,B9,?_⟩;intro P U J w tmps hc hr hp ht;obtain⟨u,g1,g2⟩:=h1 P U J w tmps hc hr hp ht;obtain⟨us,g3,g4⟩:=h2 P U J w tmps hc hr hp ht;exact⟨u::us,by simp[List.mapM_cons,g1,g3],.cons (Bb.ofV _ _ g2) g4⟩
theorem YU{fn:Func}{tmps:Array Value}{us:List Value}{vs:List V}{w:World}(h:(fn.results.toList.mapM (AdX tmps)).run P w=.ok us w)(hv:F2 (VR J U) vs us):
 ∃v',(results fn tmps).run P w=.ok v' w/\Bb J U (Aog vs) v':=by
 have h1:(results fn tmps).run P w=.ok (if h:us.toArray.size=1 then us.toArray[0] else .tuple us.toArray) w:=by
  have h0:results fn tmps=(do let vs <-fn.results.mapM (AdX tmps);pure (if h:vs.size=1 then vs[0] else .tuple vs)):=rfl;rw[h0,Array.mapM_eq_mapM_toList];simp[h]
 rw[h1];refine⟨_,rfl,?_⟩;cases hv with
 |nil=>exact⟨[],rfl,.nil⟩
 |cons h0 hv=>
  cases hv with
  |nil=>exact VR.av _ _ h0
  |cons h2 hv=>exact⟨_,by simp,.cons h0 (.cons h2 hv)⟩
theorem Am0(hc:A4 P C U){rec:Rec}(N7:QL C P U rec){f:FuncId}{args:List AV}{h:H}{v:AV}{h':H}{fi:FI}(hfi:C.fu f=some fi)(hk:Wq C rec f args h fi=some (.val v h')){J:A1}{w:World}{vs:List Value}
 (hr:Rel J U C h w) (ha:F2 (Bb J U) args vs):Ci P f vs.toArray w (UW C U J h h' w v):=by
 obtain⟨fn,hfn,hbody,hnt,hres,hname⟩:=(hc.fu f fi hfi).ex;obtain⟨o,fr1,h1,Nz,B1⟩:=FC hk
 let b:Frame:={(default:Frame) with fn:=f,kind:=.normal}
 let a0:Act:=⟨vs.toArray++Array.replicate (fi.nt-vs.toArray.size) undef,[]⟩
 have Mn:Frame.enter P f vs.toArray .normal=b.atR a0 [.code fi.body]:=by
  simp only[Frame.enter,hfn,hbody,Option.map_some,Option.getD_some,Option.bind_some,hnt];rfl
 have hF:IX J U fi.nt fi.nl ⟨T.ofList args,.nil,[]⟩ a0:=by
  refine⟨?_,?_,(fun t v _ hv=>nomatch hv),.nil⟩
  ·show fi.nt<=(vs.toArray++Array.replicate (fi.nt-vs.toArray.size) undef).size;simp;omega
  ·intro t u _ hu;obtain⟨v',h2,h3⟩:=ha.get (T.CZ hu);refine⟨v',?_,h3⟩;show (vs.toArray++Array.replicate (fi.nt-vs.toArray.size) undef)[t]? =_
   have Au:t<vs.toArray.size:=by have:=(Oq.1 h2).1;simpa using this
   rw[Array.getElem?_append_left Au];simpa using h2
 have hmarks:∃hh,Lo fr1.marks h1 (fun h=>NU C fi.nl fr1 h fi.results fun vs=>some (.val (Aog vs) h))=some (.val v h')/\(hh=o/\∀id,o ≠ .exit id):=by
  unfold AlP at B1;split at B1
  ·cases B1
  ·rename_i Bs;exact⟨o,B1,rfl,Bs⟩
 obtain⟨_,AW,_,Bs⟩:=hmarks;obtain⟨h2,B9,hm⟩:=AjF (nl:=0) (nt:=0) AW;obtain⟨xs,Eb,hresults⟩:=AdY B9;cases Eb;refine⟨fun args w=>(by simp[callFunc,hfn,hname,hbody]),fun cs=>?_⟩;obtain⟨a1,w1,⟨Jq1,f1,r1,x1⟩,c1⟩:=N7 _ _ _ _ _ _ _ Nz J w a0 b ⟨⟨fi,hfi,rfl,rfl⟩,rfl,rfl,rfl⟩ hr hF _ [] cs .code;obtain⟨w2,r2,x2,Fh⟩:=hm P U Jq1 w1 a1.defers r1 f1.marks;obtain⟨us,g1,g2⟩:=hresults P U Jq1 w2 a1.tmps hc r2 f1.pt f1.tl;rw[<-hres]at g1;obtain⟨v',g3,g4⟩:=YU g1 g2;have hret:∃todo,Steps P (lone (Frame.enter P f vs.toArray .normal) cs w) (lone {b.atR a1 todo with mode:=.returning} cs w1):=by
  rw[Mn];cases o with
  |norm=>exact⟨[],Steps.trans c1 (.one (stepR_end rfl))⟩
  |ret=>obtain⟨k0,g⟩:=c1;exact⟨_,g.trans (.one (stepR_ret rfl))⟩
  |exit id=>exact absurd rfl (Bs id)
 obtain⟨todo,hret⟩:=hret;refine⟨v',w2,_,⟨Jq1,g4,r2,x1.trans hr r1 x2⟩,hret.trans (Fh _ cs rfl rfl),rfl,rfl,rfl,rfl,fn,hfn,?_⟩;exact g3
def AsZ(C:AB)(P:Program)(U:An):Prop:=∀f args h v h',C.ext f args h=some (v,h')->∀J w vs,Rel J U C h w->F2 (Bb J U) args vs->
 Ci P f vs.toArray w (UW C U J h h' w v)
def JL(P:Program)(c:Code)(b:Frame)(a:Act)(w:World)(Q:Act->World->Prop):Prop:=∀todo k cs,Mb (.loop c) todo k->∃a' w' todo',Q a' w'/\Mb (.loop c) todo' k/\Steps P (lone (b.atR a todo) cs w) (lone (b.atR a' todo') cs w')
def Z0(C:AB)(P:Program)(U:An):Prop:=∀f k s,C.lp f k=some s->∀fr h,s.start fr h=true->∀(X:Ctx) (c:Code),X.fn=f->Jt c=k->s.run X.fn X.nt X.nl X.round c=true->∀J w a b,LV C J X b->Rel J U C h w->IX J U X.nt X.nl fr a->
 JL P c b a w (AcN C U J X.nt X.nl h (s.fin fr h).2 w (s.fin fr h).1)
theorem Z0.none(h:C.lp=fun _ _=>none):Z0 C P U:=fun f k s hs=>by rw[h]at hs;cases hs
structure JK(C:AB)(P:Program)(U:An):Prop where
 ext:AsZ C P U
 lp:Z0 C P U
theorem Tl.ahead{m m1:Machine}{b:Frame}{k:List Item}{cs:List Frame}{o:Out}{a:Act}{w:World}(h:Steps P m m1)(h':Tl P m1 b k cs o a w):Tl P m b k cs o a w:=Tl.of_steps h h'
theorem Jl(hc:A4 P C U)(hx:JK C P U):∀n,QL C P U (eval C n)/\CY C P U (eval C n):=by
 intro n
 induction n with
 |zero=>exact⟨fun X c fr h o DM h' hk=>(nomatch hk),⟨fun X f args h v h' hk=>(nomatch hk),fun X l args h v h' hk=>(nomatch hk)⟩⟩
 |succ n ih=>
  obtain⟨Nz,K7⟩:=ih;refine⟨?_,⟨?_,?_⟩⟩
  ·intro X c fr h o DM h' hk;have Cs:AaS C (eval C n) X c fr h=some (.code o DM h'):=hk;show Io C P U X c fr h o DM h';unfold AaS at Cs;split at Cs
   ·cases Cs;exact stay (by simp) fun b a w k cs=>.one stepR_skip
   ·cases Cs;exact stay (by simp) fun b a w k cs=>.one stepR_label
   ·rename_i draw;cases draw with
    |true=>exact AiT hc K7 Cs
    |false=>exact AdW hc K7 Cs
   ·exact Ah3 Nz Cs fun b a todo k cs hs=>by
     cases hs;exact⟨_,.code,fun id=>rfl,fun w=>.one stepR_seq⟩
   ·exact AiK Nz Cs
   ·exact AeN Nz Cs
   ·rename_i lb;have plain:∀{fr:FR} {h:H},GY (eval C n X (.code lb fr) h) (fun fr h=>eval C n X (.code (.loop lb) fr) h)=some (.code o DM h')->Io C P U X (.loop lb) fr h o DM h':=fun Cs=>Ah3 Nz Cs fun b a todo k cs hs=>by
     cases hs with
     |code=>exact⟨_,.loop,fun id=>rfl,fun w=>.one stepR_loop⟩
     |loop=>exact⟨_,.loop,fun id=>rfl,fun w=>.one stepR_inLoop⟩
    have B9:@Option.rec HU (fun _=>OR) (GY (eval C n X (.code lb fr) h) fun fr h=>eval C n X (.code (.loop lb) fr) h) (fun s=>@Bool.rec (fun _=>OR) (GY (eval C n X (.code lb fr) h) fun fr h=>eval C n X (.code (.loop lb) fr) h) (GY (eval C n X (.code lb (s.fin fr h).1) (s.fin fr h).2) fun fr h=>eval C n X (.code (.loop lb) fr) h) (s.start fr h&&s.run X.fn X.nt X.nl X.round lb)) (C.lp X.fn (Jt lb))=some (.code o DM h'):=Cs;cases hlp:C.lp X.fn (Jt lb) with
    |none=>rw[hlp]at B9;exact plain B9
    |some s=>
     rw[hlp]at B9;have Eb:@Bool.rec (fun _=>OR) (GY (eval C n X (.code lb fr) h) fun fr h=>eval C n X (.code (.loop lb) fr) h) (GY (eval C n X (.code lb (s.fin fr h).1) (s.fin fr h).2) fun fr h=>eval C n X (.code (.loop lb) fr) h) (s.start fr h&&s.run X.fn X.nt X.nl X.round lb)=some (.code o DM h'):=B9;cases hb:(s.start fr h&&s.run X.fn X.nt X.nl X.round lb) with
     |false=>rw[hb]at Eb;exact plain Eb
     |true=>
      rw[hb]at Eb;simp only[Ah]at hb;intro J w a b hxr hr hf todo k cs hs;obtain⟨a1,w1,todo',⟨Jq1,g2,g3,g4⟩,s1,s2⟩:=hx.lp _ _ _ hlp fr h hb.1 X lb rfl rfl hb.2 J w a b hxr hr hf todo k cs hs;obtain⟨a2,w2,⟨Jq2,f2,r2,x2⟩,c2⟩:=plain Eb Jq1 w1 a1 b (hxr.mono (g4.sub hr)) g3 g2 todo' k cs s1;exact⟨a2,w2,⟨Jq2,f2,r2,g4.trans hr g3 x2⟩,.ahead s2 c2⟩
   ·exact Ah2 Nz Cs
   ·cases Cs;exact stay (by simp) fun b a w k cs=>⟨k,rfl,.refl P _⟩
   ·cases Cs;exact stay (by simp) fun b a w k cs=>⟨k,.refl P _⟩
   ·exact Ahh K7 Cs
   ·cases Cs
  ·intro X f args h v h' hk J w vs hr ha;have Cs:@Option.rec (AV×H) (fun _=>OR) (@Option.rec FI (fun _=>OR) none (Wq C (eval C n) f args h) (C.fu f)) (fun r=>some (.val r.1 r.2)) (C.ext f args h)=some (.val v h'):=hk;cases he:C.ext f args h with
   |some r=>
    rw[he]at Cs;cases Cs;exact hx.ext f args h r.1 r.2 he J w vs hr ha
   |none=>
    rw[he]at Cs;cases hfi:C.fu f with
    |none=>rw[hfi]at Cs;cases Cs
    |some fi=>
     rw[hfi]at Cs;exact Am0 hc Nz hfi Cs hr ha
  ·intro X l args h v h' hk J w vs r S hl hr ha;exact As7 Nz hk hl hr ha
end Eng
namespace Eng
open Go
variable {J:A1} {U:An} {C:AB} {P:Program}
theorem Rel.below{J:A1}{h:H}{w w':World}(hr:Rel J U C h w)(hs:w.heap.size<=w'.heap.size)(hk:∀r,r<w.heap.size->w'.heap[r]? =w.heap[r]?):Rel J U C h w' where
 lt:=hr.lt
 Am:=(hr.Am.step (h':=h) (w':=w') (fun _ _ h=>h) (fun r hf=>hk r (hr.Am.lt hf)) fun b r S hb=>.inl ⟨b,S,hb⟩).1
 kept:=fun r o Cs=>⟨(hk r (hr.Yf Cs)).trans (hr.kept r o Cs).1,(hr.kept r o Cs).2⟩
 AE:=fun b r S hb=>by
  obtain⟨o,ho,hx⟩:=hr.AE b r S hb;exact⟨o,by rw[hk r (hr.lt_size hb)];exact ho,hx⟩
 inj:=hr.inj
end Eng
namespace Eng
open Go
variable {P:Program}
def A.lit:A->Value
 |.bool b=>.bool b
 |.int k n=>.int k n
 |.str s=>.string s
 |.HB=>.pointer none
 |.B7=>.slice none 0 0
 |.Jv=>.map none
 |.KF=>.nilFunc
 |_=>undef
def A.isLit:A->Bool
 |.bool _|.int .. |.str _|.HB|.B7|.Jv|.KF=>true
 |_=>false
theorem AjB(J:A1)(U:An):∀{l:List A},l.all A.isLit=true->F2 (AR J U) l (l.map A.lit):=by
 intro l
 induction l with
 |nil=>intro _;exact .nil
 |cons a l ih=>
  intro h;simp only[List.all_cons,Ah]at h;refine .cons ?_ (ih h.2);cases a<;>first|rfl|cases h.1
def TI.JI(ti:TI):Value:=bif ti.agg then .agg (ti.zero.map A.lit).toArray else (ti.zero.map A.lit).headD undef
theorem Qk.of{t:TypeId}{ti:TI}(hu:P.underlying t=some ti.CR)(hi:(P.info? t).map (fun i=>(i.size,i.bytes,i.zero))=some (ti.size,ti.bytes,some ti.JI))(hl:ti.zero.all A.isLit=true)(hn:Nat.beq ti.zero.length ti.size=true)
 (h1:(ti.agg||Nat.beq ti.zero.length 1)=true) (ha:ti.agg=(match ti.CR with |.struct _|.array _ _=>true|_=>false)) (hp:ti.plain=true->P.stoodInHeld t=false):Qk P t ti:=by
 refine⟨hu,?_,ha,hp⟩;cases hinfo:P.info? t with
 |none=>rw[hinfo]at hi;cases hi
 |some i=>
  rw[hinfo]at hi;simp only[Option.map_some,Option.some.injEq,Prod.mk.injEq]at hi;refine⟨i,rfl,hi.1,hi.2.1,ti.JI,hi.2.2,ti.zero.map A.lit,?_,fun J U=>AjB J U hl,beq_eq hn,?_,?_⟩
  ·unfold TI.JI;cases Df:ti.agg with
   |true=>rfl
   |false=>
    rw[Df]at h1;have h2:ti.zero.length=1:=beq_eq (by simpa using h1);cases hz:ti.zero with
    |nil=>rw[hz]at h2;cases h2
    |cons a l=>cases l with
     |nil=>
      rw[hz]at hl;simp only[List.all_cons,List.all_nil,Bool.and_true]at hl;cases a<;>first|rfl|cases hl
     |cons b l=>rw[hz]at h2;simp at h2
  ·intro Df;unfold TI.JI;rw[Df];rfl
  ·intro Df;unfold TI.JI;rw[Df]at h1 ⊢;have h2:ti.zero.length=1:=beq_eq (by simpa using h1);cases hz:ti.zero with
   |nil=>rw[hz]at h2;cases h2
   |cons a l=>cases l with
    |nil=>rfl
    |cons b l=>rw[hz]at h2;simp at h2
def Hn{α:Type}:List (Nat×α)->T α
 | []=>.nil
 |(n,x)::l=>(Hn l).set n x
theorem Il{α:Type}:∀{l:List (Nat×α)} {n:Nat} {x:α},(Hn l).get n=some x->(n,x)∈l:=by
 intro l
 induction l with
 |nil=>intro n x h;cases h
 |cons p l ih=>
  intro n x h;rcases T.DT h with ⟨e1,e2⟩|⟨_,e2⟩
  ·subst e1;subst e2;simp
  ·exact Gq _ (ih e2)
inductive Al{α:Type}(p:α->Prop):List α->Prop
 |nil:Al p []
 |cons {a l}:p a->Al p l->Al p (a::l)
theorem Al.mem{α:Type}{p:α->Prop}:∀{l:List α},Al p l->∀x∈l,p x:=by
 intro l h
 induction h with
 |nil=>intro x hx;cases hx
 |cons h0 _ ih=>
  intro x hx;rcases BL.1 hx with e|e
  ·exact e▸h0
  ·exact ih x e
theorem A4.of{C:AB}{U:An}(ht:∀t ti,C.ty t=some ti->Qk P t ti)(hf:∀f fi,C.fu f=some fi->WI P f fi)
 (hc:∀op x y r,C.cmp op x y=some r->BQ op (x.den U) (y.den U)=r) (hm:P.follows .mixedOrders=true)
 (hn:∀e n,C.norm e=some n->e.den U=n:=by intro _ _ h;exact nomatch h)
 (hs:∀a b e,C.sum a b=some e->e.den U=a.den U+b.den U:=by intro _ _ _ h;exact nomatch h) (hd:∀a b e,C.dif a b=some e->e.den U=a.den U-b.den U:=by intro _ _ _ h;exact nomatch h)
 (hcat:∀t n t2 lo m t',C.cat t n t2 lo m=some t'->∀N M:Nat,(N:Int)=n.den U->(M:Int)=m.den U->∀j c,j<N+M->U.r t' j c=if j<N then U.r t j c else U.r t2 ((lo.den U).toNat+(j-N)) c:=by intro _ _ _ _ _ _ h;exact nomatch h)
 (hrd:∀t e c a,C.rd t e c=some a->∀(J:A1) (v:Value),v=U.r t (e.den U).toNat c->AR J U a v:=by intro _ _ _ _ h;exact nomatch h)
 (MB:∀t e o,C.mr t e=some o->∀J:A1,match o with |some v=>∃u,U.m t (e.den U)=some u/\VR J U v u|none=>U.m t (e.den U)=none:=by intro _ _ _ h;exact nomatch h):A4 P C U:=
 ⟨ht,hf,hc,hn,hm,hs,hd,hrd,MB,hcat⟩
end Eng
namespace Eng
open Go Go.RowKit
variable {P:Program} {C:AB} {U:An}
end Eng
namespace Eng
open Go Go.RowKit
variable {P:Program} {C C':AB} {U:An} {J:A1}
theorem BR.cfg(h:C.fu=C'.fu){x:Aj}{o:Obj}{S:Nat}(hx:BR J U C x o S):BR J U C' x o S:=by
 cases x with
 |loop l=>
  obtain⟨L,h1,a,b,c,d,e,f,⟨fi,g1,g2,g3⟩,g⟩:=hx;exact⟨L,h1,a,b,c,d,e,f,⟨fi,by rw[<-h];exact g1,g2,g3⟩,g⟩
 |cells c n f s=>exact hx
 |map es clock=>exact hx
 |iter m since seen last=>exact hx
 |defs opn=>exact hx
 |vm c n sp=>exact hx
 |row t es n sp=>exact hx
 |Ej t kn=>exact hx
 |dead=>trivial
 |Am t=>exact hx
theorem Rel.cfg(h:C.fu=C'.fu){hh:H}{w:World}(hr:Rel J U C hh w):Rel J U C' hh w where
 lt:=hr.lt
 Am:=hr.Am
 kept:=hr.kept
 AE:=fun b r S hb=>by
  obtain⟨o,ho,hx⟩:=hr.AE b r S hb;exact⟨o,ho,fun x hg=>(hx x hg).cfg h⟩
 inj:=hr.inj
structure Ae5 where
 f:FuncId
 args:List AV
 v:AV
def Ame(P:Program)(U:An)(C:AB)(s:Ae5):Prop:=∀J h w vs,Rel J U C h w->F2 (Bb J U) s.args vs->
 Ci P s.f vs.toArray w (UW C U J h h w s.v)
def Vb(a b:List AV):Bool:=Av AV.AJ a b
def AiX(l:List Ae5)(f:FuncId)(args:List AV)(h:H):Option (AV×H):=
 @List.rec Ae5 (fun _=>Option (AV×H)) none (fun s _ r=>@Bool.rec (fun _=>Option (AV×H)) r (@Bool.rec (fun _=>Option (AV×H)) r (some (s.v,h)) (Vb s.args args)) (Nat.beq s.f f)) l
theorem AiY{l:List Ae5}(h:Al (Ame P U C) l):∀f args hh v h',AiX l f args hh=some (v,h')->h'=hh/\Ame P U C ⟨f,args,v⟩:=by
 induction h with
 |nil=>intro f args hh v h' hk;cases hk
 |cons h0 _ ih=>
  rename_i s l _;intro f args hh v h' hk;have Cs:@Bool.rec (fun _=>Option (AV×H)) (AiX l f args hh) (@Bool.rec (fun _=>Option (AV×H)) (AiX l f args hh) (some (s.v,hh)) (Vb s.args args)) (Nat.beq s.f f)=some (v,h'):=hk;cases h1:Nat.beq s.f f with
  |false=>rw[h1]at Cs;exact ih f args hh v h' Cs
  |true=>
   rw[h1]at Cs;cases h2:Vb s.args args with
   |false=>rw[h2]at Cs;exact ih f args hh v h' Cs
   |true=>
    rw[h2]at Cs;cases Cs;have e1:=beq_eq h1;have e2:=Ag (fun _ _=>AV.Ac) h2;refine⟨rfl,?_⟩;rw[<-e1,<-e2];exact h0
theorem JK.of{l:List Ae5}(he:C.ext=AiX l)(h:Al (Ame P U C) l)(hlp:Z0 C P U:=by exact Z0.none rfl):JK C P U:=by
 refine⟨?_,hlp⟩;intro f args hh v h' hk J w vs hr EU;rw[he]at hk;obtain⟨rfl,hs⟩:=AiY h f args hh v h' hk;exact hs J h' w vs hr EU
end Eng
namespace Eng
open Go Go.RowKit
variable {P:Program} {C C':AB} {U:An} {J J':A1}
def AnV(a b:Option A):Bool:=match a,b with |none,none=>true|some a,some b=>a.AJ b|_,_=>false
theorem AjV{a b:Option A}(h:AnV a b=true):a=b:=by
 cases a<;>cases b<;>first|rfl|(cases h;done)|(rw[A.Ac (show A.AJ _ _=true from h)])
def MQ(a:T A):T A->Bool:=
 @T.rec A (fun _=>T A->Bool) (fun b=>@T.rec A (fun _=>Bool) true (fun _ _ _ _ _=>false) b)
  (fun v _ _ rl rr b=>@T.rec A (fun _=>Bool) false (fun v' l' r' _ _=>AnV v v'&&(rl l'&&rr r')) b) a
theorem Xd:∀{a b:T A},MQ a b=true->a=b:=by
 intro a
 induction a with
 |nil=>intro b h;cases b with |nil=>rfl|node v l r=>cases h
 |node v l r ihl ihr=>
  intro b h;cases b with
  |nil=>cases h
  |node v' l' r'=>
   have h':(AnV v v'&&(MQ l l'&&MQ r r'))=true:=h;simp only[Ah]at h';rw[AjV h'.1,ihl h'.2.1,ihr h'.2.2]
def Ar0(a b:Option Nat):Bool:=match a,b with |none,none=>true|some a,some b=>Nat.beq a b|_,_=>false
theorem AjW{a b:Option Nat}(h:Ar0 a b=true):a=b:=by
 cases a<;>cases b<;>first|rfl|(cases h;done)|(rw[beq_eq (show Nat.beq _ _=true from h)])
def ME.AJ(a b:ME):Bool:=V.AJ a.key b.key&&(V.AJ a.val b.val&&Nat.beq a.born b.born)
theorem ME.Ac{a b:ME}(h:a.AJ b=true):a=b:=by
 cases a;cases b;simp only[ME.AJ,Ah]at h;rw[V.Ac h.1,V.Ac h.2.1,beq_eq h.2.2]
def Aj.AJ:Aj->Aj->Bool
 |.cells c n f s,.cells c' n' f' s'=>Nat.beq n n'&&(C6 f f'&&(Ar0 s s'&&MQ c c'))
 |.map es k,.map JP k'=>Nat.beq k k'&&Av ME.AJ es JP
 |_,_=>false
theorem Aj.Ac{a b:Aj}(h:a.AJ b=true):a=b:=by
 cases a with
 |cells c n f s=>
  cases b with
  |cells c' n' f' s'=>
   simp only[Aj.AJ,Ah]at h;have hb:=h.2.1;rw[DB]at hb;rw[beq_eq h.1,eq_of_beq hb,AjW h.2.2.1,Xd h.2.2.2]
  |_=>cases h
 |map es k=>
  cases b with
  |map JP k'=>
   simp only[Aj.AJ,Ah]at h;rw[beq_eq h.1,Ag (fun _ _=>ME.Ac) h.2]
  |_=>cases h
 |_=>cases h
def Aa(l:List (Nat×Aj))(next:Nat):H:=⟨Hn l,next⟩
theorem Ad{l:List (Nat×Aj)}{next:Nat}{b:Nat}{x:Aj}(h:(Aa l next).get b=some x):(b,x)∈l:=Il h
end Eng
namespace Eng
open Go Go.RowKit
variable {P:Program} {C C':AB} {U:An} {J J':A1}
structure CF where
 op:BinOp
 x:E
 y:E
 r:Bool
def Am6(l:List CF)(op:BinOp)(x y:E):Option Bool:=
 @Bool.rec (fun _=>Option Bool) (@List.rec CF (fun _=>Option Bool) none (fun f _ r=>@Bool.rec (fun _=>Option Bool) r (some f.r) (Nat.beq (Dw f.op) (Dw op)&&f.x.AJ x&&f.y.AJ y)) l) none (Nat.beq (Dw op) 0)
def Es:Nat->Nat->E->Option (List E)
 | 0,_,_=>none
 |f+1,n,e=>match n with
  | 0=>some []
  | 1=>some [e]
  |n+2=>match e with
   |.bin .lss _ a b=>(Es f ((n+2) / 2) a).bind fun l=>(Es f (n+2-(n+2) / 2) b).map fun m=>l++m
   |_=>none
def Hz(e:E):Option Nat:=match e with |.cell t _ _=>some t|_=>none
def HA(e:E):Option Nat:=match e with |.Bd t _ _=>some t|_=>none
def GK{α:Type}(g:E->Option α):List E->Option (List α)
 | []=>some []
 |e::l=>(g e).bind fun a=>(GK g l).map fun m=>a::m
def O6(c:Nat)(x:E):Option (List E×List Nat×List Nat×List Nat):=match x with
 |.bin .lss _ a (.bin .lss _ b (.bin .lss _ m k))=>(Es 12 (c / 10000 % 100) a).bind fun p=>((Es 12 (c / 1000000 % 100) b).bind (GK Hz)).bind fun q=>((Es 12 (c / 100000000 % 100) m).bind (GK HA)).bind fun r=>((Es 12 (c / 10000000000) k).bind (GK Hz)).map fun u=>(p,q,r,u)
 |_=>none
section
variable [AD]
def Abx(U:An)(f:CF):Prop:=match f.y with
 |.lit (.ofNat c)=>match O6 c f.x with
  |some p=>AD.qt (c % 10000) (p.1.map (E.den U)) (p.2.1.map U.r) (p.2.2.1.map U.m) (p.2.2.2.map U.b)
  |none=>False
 |_=>False
theorem DQ{U:An}{f:CF}:Abx U f↔∃c p,f.y=.lit (.ofNat c)/\O6 c f.x=some p/\AD.qt (c % 10000) (p.1.map (E.den U)) (p.2.1.map U.r) (p.2.2.1.map U.m) (p.2.2.2.map U.b):=by
 unfold Abx;constructor
 ·intro h;split at h
  ·rename_i c hy;split at h
   ·rename_i p hp;exact⟨c,p,hy,hp,h⟩
   ·exact h.elim
  ·exact h.elim
 ·rintro ⟨c,p,hy,hp,h⟩
  rw[hy];simp only[hp];exact h
def A2(U:An)(f:CF):Prop:=match f.op with
 |.add=>Abx U f
 |_=>BQ f.op (f.x.den U) (f.y.den U)=f.r
theorem BU{U:An}{f:CF}(h:f.op ≠ .add):A2 U f↔BQ f.op (f.x.den U) (f.y.den U)=f.r:=by
 unfold A2;split
 ·rename_i e;exact absurd e h
 ·exact Iff.rfl
theorem EW{U:An}{f:CF}(h:f.op=.add):A2 U f↔Abx U f:=by
 unfold A2;rw[h]
end
def Xe(f:CF):Bool:=match f.op with
 |.add=>(match f.y with |.lit (.ofNat c)=>(O6 c f.x).isSome|_=>false)
 |_=>true
theorem TE{a b:BinOp}(h:Nat.beq (Dw a) (Dw b)=true):a=b:=by
 cases a<;>cases b<;>first|rfl|cases h
theorem AiJ[AD]{U:An}{l:List CF}(h:Al (A2 U) l)(op:BinOp)(x y:E)(r:Bool)(hc:Am6 l op x y=some r):BQ op (x.den U) (y.den U)=r:=by
 unfold Am6 at hc;cases A8:Nat.beq (Dw op) 0 with
 |true=>rw[A8]at hc;cases hc
 |false=>
  rw[A8]at hc
  induction h with
  |nil=>cases hc
  |cons h0 _ ih=>
   rename_i f l _;have h':@Bool.rec (fun _=>Option Bool) (@List.rec CF (fun _=>Option Bool) none (fun f _ r=>@Bool.rec (fun _=>Option Bool) r (some f.r) (Nat.beq (Dw f.op) (Dw op)&&f.x.AJ x&&f.y.AJ y)) l) (some f.r) (Nat.beq (Dw f.op) (Dw op)&&f.x.AJ x&&f.y.AJ y)=some r:=hc;cases hb:(Nat.beq (Dw f.op) (Dw op)&&f.x.AJ x&&f.y.AJ y) with
   |false=>rw[hb]at h';exact ih h'
   |true=>
    rw[hb]at h';simp only[Ah]at hb;cases h';have e:=TE hb.1.1;have Bs:f.op ≠ .add:=by rw[e];intro e2;rw[e2]at A8;cases A8
    have:=(BU Bs).1 h0;rw[e,Eng.Ac hb.1.2,Eng.Ac hb.2]at this;exact this
end Eng
namespace Eng
open Go Go.RowKit
variable {P:Program} {C C':AB} {U:An} {J J':A1}
def A.within(k:Nat->Bool):A->Bool
 |.ptr b _=>k b
 |.slice b _ _ _=>k b
 |.KW b _ _ _=>k b
 |.map r=>k r
 |.fn _ cs=>cs.all k
 |.Qe l=>k l
 |.Wz b _ _=>k b
 |.pt b _ _ _=>k b
 |.C2 b _ _=>k b
 |.Wp b _ _ _=>k b
 |_=>true
def V.within(k:Nat->Bool):V->Bool
 |.one a=>a.within k
 |.agg l=>l.all (A.within k)
def AV.within(k:Nat->Bool):AV->Bool
 |.one a=>a.within k
 |.agg l=>l.all (A.within k)
 |.Dh l=>l.all (V.within k)
def Ut(k:Nat->Bool)(v:Option A):Bool:=match v with |some a=>a.within k|none=>true
def EF(k:Nat->Bool)(t:T A):Bool:=
 @T.rec A (fun _=>Bool) true (fun v _ _ rl rr=>Ut k v&&(rl&&rr)) t
def AgW{α:Type}(p:α->Bool)(v:Option α):Bool:=match v with |some x=>p x|none=>true
def T.all{α:Type}(p:α->Bool)(t:T α):Bool:=@T.rec α (fun _=>Bool) true (fun v _ _ rl rr=>AgW p v&&(rl&&rr)) t
theorem T.Gb{α:Type}{p:α->Bool}:∀{t:T α} {i:Nat} {x:α},T.all p t=true->T.get t i=some x->p x=true:=by
 intro t
 induction t with
 |nil=>intro i x _ h;cases h
 |node v l r ihl ihr=>
  intro i x h hg;have h':(AgW p v&&(T.all p l&&T.all p r))=true:=h;simp only[Ah]at h';cases i with
  |zero=>
   have hv:v=some x:=hg;subst hv;exact h'.1
  |succ m=>
   have HZ:@Bool.rec (fun _=>Option α) (T.get r (Nat.div m 2)) (T.get l (Nat.div m 2)) (Nat.beq (Nat.mod m 2) 0)=some x:=hg;cases hb:Nat.beq (Nat.mod m 2) 0 with
   |true=>rw[hb]at HZ;exact ihl h'.2.1 HZ
   |false=>rw[hb]at HZ;exact ihr h'.2.2 HZ
def Aj.within(k:Nat->Bool):Aj->Bool
 |.cells c _ _ _=>EF k c
 |.map es _=>es.all fun e=>e.key.within k&&e.val.within k
 |.row _ _ _ sp=>sp.all fun p=>p.2.2.within k
 |.Ej _ kn=>kn.all fun p=>match p.2 with |some v=>v.within k|none=>true
 |.loop l=>T.all (AV.within k) l.tmps&&k l.defs
 |.defs _=>true
 |.dead=>true
 |.Am _=>true
 |_=>false
def AL(J:A1)(k:Nat->Bool):A1:=fun b=>bif k b then J b else none
theorem As{k:Nat->Bool}{b:Nat}{x:Nat×Nat}(h:AL J k b=some x):k b=true/\J b=some x:=by
 unfold AL at h;cases hk:k b with
 |false=>rw[hk]at h;cases h
 |true=>rw[hk]at h;exact⟨rfl,h⟩
theorem BT{k:Nat->Bool}{b:Nat}(h:k b=true):AL J k b=J b:=by unfold AL;rw[h];rfl
theorem F2.Ajy{k:Nat->Bool}:∀{cs:List Nat} {vs:List Value},cs.all k=true->F2 (AeP J) cs vs->F2 (AeP (Eng.AL J k)) cs vs:=by
 intro cs
 induction cs with
 |nil=>intro vs _ h;cases h;exact .nil
 |cons a l ih=>
  intro vs hw h;simp only[List.all_cons,Ah]at hw;cases h with
  |cons h1 h2=>
   obtain⟨r,S,h3,h4⟩:=h1;exact .cons ⟨r,S,by rw[BT hw.1];exact h3,h4⟩ (ih hw.2 h2)
theorem AR.AL{k:Nat->Bool}{a:A}{v:Value}(hw:a.within k=true)(h:AR J U a v):AR (AL J k) U a v:=by
 cases a with
 |ptr b o=>obtain⟨r,S,h1,h2⟩:=h;exact⟨r,S,by rw[BT hw];exact h1,h2⟩
 |slice b o l c=>obtain⟨r,S,h1,h2⟩:=h;exact⟨r,S,by rw[BT hw];exact h1,h2⟩
 |KW b o l e=>obtain⟨r,S,c,h1,h2⟩:=h;exact⟨r,S,c,by rw[BT hw];exact h1,h2⟩
 |map r=>obtain⟨x,S,h1,h2⟩:=h;exact⟨x,S,by rw[BT hw];exact h1,h2⟩
 |fn f cs=>
  obtain⟨vs,h1,h2⟩:=h;refine⟨vs,h1,?_⟩;exact F2.Ajy hw h2
 |Qe l=>obtain⟨r,S,h1,h2⟩:=h;exact⟨r,S,by rw[BT hw];exact h1,h2⟩
 |Wz b es n=>obtain⟨r,S,N,h1,h2⟩:=h;exact⟨r,S,N,by rw[BT hw];exact h1,h2⟩
 |pt b e es c=>obtain⟨r,S,N,h1,h2⟩:=h;exact⟨r,S,N,by rw[BT hw];exact h1,h2⟩
 |C2 b es n=>
  obtain⟨p,N,k',h1,h2,h3⟩:=h;refine⟨p,N,k',h1,h2,?_⟩;rcases h3 with h3|⟨r,S,h4,h5⟩
  ·exact .inl h3
  ·exact .inr ⟨r,S,by rw[BT hw];exact h4,h5⟩
 |Wp b es lo n=>
  obtain⟨p,N,k',h1,h0,h2,h3⟩:=h;refine⟨p,N,k',h1,h0,h2,?_⟩;rcases h3 with h3|⟨r,S,L,h4,h5⟩
  ·exact .inl h3
  ·exact .inr ⟨r,S,L,by rw[BT hw];exact h4,h5⟩
 |_=>exact h
theorem F2.AL{k:Nat->Bool}{l:List A}{vs:List Value}(hw:l.all (A.within k)=true)(h:F2 (AR J U) l vs):F2 (AR (Eng.AL J k) U) l vs:=by
 induction h with
 |nil=>exact .nil
 |cons h0 _ ih=>
  simp only[List.all_cons,Ah]at hw;exact .cons (h0.AL hw.1) (ih hw.2)
theorem VR.AL{k:Nat->Bool}{x:V}{v:Value}(hw:x.within k=true)(h:VR J U x v):VR (Eng.AL J k) U x v:=by
 cases x with
 |one a=>exact AR.AL hw h
 |agg l=>obtain⟨vs,h1,h2⟩:=h;exact⟨vs,h1,F2.AL hw h2⟩
theorem JO{k:Nat->Bool}:∀{t:T A} {i:Nat} {a:A},EF k t=true->T.get t i=some a->a.within k=true:=by
 intro t
 induction t with
 |nil=>intro i a _ h;cases h
 |node v l r ihl ihr=>
  intro i a hw h;have hw':(Ut k v&&(EF k l&&EF k r))=true:=hw;simp only[Ah]at hw';cases i with
  |zero=>
   have h':v=some a:=h;subst h';exact hw'.1
  |succ m=>
   have h':@Bool.rec (fun _=>Option A) (T.get r (Nat.div m 2)) (T.get l (Nat.div m 2)) (Nat.beq (Nat.mod m 2) 0)=some a:=h;cases hb:Nat.beq (Nat.mod m 2) 0 with
   |true=>rw[hb]at h';exact ihl hw'.2.1 h'
   |false=>rw[hb]at h';exact ihr hw'.2.2 h'
theorem GD{j c:Nat}{a:A}:∀{l:List (E×Nat×A)},Ao U j c l=some a->∃p∈l,p.2.2=a:=by
 intro l
 induction l with
 |nil=>intro h;cases h
 |cons p l ih=>
  intro h;unfold Ao at h;split at h
  ·cases h;exact⟨p,GU,rfl⟩
  ·obtain⟨q,h1,h2⟩:=ih h;exact⟨q,Gq _ h1,h2⟩
theorem FL{z:Int}{o:Option V}:∀{l:List (E×Option V)},Bp U z l=some o->∃p∈l,p.2=o:=by
 intro l
 induction l with
 |nil=>intro h;cases h
 |cons p l ih=>
  intro h;unfold Bp at h;split at h
  ·cases h;exact⟨p,GU,rfl⟩
  ·obtain⟨q,h1,h2⟩:=ih h;exact⟨q,Gq _ h1,h2⟩
theorem Bb.AL{k:Nat->Bool}{x:AV}{v:Value}(hw:x.within k=true)(h:Bb J U x v):Bb (Eng.AL J k) U x v:=by
 cases x with
 |one a=>exact AR.AL hw h
 |agg l=>obtain⟨vs,h1,h2⟩:=h;exact⟨vs,h1,F2.AL hw h2⟩
 |Dh l=>
  obtain⟨vs,h1,h2⟩:=h;refine⟨vs,h1,?_⟩;clear h1;change l.all (V.within k)=true at hw
  induction h2 with
  |nil=>exact .nil
  |cons h0 _ ih=>
   simp only[List.all_cons,Ah]at hw;exact .cons (h0.AL hw.1) (ih hw.2)
theorem BR.AL{k:Nat->Bool}{x:Aj}{o:Obj}{S:Nat}(hw:x.within k=true)(h:BR J U C x o S):BR (Eng.AL J k) U C x o S:=by
 cases x with
 |cells c n f s=>
  obtain⟨cs,e,h1,h2,h3,h4,h5⟩:=h;exact⟨cs,e,h1,h2,h3,h4,fun i a hi ha=>let ⟨v,hv,Gy⟩:=h5 i a hi ha;⟨v,hv,Gy.AL (JO (show EF k c=true from hw) ha)⟩⟩
 |map es clock=>
  have hw':(es.all fun e=>e.key.within k&&e.val.within k)=true:=hw;obtain⟨ms,h1,h2⟩:=h;refine⟨ms,h1,?_⟩;clear h1
  induction h2 with
  |nil=>exact .nil
  |cons h0 _ ih=>
   simp only[List.all_cons,Ah]at hw';obtain⟨a,b,c⟩:=h0;exact .cons ⟨a.AL hw'.1.1,b.AL hw'.1.2,c⟩ (ih (by simpa only[Aj.within] using hw'.2) hw'.2)
 |row t es n sp=>
  obtain⟨cs,ty,N,h1,h2,h3,h4,h5,h6,h7⟩:=h;refine⟨cs,ty,N,h1,h2,h3,h4,h5,h6,fun j c hj hc=>let ⟨u,q1,q2⟩:=h7 j c hj hc;⟨u,q1,?_⟩⟩;unfold B3 at q2 ⊢;split
  ·rename_i a ha;rw[ha]at q2;obtain⟨p,hp,e⟩:=GD ha;have:=Bf.1 (show (sp.all fun p=>p.2.2.within k)=true from hw) p hp;rw[e]at this;exact AR.AL this q2
  ·rename_i ha;rw[ha]at q2;exact q2
 |Ej t kn=>
  obtain⟨ms,clock,h1,h2,h3⟩:=h;refine⟨ms,clock,h1,h2,fun z=>?_⟩;have h3:=h3 z;unfold BY at h3 ⊢;split
  ·rename_i v hv;rw[hv]at h3;obtain⟨p,hp,e⟩:=FL hv;have:=Bf.1 (show (kn.all fun p=>match p.2 with |some v=>v.within k|none=>true)=true from hw) p hp;rw[e]at this;exact h3.mono fun _=>VR.AL this
  ·rename_i hv;rw[hv]at h3;exact h3
  ·rename_i hv;rw[hv]at h3;exact h3
 |loop l=>
  obtain⟨L,e0,h1,h2,h3,h4,h5,h6,⟨fi,h7,h8,h9⟩,⟨z,RF⟩⟩:=h;have hw':(T.all (AV.within k) l.tmps&&k l.defs)=true:=hw;simp only[Ah]at hw';exact⟨L,e0,h1,h2,h3,h4,h5,h6,⟨fi,h7,h8,fun t v ht hg=>let ⟨v',q1,q2⟩:=h9 t v ht hg;⟨v',q1,Bb.AL (T.Gb hw'.1 hg) q2⟩⟩,⟨z,by rw[BT hw'.2];exact RF⟩⟩
 |defs o=>exact h
 |dead=>trivial
 |Am t=>exact h
 |_=>cases hw
def Ae(l:List (Nat×Aj))(b:Nat):Bool:=l.any fun p=>Nat.beq p.1 b
def Gc(l:List (Nat×Aj))(n:Nat):Bool:=l.all fun p=>Nat.blt p.1 n&&p.2.within (Ae l)
theorem Rel.forget{h:H}{w:World}(hr:Rel J U C h w){l:List (Nat×Aj)}{n:Nat}(hg:∀p∈l,h.get p.1=some p.2)(hc:Gc l n=true):Rel (Eng.AL J (Ae l)) U C (Aa l n) w where
 Am:=(hr.Am.step (h':=Aa l n) (w':=w) (fun b t hgb=>hg (b,.Am t) (Ad hgb)) (fun _ _=>rfl) fun b r S hb=>.inl ⟨b,S,(As hb).2⟩).1
 kept:=fun r o hk=>⟨(hr.kept r o hk).1,fun b S hb=>(hr.kept r o hk).2 b S (As hb).2⟩
 lt:=by
  intro b r S hb;obtain⟨hk,_⟩:=As hb;obtain⟨p,hp,hpb⟩:=List.any_eq_true.1 hk;have:=Bf.1 hc p hp;simp only[Ah]at this;have h1:p.1<n:=by have:=this.1;rwa [Nat.blt_eq]at this
  rw[beq_eq hpb]at h1;exact h1
 AE:=by
  intro b r S hb;obtain⟨hk,AS⟩:=As hb;obtain⟨o,ho,hx⟩:=hr.AE b r S AS;refine⟨o,ho,fun x hgx=>?_⟩;have hm:=Ad hgx;have:=Bf.1 hc _ hm;simp only[Ah]at this;exact (hx x (hg _ hm)).AL this.2
 inj:=by
  intro b b' r S S' hb AS ⟨y,hy,hd⟩ ⟨y',FH,hd'⟩;obtain⟨_,hb⟩:=As hb;obtain⟨_,AS⟩:=As AS;have hm:=Ad hy;have K9:=Ad FH;rcases hr.inj b b' r S S' hb AS ⟨y,hg _ hm,hd⟩ ⟨y',hg _ K9,hd'⟩ with e|⟨c,n',f,e⟩
  ·exact .inl e
  ·right;rw[hg _ hm]at e;exact⟨c,n',f,hy.trans e⟩
end Eng
namespace Eng
open Go
theorem Gr{a b:Bool}(h:C6 a b=true):a=b:=by rw[DB]at h;exact eq_of_beq h
def AeQ(a b:ByteArray):Bool:=Av (fun x y=>Nat.beq x.toNat y.toNat) a.data.toList b.data.toList
theorem AcZ{a b:ByteArray}(h:AeQ a b=true):a=b:=by
 have h1:a.data.toList=b.data.toList:=Ag (fun x y h=>UInt8.toNat_inj.1 (beq_eq h)) h;cases a;cases b
 congr 1
 exact Array.ext' h1
def An8(a b:Value):Bool:=match a,b with
 |.bool x,.bool y=>C6 x y
 |.int k n,.int k' n'=>Nat.beq (Ax k) (Ax k')&&BX n n'
 |.string s,.string s'=>AeQ s s'
 |.pointer none,.pointer none=>true
 |.slice none l c,.slice none l' c'=>Nat.beq l l'&&Nat.beq c c'
 |.map none,.map none=>true
 |.nilFunc,.nilFunc=>true
 |_,_=>false
theorem AjA{a b:Value}(h:An8 a b=true):a=b:=by
 unfold An8 at h;split at h
 ·rw[Gr h]
 ·simp only[Ah]at h;have h2:=h.2;rw[BC]at h2;rw[Bt h.1,eq_of_beq h2]
 ·rw[AcZ h]
 ·rfl
 ·simp only[Ah]at h;rw[beq_eq h.1,beq_eq h.2]
 ·rfl
 ·rfl
 ·cases h
def AK.AJ(a b:Operand):Bool:=match a,b with
 |.tmp x,.tmp y=>Nat.beq x y
 |.const x,.const y=>An8 x y
 |.global x,.global y=>Nat.beq x y
 |.func x,.func y=>Nat.beq x y
 |_,_=>false
theorem AK.Ac{a b:Operand}(h:AK.AJ a b=true):a=b:=by
 unfold AK.AJ at h;split at h
 ·rw[beq_eq h]
 ·rw[AjA h]
 ·rw[beq_eq h]
 ·rw[beq_eq h]
 ·cases h
def AaE{α:Type}(f:α->α->Bool)(a b:Option α):Bool:=match a,b with |none,none=>true|some a,some b=>f a b|_,_=>false
theorem Lc{α:Type}{f:α->α->Bool}(hf:∀{a b},f a b=true->a=b){a b:Option α}(h:AaE f a b=true):a=b:=by
 cases a<;>cases b<;>first|rfl|(cases h;done)|(rw[hf (show f _ _=true from h)])
def Tt{α:Type}(f:α->α->Bool)(a b:Array α):Bool:=Av f a.toList b.toList
theorem Ha{α:Type}{f:α->α->Bool}(hf:∀{a b},f a b=true->a=b){a b:Array α}(h:Tt f a b=true):a=b:=Array.ext' (Ag (fun _ _ h=>hf h) h)
def Acm(a b:Nat×Operand):Bool:=Nat.beq a.1 b.1&&AK.AJ a.2 b.2
theorem Y9{a b:Nat×Operand}(h:Acm a b=true):a=b:=by
 obtain⟨a1,a2⟩:=a;obtain⟨b1,b2⟩:=b;simp only[Acm,Ah]at h;rw[beq_eq h.1,AK.Ac h.2]
def boB(a b:BinOp):Bool:=Nat.beq (Dw a) (Dw b)
theorem Amu{a b:BinOp}(h:boB a b=true):a=b:=by
 have:=beq_eq h;cases a<;>cases b<;>first|rfl|(simp[Dw]at this)
def uoB(a b:UnOp):Bool:=decide (a=b)
theorem AoE{a b:UnOp}(h:uoB a b=true):a=b:=of_decide_eq_true h
def fnB(a b:Fn):Bool:=match a,b with |.func x,.func y=>Nat.beq x y|_,_=>false
theorem Ank{a b:Fn}(h:fnB a b=true):a=b:=by
 unfold fnB at h;split at h
 ·rw[beq_eq h]
 ·cases h
def Vi(a b:Callee):Bool:=match a,b with |.value x,.value y=>AK.AJ x y|.builtin x,.builtin y=>decide (x=y)|_,_=>false
theorem ZI{a b:Callee}(h:Vi a b=true):a=b:=by
 unfold Vi at h;split at h
 ·rw[AK.Ac h]
 ·rw[of_decide_eq_true h]
 ·cases h
def AeS(a b:Call):Bool:=Vi a.callee b.callee&&(Tt AK.AJ a.args b.args&&Tt Nat.beq a.argTypes b.argTypes)
theorem AeT{a b:Call}(h:AeS a b=true):a=b:=by
 obtain⟨a1,a2,a3⟩:=a;obtain⟨b1,b2,b3⟩:=b;simp only[AeS,Ah]at h;rw[ZI h.1,Ha AK.Ac h.2.1,Ha beq_eq h.2.2]
def opB(a b:Op):Bool:=match a,b with
 |.move x0,.move y0=>AK.AJ x0 y0
 |.assign x0,.assign y0=>AK.AJ x0 y0
 |.pick x0 x1 x2,.pick y0 y1 y2=>(AK.AJ x0 y0&&(AK.AJ x1 y1&&AK.AJ x2 y2))
 |.alloc x0,.alloc y0=>Nat.beq x0 y0
 |.box x0 x1,.box y0 y1=>(Nat.beq x0 y0&&AK.AJ x1 y1)
 |.build x0 x1,.build y0 y1=>(Nat.beq x0 y0&&Tt Acm x1 y1)
 |.buildSlice x0 x1 x2,.buildSlice y0 y1 y2=>(Nat.beq x0 y0&&(Nat.beq x1 y1&&Tt Acm x2 y2))
 |.insert x0 x1 x2 x3,.insert y0 y1 y2 y3=>(Nat.beq x0 y0&&(AK.AJ x1 y1&&(AK.AJ x2 y2&&AK.AJ x3 y3)))
 |.load x0 x1,.load y0 y1=>(Nat.beq x0 y0&&AK.AJ x1 y1)
 |.store x0 x1 x2,.store y0 y1 y2=>(Nat.beq x0 y0&&(AK.AJ x1 y1&&AK.AJ x2 y2))
 |.nilCheck x0,.nilCheck y0=>AK.AJ x0 y0
 |.binOp x0 x1 x2 x3 x4,.binOp y0 y1 y2 y3 y4=>(boB x0 y0&&(Nat.beq x1 y1&&(AK.AJ x2 y2&&(AK.AJ x3 y3&&Nat.beq x4 y4))))
 |.unOp x0 x1 x2,.unOp y0 y1 y2=>(uoB x0 y0&&(Nat.beq x1 y1&&AK.AJ x2 y2))
 |.convert x0 x1 x2,.convert y0 y1 y2=>(Nat.beq x0 y0&&(Nat.beq x1 y1&&AK.AJ x2 y2))
 |.makeFunc x0 x1 x2,.makeFunc y0 y1 y2=>(fnB x0 y0&&(Tt AK.AJ x1 y1&&Tt AK.AJ x2 y2))
 |.makeMap x0 x1,.makeMap y0 y1=>(Nat.beq x0 y0&&AaE AK.AJ x1 y1)
 |.makeSlice x0 x1 x2,.makeSlice y0 y1 y2=>(Nat.beq x0 y0&&(AK.AJ x1 y1&&AK.AJ x2 y2))
 |.slice x0 x1 x2 x3 x4,.slice y0 y1 y2 y3 y4=>(Nat.beq x0 y0&&(AK.AJ x1 y1&&(AaE AK.AJ x2 y2&&(AaE AK.AJ x3 y3&&AaE AK.AJ x4 y4))))
 |.fieldAddr x0 x1 x2,.fieldAddr y0 y1 y2=>(Nat.beq x0 y0&&(AK.AJ x1 y1&&Nat.beq x2 y2))
 |.field x0 x1 x2,.field y0 y1 y2=>(Nat.beq x0 y0&&(AK.AJ x1 y1&&Nat.beq x2 y2))
 |.indexAddr x0 x1 x2,.indexAddr y0 y1 y2=>(Nat.beq x0 y0&&(AK.AJ x1 y1&&AK.AJ x2 y2))
 |.index x0 x1 x2,.index y0 y1 y2=>(Nat.beq x0 y0&&(AK.AJ x1 y1&&AK.AJ x2 y2))
 |.lookup x0 x1 x2 x3,.lookup y0 y1 y2 y3=>(Nat.beq x0 y0&&(AK.AJ x1 y1&&(AK.AJ x2 y2&&C6 x3 y3)))
 |.mapUpdate x0 x1 x2 x3,.mapUpdate y0 y1 y2 y3=>(Nat.beq x0 y0&&(AK.AJ x1 y1&&(AK.AJ x2 y2&&AK.AJ x3 y3)))
 |.mapEntry x0 x1 x2,.mapEntry y0 y1 y2=>(Nat.beq x0 y0&&(AK.AJ x1 y1&&AK.AJ x2 y2))
 |.entryStore x0 x1 x2 x3,.entryStore y0 y1 y2 y3=>(Nat.beq x0 y0&&(AK.AJ x1 y1&&(AK.AJ x2 y2&&AK.AJ x3 y3)))
 |.range x0 x1,.range y0 y1=>(Nat.beq x0 y0&&AK.AJ x1 y1)
 |.next x0 x1,.next y0 y1=>(AK.AJ x0 y0&&C6 x1 y1)
 |.entry x0,.entry y0=>AK.AJ x0 y0
 |.extract x0 x1,.extract y0 y1=>(AK.AJ x0 y0&&Nat.beq x1 y1)
 |.call x0,.call y0=>AeS x0 y0
 |_,_=>false
theorem AnS{a b:Op}(h:opB a b=true):a=b:=by
 unfold opB at h;split at h
 ·rw[AK.Ac h]
 ·rw[AK.Ac h]
 ·simp only[Ah]at h;rw[AK.Ac h.1,AK.Ac h.2.1,AK.Ac h.2.2]
 ·rw[beq_eq h]
 ·simp only[Ah]at h;rw[beq_eq h.1,AK.Ac h.2]
 ·simp only[Ah]at h;rw[beq_eq h.1,Ha Y9 h.2]
 ·simp only[Ah]at h;rw[beq_eq h.1,beq_eq h.2.1,Ha Y9 h.2.2]
 ·simp only[Ah]at h;rw[beq_eq h.1,AK.Ac h.2.1,AK.Ac h.2.2.1,AK.Ac h.2.2.2]
 ·simp only[Ah]at h;rw[beq_eq h.1,AK.Ac h.2]
 ·simp only[Ah]at h;rw[beq_eq h.1,AK.Ac h.2.1,AK.Ac h.2.2]
 ·rw[AK.Ac h]
 ·simp only[Ah]at h;rw[Amu h.1,beq_eq h.2.1,AK.Ac h.2.2.1,AK.Ac h.2.2.2.1,beq_eq h.2.2.2.2]
 ·simp only[Ah]at h;rw[AoE h.1,beq_eq h.2.1,AK.Ac h.2.2]
 ·simp only[Ah]at h;rw[beq_eq h.1,beq_eq h.2.1,AK.Ac h.2.2]
 ·simp only[Ah]at h;rw[Ank h.1,Ha AK.Ac h.2.1,Ha AK.Ac h.2.2]
 ·simp only[Ah]at h;rw[beq_eq h.1,Lc AK.Ac h.2]
 ·simp only[Ah]at h;rw[beq_eq h.1,AK.Ac h.2.1,AK.Ac h.2.2]
 ·simp only[Ah]at h;rw[beq_eq h.1,AK.Ac h.2.1,Lc AK.Ac h.2.2.1,Lc AK.Ac h.2.2.2.1,Lc AK.Ac h.2.2.2.2]
 ·simp only[Ah]at h;rw[beq_eq h.1,AK.Ac h.2.1,beq_eq h.2.2]
 ·simp only[Ah]at h;rw[beq_eq h.1,AK.Ac h.2.1,beq_eq h.2.2]
 ·simp only[Ah]at h;rw[beq_eq h.1,AK.Ac h.2.1,AK.Ac h.2.2]
 ·simp only[Ah]at h;rw[beq_eq h.1,AK.Ac h.2.1,AK.Ac h.2.2]
 ·simp only[Ah]at h;rw[beq_eq h.1,AK.Ac h.2.1,AK.Ac h.2.2.1,Gr h.2.2.2]
 ·simp only[Ah]at h;rw[beq_eq h.1,AK.Ac h.2.1,AK.Ac h.2.2.1,AK.Ac h.2.2.2]
 ·simp only[Ah]at h;rw[beq_eq h.1,AK.Ac h.2.1,AK.Ac h.2.2]
 ·simp only[Ah]at h;rw[beq_eq h.1,AK.Ac h.2.1,AK.Ac h.2.2.1,AK.Ac h.2.2.2]
 ·simp only[Ah]at h;rw[beq_eq h.1,AK.Ac h.2]
 ·simp only[Ah]at h;rw[AK.Ac h.1,Gr h.2]
 ·rw[AK.Ac h]
 ·simp only[Ah]at h;rw[AK.Ac h.1,beq_eq h.2]
 ·rw[AeT h]
 ·cases h
def Afo(a b:Edge):Bool:=Nat.beq a.on b.on&&decide (a.ground=b.ground)
theorem Afp{a b:Edge}(h:Afo a b=true):a=b:=by
 obtain⟨a1,a2⟩:=a;obtain⟨b1,b2⟩:=b;simp only[Afo,Ah]at h;rw[beq_eq h.1,of_decide_eq_true h.2]
def gdB(a b:Nat×Bool):Bool:=Nat.beq a.1 b.1&&C6 a.2 b.2
theorem Ann{a b:Nat×Bool}(h:gdB a b=true):a=b:=by
 obtain⟨a1,a2⟩:=a;obtain⟨b1,b2⟩:=b;simp only[gdB,Ah]at h;rw[beq_eq h.1,Gr h.2]
def AgT(a b:Oper):Bool:=AaE Nat.beq a.dst b.dst&&(opB a.op b.op&&(Nat.beq a.type b.type&&(decide (a.pos=b.pos)&&(Tt Afo a.after b.after&&AaE gdB a.guard b.guard))))
theorem AgU{a b:Oper}(h:AgT a b=true):a=b:=by
 obtain⟨a1,a2,a3,a4,a5,a6⟩:=a;obtain⟨b1,b2,b3,b4,b5,b6⟩:=b;simp only[AgT,Ah]at h;rw[Lc beq_eq h.1,AnS h.2.1,beq_eq h.2.2.1,of_decide_eq_true h.2.2.2.1,Ha Afp h.2.2.2.2.1,Lc Ann h.2.2.2.2.2]
def CB:Code->Code->Bool
 |.skip,.skip=>true
 |.region i os d,.region i' os' d'=>Nat.beq i i'&&(Tt AgT os os'&&C6 d d')
 |.seq a b,.seq a' b'=>CB a a'&&CB b b'
 |.cond c a b,.cond c' a' b'=>AK.AJ c c'&&(CB a a'&&CB b b')
 |.block i a,.block i' a'=>Nat.beq i i'&&CB a a'
 |.loop a,.loop a'=>CB a a'
 |.rangeFunc f ps a b,.rangeFunc f' ps' a' b'=>AK.AJ f f'&&(Tt Nat.beq ps ps'&&(CB a a'&&CB b b'))
 |.exit i,.exit i'=>Nat.beq i i'
 |.scope a,.scope a'=>CB a a'
 |.label i,.label i'=>Nat.beq i i'
 |.goto i,.goto i'=>Nat.beq i i'
 |.ret,.ret=>true
 |_,_=>false
theorem O3:∀{a b:Code},CB a b=true->a=b:=by
 intro a
 induction a with
 |skip=>intro b h;cases b<;>first|rfl|cases h
 |region i os d=>intro b h;cases b with |region i' os' d'=>simp only[CB,Ah]at h;rw[beq_eq h.1,Ha AgU h.2.1,Gr h.2.2]|_=>cases h
 |seq x y IT ihy=>intro b h;cases b with |seq x' y'=>simp only[CB,Ah]at h;rw[IT h.1,ihy h.2]|_=>cases h
 |cond c x y IT ihy=>intro b h;cases b with |cond c' x' y'=>simp only[CB,Ah]at h;rw[AK.Ac h.1,IT h.2.1,ihy h.2.2]|_=>cases h
 |block i x ih=>intro b h;cases b with |block i' x'=>simp only[CB,Ah]at h;rw[beq_eq h.1,ih h.2]|_=>cases h
 |loop x ih=>intro b h;cases b with |loop x'=>rw[ih (show CB x x'=true from h)]|_=>cases h
 |rangeFunc f ps x y IT ihy=>intro b h;cases b with |rangeFunc f' ps' x' y'=>simp only[CB,Ah]at h;rw[AK.Ac h.1,Ha beq_eq h.2.1,IT h.2.2.1,ihy h.2.2.2]|_=>cases h
 |exit i=>intro b h;cases b with |exit i'=>rw[beq_eq (show Nat.beq i i'=true from h)]|_=>cases h
 |scope x ih=>intro b h;cases b with |scope x'=>rw[ih (show CB x x'=true from h)]|_=>cases h
 |label i=>intro b h;cases b with |label i'=>rw[beq_eq (show Nat.beq i i'=true from h)]|_=>cases h
 |goto i=>intro b h;cases b with |goto i'=>rw[beq_eq (show Nat.beq i i'=true from h)]|_=>cases h
 |ret=>intro b h;cases b<;>first|rfl|cases h
 |refuse w=>intro b h;cases b<;>cases h
end Eng
namespace Eng
open Go Go.RowKit
variable {P:Program} {C C':AB} {U:An} {J J':A1}
structure Sb where
 s:Nat->E
 r:Nat->Nat:=fun t=>t
 m:Nat->Nat:=fun t=>t
 g:Nat->Nat:=fun b=>b
def TY(o:BinOp)(k:IntKind)(a b:E):E:=match a,b with
 |.lit x,.lit y=>(match E7 o k x y with |some n=>.lit n|none=>.bin o k a b)
 |a,b=>.bin o k a b
def Ab0(k:IntKind)(a:E):E:=match a with |.lit x=>.lit (KS k x)|a=>.conv k a
def E.sub(S:Sb):E->E
 |.lit n=>.lit n
 |.var i=>S.s i
 |.bin o k a b=>TY o k (a.sub S) (b.sub S)
 |.conv k a=>Ab0 k (a.sub S)
 |.cell t a c=>.cell (S.r t) (a.sub S) c
 |.Bd t a c=>.Bd (S.m t) (a.sub S) c
def AaW(k:IntKind)(e:E):A:=match e with |.lit n=>.int k n|e=>.sym k e
def sbA(e:E):A:=match e with |.lit n=>.bool (C3 (BX n 0))|e=>.sb e
def A.sub(S:Sb)(a:A):A:=match a with
 |.sym k e=>AaW k (e.sub S)
 |.ptr b o=>.ptr (S.g b) o
 |.slice b o l c=>.slice (S.g b) o l c
 |.KW b o l c=>.KW (S.g b) o l c
 |.map r=>.map (S.g r)
 |.fn f cs=>.fn f (cs.map S.g)
 |.Qe l=>.Qe (S.g l)
 |.Wz b es n=>.Wz (S.g b) es (n.sub S)
 |.pt b e es c=>.pt (S.g b) (e.sub S) es c
 |.C2 b es n=>.C2 (S.g b) es (n.sub S)
 |.Wp b es lo n=>.Wp (S.g b) es (lo.sub S) (n.sub S)
 |.sb e=>sbA (e.sub S)
 |.rc t e c=>.rc (S.r t) (e.sub S) c
 |.P3 t es n=>.P3 (S.r t) es (n.sub S)
 |.NB t e es c=>.NB (S.r t) (e.sub S) es c
 |.fp t=>.fp (S.m t)
 |a=>a
def V.sub(S:Sb):V->V
 |.one a=>.one (a.sub S)
 |.agg l=>.agg (l.map (A.sub S))
def AV.sub(S:Sb):AV->AV
 |.one a=>.one (a.sub S)
 |.agg l=>.agg (l.map (A.sub S))
 |.Dh l=>.Dh (l.map (V.sub S))
def ME.sub(S:Sb)(e:ME):ME:=⟨e.key.sub S,e.val.sub S,e.born⟩
def T.Sa{α:Type}(f:α->α)(t:T α):T α:=@T.rec α (fun _=>T α) .nil (fun v _ _ rl rr=>.node (v.map f) rl rr) t
def SM(S:Sb)(p:E×Nat×A):E×Nat×A:=(p.1.sub S,p.2.1,p.2.2.sub S)
def Uh(S:Sb)(p:E×Option V):E×Option V:=(p.1.sub S,p.2.map (V.sub S))
def Aj.sub(S:Sb):Aj->Aj
 |.cells c n f _=>.cells (T.Sa (A.sub S) c) n f none
 |.map es clock=>.map (es.map (ME.sub S)) clock
 |.row t es n sp=>.row (S.r t) es (n.sub S) (sp.map (SM S))
 |.Ej t kn=>.Ej (S.m t) (kn.map (Uh S))
 |.loop l=>.loop {l with tmps:=T.Sa (AV.sub S) l.tmps,defs:=S.g l.defs}
 |.Am t=>.Am (S.r t.1,S.m t.2)
 |b=>b
def Sb.rp(S:Sb)(t:Nat×Nat):Nat×Nat:=(S.r t.1,S.m t.2)
def Sb.sig(S:Sb)(U:An):An:=⟨fun i=>(S.s i).den U,fun t=>U.r (S.r t),fun t=>U.m (S.m t),U.k,fun t=>U.b (S.r t),fun t=>U.ro (S.m t)⟩
def rn(J:A1)(g:Nat->Nat)(k:Nat->Bool):A1:=fun b=>bif k b then J (g b) else none
theorem Ec{g:Nat->Nat}{k:Nat->Bool}{b:Nat}(h:k b=true):rn J g k b=J (g b):=by unfold rn;rw[h];rfl
theorem Bc{g:Nat->Nat}{k:Nat->Bool}{b:Nat}{x:Nat×Nat}(h:rn J g k b=some x):k b=true/\J (g b)=some x:=by
 unfold rn at h;cases hk:k b with
 |false=>rw[hk]at h;cases h
 |true=>rw[hk]at h;exact⟨rfl,h⟩
theorem Adv(o:BinOp)(k:IntKind)(a b:E):(TY o k a b).den U=E5 o k (a.den U) (b.den U):=by
 unfold TY;split
 ·rename_i x y;split
  ·rename_i n hn;exact (OJ hn).1
  ·rfl
 ·rfl
theorem Adu(k:IntKind)(a:E):(Ab0 k a).den U=k.wrap (a.den U):=by
 unfold Ab0;split
 ·exact GI _ _
 ·rfl
theorem E.A3(S:Sb):∀e:E,(e.sub S).den U=e.den (S.sig U)
 |.lit _=>rfl
 |.var _=>rfl
 |.bin o k a b=>by
  show (TY o k (a.sub S) (b.sub S)).den U=_;rw[Adv,E.A3 S a,E.A3 S b];rfl
 |.conv k a=>by
  show (Ab0 k (a.sub S)).den U=_;rw[Adu,E.A3 S a];rfl
 |.cell t a c=>by
  show numOf (U.r (S.r t) ((a.sub S).den U).toNat c)=_;rw[E.A3 S a];rfl
 |.Bd t a c=>by
  show Dm (U.m (S.m t) ((a.sub S).den U)) c=_;rw[E.A3 S a];rfl
theorem AhJ(k:IntKind)(e:E)(v:Value):AR J U (AaW k e) v↔v=.int k (e.den U):=by
 unfold AaW;split<;>exact Iff.rfl
theorem Ah0(e:E)(v:Value):AR J U (sbA e) v↔v=.bool (decide (e.den U ≠ 0)):=by
 unfold sbA;split
 ·rename_i n;show v=.bool _↔v=.bool (decide (n ≠ 0));have:C3 (BX n 0)=decide (n ≠ 0):=by
   rw[BC]
   by_cases e:n=0
   ·subst e;rfl
   ·rw[beq_false_of_ne e];simp[e,C3]
  rw[this]
 ·exact Iff.rfl
theorem AR.Ft{S:Sb}{k:Nat->Bool}{a:A}{v:Value}(h:AR (rn J S.g k) (S.sig U) a v):AR J U (a.sub S) v:=by
 cases a with
 |sym q e=>exact (AhJ _ _ _).2 (by rw[E.A3];exact h)
 |sb e=>exact (Ah0 _ _).2 (by rw[E.A3];exact h)
 |ptr b o=>obtain⟨r,T,h1,h2⟩:=h;exact⟨r,T,(Bc h1).2,h2⟩
 |slice b o l c=>obtain⟨r,T,h1,h2⟩:=h;exact⟨r,T,(Bc h1).2,h2⟩
 |KW b o l c=>obtain⟨r,T,q,h1,h2⟩:=h;exact⟨r,T,q,(Bc h1).2,h2⟩
 |map r=>obtain⟨x,T,h1,h2⟩:=h;exact⟨x,T,(Bc h1).2,h2⟩
 |Qe r=>obtain⟨x,T,h1,h2⟩:=h;exact⟨x,T,(Bc h1).2,h2⟩
 |fn f cs=>
  obtain⟨vs,h1,h2⟩:=h;refine⟨vs,h1,?_⟩;clear h1
  induction h2 with
  |nil=>exact .nil
  |cons h0 _ ih=>obtain⟨r,T,h1,h2⟩:=h0;exact .cons ⟨r,T,(Bc h1).2,h2⟩ ih
 |Wz b es n=>obtain⟨r,T,N,h1,h2,h3,h4⟩:=h;exact⟨r,T,N,(Bc h1).2,h2,by rw[E.A3];exact h3,h4⟩
 |pt b e es c=>obtain⟨r,T,N,h1,h2,h3⟩:=h;exact⟨r,T,N,(Bc h1).2,h2,by rw[E.A3];exact h3⟩
 |C2 b es n=>
  obtain⟨p,N,q,h1,h2,h3⟩:=h;refine⟨p,N,q,h1,by rw[E.A3];exact h2,?_⟩;rcases h3 with h3|⟨r,T,h4,h5⟩
  ·exact .inl h3
  ·exact .inr ⟨r,T,(Bc h4).2,h5⟩
 |Wp b es lo n=>
  obtain⟨p,N,q,h1,h0,h2,h3⟩:=h;refine⟨p,N,q,h1,h0,by rw[E.A3];exact h2,?_⟩;rcases h3 with h3|⟨r,T,L,h4,h5,h6⟩
  ·exact .inl h3
  ·exact .inr ⟨r,T,L,(Bc h4).2,h5,by rw[E.A3];exact h6⟩
 |rc t e c=>
  obtain⟨h1,h2⟩:=h;refine⟨?_,h2⟩;rw[E.A3];exact h1
 |P3 t es n=>obtain⟨p,N,q,h1,h2,h3⟩:=h;exact⟨p,N,q,h1,by rw[E.A3];exact h2,h3⟩
 |NB t e es c=>obtain⟨r,o,N,Jzz,h1,h2,h3⟩:=h;exact⟨r,o,N,Jzz,h1,by rw[E.A3];exact h2,h3⟩
 |fp t=>exact h
 |_=>exact h
theorem AR.Fs{S:Sb}{k:Nat->Bool}{a:A}{v:Value}(hw:a.within k=true)(h:AR J U (a.sub S) v):AR (rn J S.g k) (S.sig U) a v:=by
 cases a with
 |sym q e=>have:=(AhJ _ _ _).1 h;rw[E.A3]at this;exact this
 |sb e=>have:=(Ah0 _ _).1 h;rw[E.A3]at this;exact this
 |ptr b o=>obtain⟨r,T,h1,h2⟩:=h;exact⟨r,T,(Ec hw).trans h1,h2⟩
 |slice b o l c=>obtain⟨r,T,h1,h2⟩:=h;exact⟨r,T,(Ec hw).trans h1,h2⟩
 |KW b o l c=>obtain⟨r,T,q,h1,h2⟩:=h;exact⟨r,T,q,(Ec hw).trans h1,h2⟩
 |map r=>obtain⟨x,T,h1,h2⟩:=h;exact⟨x,T,(Ec hw).trans h1,h2⟩
 |Qe r=>obtain⟨x,T,h1,h2⟩:=h;exact⟨x,T,(Ec hw).trans h1,h2⟩
 |fn f cs=>
  obtain⟨vs,h1,h2⟩:=h;refine⟨vs,h1,?_⟩;clear h1;change cs.all k=true at hw
  induction cs generalizing vs with
  |nil=>cases h2;exact .nil
  |cons c cs ih=>
   simp only[List.all_cons,Ah]at hw;cases h2 with
   |cons h0 h3=>
    obtain⟨r,T,h1,h2⟩:=h0;exact .cons ⟨r,T,(Ec hw.1).trans h1,h2⟩ (ih _ h3 hw.2)
 |Wz b es n=>obtain⟨r,T,N,h1,h2,h3,h4⟩:=h;exact⟨r,T,N,(Ec hw).trans h1,h2,by rw[E.A3]at h3;exact h3,h4⟩
 |pt b e es c=>obtain⟨r,T,N,h1,h2,h3⟩:=h;exact⟨r,T,N,(Ec hw).trans h1,h2,by rw[E.A3]at h3;exact h3⟩
 |C2 b es n=>
  obtain⟨p,N,q,h1,h2,h3⟩:=h;refine⟨p,N,q,h1,by rw[E.A3]at h2;exact h2,?_⟩;rcases h3 with h3|⟨r,T,h4,h5⟩
  ·exact .inl h3
  ·exact .inr ⟨r,T,(Ec hw).trans h4,h5⟩
 |Wp b es lo n=>
  obtain⟨p,N,q,h1,h0,h2,h3⟩:=h;refine⟨p,N,q,h1,h0,by rw[E.A3]at h2;exact h2,?_⟩;rcases h3 with h3|⟨r,T,L,h4,h5,h6⟩
  ·exact .inl h3
  ·exact .inr ⟨r,T,L,(Ec hw).trans h4,h5,by rw[E.A3]at h6;exact h6⟩
 |rc t e c=>
  obtain⟨h1,h2⟩:=h;refine⟨?_,h2⟩;rw[E.A3]at h1;exact h1
 |P3 t es n=>obtain⟨p,N,q,h1,h2,h3⟩:=h;exact⟨p,N,q,h1,by rw[E.A3]at h2;exact h2,h3⟩
 |NB t e es c=>obtain⟨r,o,N,Jzz,h1,h2,h3⟩:=h;exact⟨r,o,N,Jzz,h1,by rw[E.A3]at h2;exact h2,h3⟩
 |fp t=>exact h
 |_=>exact h
theorem F2.Ft{S:Sb}{k:Nat->Bool}{l:List A}{vs:List Value}(h:F2 (AR (rn J S.g k) (S.sig U)) l vs):F2 (AR J U) (l.map (A.sub S)) vs:=by
 induction h with
 |nil=>exact .nil
 |cons h0 _ ih=>exact .cons h0.Ft ih
theorem F2.Fs{S:Sb}{k:Nat->Bool}:∀{l:List A} {vs:List Value},l.all (A.within k)=true->F2 (AR J U) (l.map (A.sub S)) vs->F2 (AR (rn J S.g k) (S.sig U)) l vs:=by
 intro l
 induction l with
 |nil=>intro vs _ h;cases h;exact .nil
 |cons a l ih=>
  intro vs hw h;simp only[List.all_cons,Ah]at hw;cases h with
  |cons h0 h1=>exact .cons (h0.Fs hw.1) (ih hw.2 h1)
theorem VR.Ft{S:Sb}{k:Nat->Bool}{x:V}{v:Value}(h:VR (rn J S.g k) (S.sig U) x v):VR J U (x.sub S) v:=by
 cases x with
 |one a=>exact AR.Ft h
 |agg l=>obtain⟨vs,h1,h2⟩:=h;exact⟨vs,h1,h2.Ft⟩
theorem VR.Fs{S:Sb}{k:Nat->Bool}{x:V}{v:Value}(hw:x.within k=true)(h:VR J U (x.sub S) v):VR (rn J S.g k) (S.sig U) x v:=by
 cases x with
 |one a=>exact AR.Fs hw h
 |agg l=>obtain⟨vs,h1,h2⟩:=h;exact⟨vs,h1,F2.Fs hw h2⟩
theorem Bb.Ft{S:Sb}{k:Nat->Bool}{x:AV}{v:Value}(h:Bb (rn J S.g k) (S.sig U) x v):Bb J U (x.sub S) v:=by
 cases x with
 |one a=>exact AR.Ft h
 |agg l=>obtain⟨vs,h1,h2⟩:=h;exact⟨vs,h1,h2.Ft⟩
 |Dh l=>
  obtain⟨vs,h1,h2⟩:=h;refine⟨vs,h1,?_⟩;clear h1
  induction h2 with
  |nil=>exact .nil
  |cons h0 _ ih=>exact .cons h0.Ft ih
theorem Bb.Fs{S:Sb}{k:Nat->Bool}{x:AV}{v:Value}(hw:x.within k=true)(h:Bb J U (x.sub S) v):Bb (rn J S.g k) (S.sig U) x v:=by
 cases x with
 |one a=>exact AR.Fs hw h
 |agg l=>obtain⟨vs,h1,h2⟩:=h;exact⟨vs,h1,F2.Fs hw h2⟩
 |Dh l=>
  obtain⟨vs,h1,h2⟩:=h;refine⟨vs,h1,?_⟩;clear h1;change l.all (V.within k)=true at hw
  induction l generalizing vs with
  |nil=>cases h2;exact .nil
  |cons a l ih=>
   simp only[List.all_cons,Ah]at hw;cases h2 with
   |cons h0 h1=>exact .cons (h0.Fs hw.1) (ih _ h1 hw.2)
theorem T.get_map{α:Type}(f:α->α):∀(t:T α) (i:Nat),T.get (T.Sa f t) i=(T.get t i).map f:=by
 intro t
 induction t with
 |nil=>intro i;rfl
 |node v l r ihl ihr=>
  intro i;cases i with
  |zero=>rfl
  |succ m=>
   show @Bool.rec (fun _=>Option α) (T.get (T.Sa f r) (Nat.div m 2)) (T.get (T.Sa f l) (Nat.div m 2)) (Nat.beq (Nat.mod m 2) 0)=(@Bool.rec (fun _=>Option α) (T.get r (Nat.div m 2)) (T.get l (Nat.div m 2)) (Nat.beq (Nat.mod m 2) 0)).map f;cases Nat.beq (Nat.mod m 2) 0 with
   |true=>exact ihl _
   |false=>exact ihr _
theorem KM(S:Sb){j c:Nat}:∀l:List (E×Nat×A),Ao U j c (l.map (SM S))=(Ao (S.sig U) j c l).map (A.sub S):=by
 intro l
 induction l with
 |nil=>rfl
 |cons p l ih=>
  simp only[List.map_cons,Ao,SM,E.A3];split
  ·rfl
  ·exact ih
theorem Mu(S:Sb){z:Int}:∀l:List (E×Option V),Bp U z (l.map (Uh S))=(Bp (S.sig U) z l).map (Option.map (V.sub S)):=by
 intro l
 induction l with
 |nil=>rfl
 |cons p l ih=>
  simp only[List.map_cons,Bp,Uh,E.A3];split
  ·rfl
  ·exact ih
def Aj.GF:Aj->Bool
 |.cells _ _ _ s=>s.isNone
 |.map _ _=>true
 |.row .. =>true
 |.Ej .. =>true
 |.loop _=>true
 |.defs _=>true
 |.dead=>true
 |.Am _=>true
 |_=>false
theorem BR.Ft{S:Sb}{k:Nat->Bool}{x:Aj}{o:Obj}{z:Nat}(hx:x.GF=true)(h:BR (rn J S.g k) (S.sig U) C x o z):BR J U C (x.sub S) o z:=by
 cases x with
 |cells c n f s=>
  obtain⟨cs,e,h1,h2,h3,h4,h5⟩:=h;refine⟨cs,e,h1,h2,h3,h4,fun i a hi ha=>?_⟩;rw[T.get_map]at ha;cases hg:T.get c i with
  |none=>rw[hg]at ha;cases ha
  |some b=>
   rw[hg]at ha;cases ha;obtain⟨v,hv,Gy⟩:=h5 i b hi hg;exact⟨v,hv,Gy.Ft⟩
 |map es clock=>
  obtain⟨ms,h1,h2⟩:=h;refine⟨ms,h1,?_⟩;clear h1 hx
  induction h2 with
  |nil=>exact .nil
  |cons h0 _ ih=>obtain⟨a,b,c⟩:=h0;exact .cons ⟨a.Ft,b.Ft,c⟩ ih
 |row t es n sp=>
  obtain⟨cs,ty,N,h1,h2,h3,h4,h5,h6,h7⟩:=h;refine⟨cs,ty,N,h1,h2,by rw[E.A3];exact h3,h4,h5,?_,fun j c hj hc=>let ⟨u,q1,q2⟩:=h7 j c hj hc;⟨u,q1,?_⟩⟩
  ·intro p hp;obtain⟨q,hq,rfl⟩:=List.mem_map.1 hp;have:=h6 q hq;show (q.1.sub S).den U<(n.sub S).den U;rw[E.A3,E.A3];exact this
  ·unfold B3 at q2 ⊢;rw[KM];cases hl:Ao (S.sig U) j c sp with
   |none=>rw[hl]at q2;exact q2
   |some a=>rw[hl]at q2;exact AR.Ft q2
 |Ej t kn=>
  obtain⟨ms,clock,h1,h2,h3⟩:=h;refine⟨ms,clock,h1,h2,fun y=>?_⟩;have h3:=h3 y;unfold BY at h3 ⊢;rw[Mu];cases hl:Bp (S.sig U) y kn with
  |none=>rw[hl]at h3;exact h3
  |some o=>
   rw[hl]at h3;cases o with
   |none=>exact h3
   |some v=>exact h3.mono fun _=>VR.Ft
 |loop l=>
  obtain⟨L,e0,h1,h2,h3,h4,h5,h6,⟨fi,h7,h8,h9⟩,⟨z,RF⟩⟩:=h;refine⟨L,e0,h1,h2,h3,h4,h5,h6,⟨fi,h7,h8,fun t v ht hg=>?_⟩,⟨z,(Bc RF).2⟩⟩;rw[show T.get (T.Sa (AV.sub S) l.tmps) t=_ from T.get_map _ _ _]at hg;cases N3:T.get l.tmps t with
  |none=>rw[N3]at hg;cases hg
  |some v0=>
   rw[N3]at hg;cases hg;obtain⟨v',q1,q2⟩:=h9 t v0 ht N3;exact⟨v',q1,q2.Ft⟩
 |defs o=>exact h
 |dead=>trivial
 |Am t=>exact h.elim
 |_=>cases hx
theorem BR.Fs{S:Sb}{k:Nat->Bool}{x:Aj}{o:Obj}{z:Nat}(hx:x.GF=true)(hw:x.within k=true)(h:BR J U C (x.sub S) o z):BR (rn J S.g k) (S.sig U) C x o z:=by
 cases x with
 |cells c n f s=>
  obtain⟨cs,e,h1,h2,h3,h4,h5⟩:=h;refine⟨cs,e,h1,h2,h3,h4,fun i a hi ha=>?_⟩;obtain⟨v,hv,Gy⟩:=h5 i (a.sub S) hi (by rw[T.get_map,ha];rfl);exact⟨v,hv,Gy.Fs (JO (show EF k c=true from hw) ha)⟩
 |map es clock=>
  obtain⟨ms,h1,h2⟩:=h;refine⟨ms,h1,?_⟩;clear h1 hx;change (es.all fun e=>e.key.within k&&e.val.within k)=true at hw
  induction es generalizing ms with
  |nil=>cases h2;exact .nil
  |cons e es ih=>
   simp only[List.all_cons,Ah]at hw;cases h2 with
   |cons h0 h1=>
    obtain⟨a,b,c⟩:=h0;exact .cons ⟨VR.Fs hw.1.1 a,VR.Fs hw.1.2 b,c⟩ (ih _ h1 hw.2)
 |row t es n sp=>
  obtain⟨cs,ty,N,h1,h2,h3,h4,h5,h6,h7⟩:=h;refine⟨cs,ty,N,h1,h2,by rw[E.A3]at h3;exact h3,h4,h5,?_,fun j c hj hc=>let ⟨u,q1,q2⟩:=h7 j c hj hc;⟨u,q1,?_⟩⟩
  ·intro p hp;have:=h6 (SM S p) (List.mem_map_of_mem hp);have:(p.1.sub S).den U<(n.sub S).den U:=this;rw[E.A3,E.A3]at this;exact this
  ·unfold B3 at q2 ⊢;rw[KM]at q2;cases hl:Ao (S.sig U) j c sp with
   |none=>rw[hl]at q2;exact q2
   |some a=>
    rw[hl]at q2;obtain⟨p,hp,e⟩:=GD hl;have:=Bf.1 (show (sp.all fun p=>p.2.2.within k)=true from hw) p hp;rw[e]at this;exact AR.Fs this q2
 |Ej t kn=>
  obtain⟨ms,clock,h1,h2,h3⟩:=h;refine⟨ms,clock,h1,h2,fun y=>?_⟩;have h3:=h3 y;unfold BY at h3 ⊢;rw[Mu]at h3;cases hl:Bp (S.sig U) y kn with
  |none=>rw[hl]at h3;exact h3
  |some o=>
   rw[hl]at h3;cases o with
   |none=>exact h3
   |some v=>
    obtain⟨p,hp,e⟩:=FL hl;have:=Bf.1 (show (kn.all fun p=>match p.2 with |some v=>v.within k|none=>true)=true from hw) p hp;rw[e]at this;exact BV.mono h3 fun _=>VR.Fs this
 |loop l=>
  obtain⟨L,e0,h1,h2,h3,h4,h5,h6,⟨fi,h7,h8,h9⟩,⟨z,RF⟩⟩:=h;have hw':(T.all (AV.within k) l.tmps&&k l.defs)=true:=hw;simp only[Ah]at hw';refine⟨L,e0,h1,h2,h3,h4,h5,h6,⟨fi,h7,h8,fun t v ht hg=>?_⟩,⟨z,(Ec hw'.2).trans RF⟩⟩;obtain⟨v',q1,q2⟩:=h9 t (v.sub S) ht (by rw[show T.get (T.Sa (AV.sub S) l.tmps) t=_ from T.get_map _ _ _,hg];rfl);exact⟨v',q1,Bb.Fs (T.Gb hw'.1 hg) q2⟩
 |defs o=>exact h
 |dead=>trivial
 |Am t=>exact h.elim
 |_=>cases hx
end Eng
end
