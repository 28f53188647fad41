/- What is known on a way through a function; calls by contracts; loops by contracts. No conditions beside those in its theorems. -/
import Derived.Test.YtijplfaplkkpcaaGreatE8
set_option linter.unusedVariables false
set_option linter.unusedSimpArgs false
set_option linter.unusedSectionVars false
set_option linter.constructorNameAsVariable false
set_option maxRecDepth 100000
noncomputable section
namespace Eng
open Go Go.RowKit
variable [AD]
variable {P:Program} {C C':AB} {U U':An} {J J':A1} {n:Nat}
def AcG{α:Type}(l:List (Nat×α)):List α:=l.flatMap fun p=>List.replicate p.1 p.2
def ap{α:Type}(l m:List α):List α:=l++m
def vs(a n:Nat):List E:=(List.range n).map fun k=>.var (Nat.add a k)
def ns(a n:Nat):List Nat:=(List.range n).map fun k=>Nat.add a k
def zs(n:Nat):List Nat:=List.replicate n 0
def z0(n:Nat):List E:=List.replicate n (.lit 0)
inductive Ck where
 |i (k:IntKind)
 |b
 |n
 |u
 |s
 |p
 |g (k:Nat)
def A9(k:Ck)(v:Value):Prop:=match k with |.i k=>∃z,v=.int k z|.b=>∃b,v=.bool b|.n=>v=.slice none 0 0 |.u=>True|.s=>True|.p=>True|.g _=>True
abbrev KC:=Nat×List Ck
def ckA(k:Ck)(t:Nat)(e:E)(c:Nat):Option A:=match k with |.i k=>some (.sym k (.cell t e c))|.b=>some (.sb (.cell t e c))|.n=>some .B7|.u=>none|.s=>none|.p=>none|.g _=>none
def rdT(l:List KC)(t:Nat)(e:E)(c:Nat):Option A:=
 @List.rec KC (fun _=>Option A) none (fun p _ r=>@Bool.rec (fun _=>Option A) r (ckA (p.2.getD c .u) t e c) (Nat.beq p.1 t)) l
def WS(ks:List Ck)(B:CH):Prop:=match ks with |.g k::_=>AD.is k B|_=>True
def WA(ks:List Ck):Bool:=match ks with |.g _::_=>false|_=>true
theorem Eo{ks:List Ck}(h:WA ks=true){B:CH}:WS ks B:=by
 cases ks with
 |nil=>trivial
 |cons a l=>cases a<;>first|trivial|(cases h;done)
def EO(U:An)(p:KC):Prop:=(∀j c,A9 (p.2.getD c .u) (U.r p.1 j c))/\WS p.2 (U.b p.1)
theorem Am5{k:Ck}{t:Nat}{e:E}{c:Nat}{a:A}(h:ckA k t e c=some a){v:Value}(hv:v=U.r t (e.den U).toNat c)(hk:A9 k v)(J:A1):AR J U a v:=by
 cases k with
 |i k=>
  obtain⟨z,hz⟩:=hk;cases h;show v=.int k (numOf (U.r t (e.den U).toNat c));rw[<-hv,hz];rfl
 |b=>
  obtain⟨z,hz⟩:=hk;cases h;show v=.bool (decide (numOf (U.r t (e.den U).toNat c) ≠ 0));rw[<-hv,hz];cases z<;>rfl
 |n=>cases h;exact hk
 |u=>cases h
 |s=>cases h
 |p=>cases h
 |g k=>cases h
theorem Aod:∀{l:List KC},Al (EO U) l->∀t e c a,rdT l t e c=some a->∀(J:A1) (v:Value),v=U.r t (e.den U).toNat c->AR J U a v:=by
 intro l h
 induction h with
 |nil=>intro t e c a h;cases h
 |cons h0 _ ih=>
  rename_i p l _;intro t e c a h J v hv;have h':@Bool.rec (fun _=>Option A) (rdT l t e c) (ckA (p.2.getD c .u) t e c) (Nat.beq p.1 t)=some a:=h;cases hb:Nat.beq p.1 t with
  |false=>rw[hb]at h';exact ih t e c a h' J v hv
  |true=>
   rw[hb]at h';have e1:=beq_eq hb;refine Am5 h' hv ?_ J;have:=h0.1 (e.den U).toNat c;rw[e1,<-hv]at this;exact this
abbrev E3:=E×E×E
def opT(l:List E3)(a b:E):Option E:=@List.rec E3 (fun _=>Option E) none (fun p _ r=>@Bool.rec (fun _=>Option E) r (some p.2.2) (E.AJ p.1 a&&E.AJ p.2.1 b)) l
theorem Ack{a b e:E}:∀{l:List E3},opT l a b=some e->(a,b,e)∈l:=by
 intro l
 induction l with
 |nil=>intro h;cases h
 |cons p l ih=>
  intro h;have h':@Bool.rec (fun _=>Option E) (opT l a b) (some p.2.2) (E.AJ p.1 a&&E.AJ p.2.1 b)=some e:=h;cases hb:(E.AJ p.1 a&&E.AJ p.2.1 b) with
  |false=>rw[hb]at h';exact Gq _ (ih h')
  |true=>
   rw[hb]at h';rw[Ah]at hb;cases h';rw[<-Eng.Ac hb.1,<-Eng.Ac hb.2];exact GU
structure QJ where
 t:Nat
 n:E
 t2:Nat
 lo:E
 m:E
 t':Nat
def Am1(l:List QJ)(t:Nat)(n:E)(t2:Nat)(lo m:E):Option Nat:=
 @List.rec QJ (fun _=>Option Nat) none (fun p _ r=>@Bool.rec (fun _=>Option Nat) r (some p.t') (Nat.beq p.t t&&(E.AJ p.n n&&(Nat.beq p.t2 t2&&(E.AJ p.lo lo&&E.AJ p.m m))))) l
def WE(U:An)(p:QJ):Prop:=∀j c,U.r p.t' j c=if (j:Int)<p.n.den U then U.r p.t j c else U.r p.t2 ((p.lo.den U).toNat+(j-(p.n.den U).toNat)) c
theorem AeY{t t2 t':Nat}{n lo m:E}:∀{l:List QJ},Am1 l t n t2 lo m=some t'->(⟨t,n,t2,lo,m,t'⟩:QJ)∈l:=by
 intro l
 induction l with
 |nil=>intro h;cases h
 |cons p l ih=>
  intro h;have h':@Bool.rec (fun _=>Option Nat) (Am1 l t n t2 lo m) (some p.t') (Nat.beq p.t t&&(E.AJ p.n n&&(Nat.beq p.t2 t2&&(E.AJ p.lo lo&&E.AJ p.m m))))=some t':=h;cases hb:(Nat.beq p.t t&&(E.AJ p.n n&&(Nat.beq p.t2 t2&&(E.AJ p.lo lo&&E.AJ p.m m)))) with
  |false=>rw[hb]at h';exact Gq _ (ih h')
  |true=>
   rw[hb]at h';simp only[Ah]at hb;obtain⟨b1,b2,b3,b4,b5⟩:=hb;cases h';rw[<-beq_eq b1,<-beq_eq b3,<-Eng.Ac b2,<-Eng.Ac b4,<-Eng.Ac b5];exact GU
structure AbE where
 t:Nat
 sp:List (E×Nat×A)
 t':Nat
 kp:List (E×Nat×A):=[]
def Ami(l:List AbE)(t:Nat)(sp:List (E×Nat×A)):Option (Nat×List (E×Nat×A)):=@List.rec AbE (fun _=>Option (Nat×List (E×Nat×A))) none (fun p _ r=>@Bool.rec (fun _=>Option (Nat×List (E×Nat×A))) r (some (p.t',p.kp)) (Nat.beq p.t t&&Av AaR (p.sp++p.kp) sp)) l
def A.val(U:An)(a:A):Option Value:=match a with
 |.bool b=>some (.bool b)
 |.int k n=>some (.int k n)
 |.sym k e=>some (.int k (e.den U))
 |.sb e=>some (.bool (decide (e.den U ≠ 0)))
 |.rc t e c=>some (U.r t (e.den U).toNat c)
 |.str s=>some (.string s)
 |.HB=>some (.pointer none)
 |.B7=>some (.slice none 0 0)
 |.Jv=>some (.map none)
 |.KF=>some .nilFunc
 |_=>none
def A.plain(a:A):Bool:=match a with
 |.bool _|.int _ _|.sym _ _|.sb _|.rc _ _ _|.str _|.HB|.B7|.Jv|.KF=>true
 |_=>false
theorem A.Pg{a:A}(hp:a.plain=true){v:Value}(h:AR J U a v):a.val U=some v:=by
 cases a<;>first|(cases hp;done)|(exact congrArg some (show v=_ from h).symm)|(exact congrArg some h.1.symm)
structure Kp(U:An)(p:AbE):Prop where
 plain:(p.sp.all fun q=>q.2.2.plain)=true
 row:∀j c,U.r p.t' j c=match Ao U j c p.sp with |some a=>(a.val U).getD undef|none=>U.r p.t j c
 Atn:∀a∈p.sp,∀b∈p.kp,a.2.1 ≠ b.2.1\/a.1.den U ≠ b.1.den U
theorem YO{j c:Nat}:∀{l m:List (E×Nat×A)},Ao U j c (l++m)=match Ao U j c l with |some a=>some a|none=>Ao U j c m:=by
 intro l m
 induction l with
 |nil=>rfl
 |cons p l ih=>
  show (if p.1.den U=(j:Int)/\p.2.1=c then some p.2.2 else Ao U j c (l++m))=match (if p.1.den U=(j:Int)/\p.2.1=c then some p.2.2 else Ao U j c l) with |some a=>some a|none=>Ao U j c m
  split
  ·rfl
  ·exact ih
theorem S6{j c:Nat}{a:A}:∀{l:List (E×Nat×A)},Ao U j c l=some a->∃p∈l,p.1.den U=(j:Int)/\p.2.1=c/\p.2.2=a:=by
 intro l
 induction l with
 |nil=>intro h;cases h
 |cons p l ih=>
  intro h;unfold Ao at h;split at h
  ·rename_i hc;exact⟨p,GU,hc.1,hc.2,Option.some.inj h⟩
  ·obtain⟨q,h1,h2⟩:=ih h;exact⟨q,Gq _ h1,h2⟩
theorem Kp.is{p:AbE}(h:Kp U p){j c:Nat}{v:Value}(hv:B3 J U p.t (p.sp++p.kp) j c v):B3 J U p.t' p.kp j c v:=by
 unfold B3 at hv ⊢;rw[YO]at hv;cases hr:Ao U j c p.sp with
 |some a=>
  rw[hr]at hv;obtain⟨q,hq,e1,e2,e3⟩:=S6 hr;have hk:Ao U j c p.kp=none:=by
   cases hk:Ao U j c p.kp with
   |none=>rfl
   |some b=>
    obtain⟨q2,hq2,f1,f2,_⟩:=S6 hk;rcases h.Atn q hq q2 hq2 with d|d
    ·exact absurd (e2.trans f2.symm) d
    ·exact absurd (e1.trans f1.symm) d
  rw[hk];show v=U.r p.t' j c;rw[h.row j c,hr];have:=Bf.1 h.plain q hq;rw[e3]at this;show v=(a.val U).getD undef;rw[A.Pg this hv];rfl
 |none=>
  rw[hr]at hv;cases hk:Ao U j c p.kp with
  |some b=>rw[hk]at hv;exact hv
  |none=>
   rw[hk]at hv;show v=U.r p.t' j c;rw[h.row j c,hr];exact hv
theorem Aiw{t:Nat}{sp:List (E×Nat×A)}{q:Nat×List (E×Nat×A)}:∀{l:List AbE},Al (Kp U) l->Ami l t sp=some q->(∀p∈q.2,p∈sp)/\∀(J:A1) (j c:Nat) (v:Value),B3 J U t sp j c v->B3 J U q.1 q.2 j c v:=by
 intro l h
 induction h with
 |nil=>intro h;cases h
 |cons h0 _ ih=>
  rename_i p l _;intro h;have h':@Bool.rec (fun _=>Option (Nat×List (E×Nat×A))) (Ami l t sp) (some (p.t',p.kp)) (Nat.beq p.t t&&Av AaR (p.sp++p.kp) sp)=some q:=h;cases hb:(Nat.beq p.t t&&Av AaR (p.sp++p.kp) sp) with
  |false=>rw[hb]at h';exact ih h'
  |true=>
   rw[hb]at h';rw[Ah]at hb;cases h';have e1:=beq_eq hb.1;have e2:=Ag (fun _ _=>Wo) hb.2;subst e1;subst e2;exact⟨fun a ha=>List.mem_append_right _ ha,fun J j c v hv=>h0.is hv⟩
def V.val(U:An)(v:V):Option Value:=match v with
 |.one a=>a.val U
 |.agg l=>some (.agg (l.map fun a=>(a.val U).getD undef).toArray)
def V.plain(v:V):Bool:=match v with |.one a=>a.plain|.agg l=>l.all A.plain
theorem V.Pg{v:V}(hp:v.plain=true){u:Value}(h:VR J U v u):v.val U=some u:=by
 cases v with
 |one a=>exact A.Pg hp h
 |agg l=>
  obtain⟨vs,h1,h2⟩:=h;rw[h1];show some (Value.agg (l.map fun a=>(a.val U).getD undef).toArray)=some (.agg vs.toArray);have:(l.map fun a=>(a.val U).getD undef)=vs:=by
   clear h1;have hp:l.all A.plain=true:=hp
   induction h2 with
   |nil=>rfl
   |cons h0 _ ih=>
    simp only[List.all_cons,Ah]at hp;have e1:=ih hp.2 hp.2;have e2:=A.Pg hp.1 h0;rw[List.map_cons,e1,e2];rfl
  rw[this]
structure AbM where
 t:Nat
 kn:List (E×Option V)
 t':Nat
def Amh(l:List AbM)(t:Nat)(kn:List (E×Option V)):Option Nat:=@List.rec AbM (fun _=>Option Nat) none (fun p _ r=>@Bool.rec (fun _=>Option Nat) r (some p.t') (Nat.beq p.t t&&Av Aa0 p.kn kn)) l
def NL(o:Option V):Bool:=match o with |some v=>v.plain|none=>true
structure TA(U:An)(p:AbM):Prop where
 plain:(p.kn.all fun q=>NL q.2)=true
 map:∀z,U.m p.t' z=match Bp U z p.kn with |some (some v)=>v.val U|some none=>none|none=>U.m p.t z
theorem TA.is{p:AbM}(h:TA U p){ms:List MapEntry}{z:Int}(hv:BY J U p.t p.kn ms z):BY J U p.t' [] ms z:=by
 show match U.m p.t' z with |some u=>BV ms z fun u'=>u'=u|none=>∀e∈ms,e.key ≠ .int .i64 z
 rw[h.map z];unfold BY at hv;cases hk:Bp U z p.kn with
 |none=>rw[hk]at hv;exact hv
 |some o=>
  rw[hk]at hv;cases o with
  |none=>exact hv
  |some v=>
   obtain⟨q,hq,e⟩:=FL hk;have hp:=Bf.1 h.plain q hq;rw[e]at hp;obtain⟨x,x1,x2,x3⟩:=hv;show match v.val U with |some u=>BV ms z fun u'=>u'=u|none=>_
   rw[V.Pg hp x3];exact⟨x,x1,x2,rfl⟩
theorem Aiv{t t':Nat}{kn:List (E×Option V)}:∀{l:List AbM},Al (TA U) l->Amh l t kn=some t'->∀(J:A1) (ms:List MapEntry) (z:Int),BY J U t kn ms z->BY J U t' [] ms z:=by
 intro l h
 induction h with
 |nil=>intro h;cases h
 |cons h0 _ ih=>
  rename_i p l _;intro h;have h':@Bool.rec (fun _=>Option Nat) (Amh l t kn) (some p.t') (Nat.beq p.t t&&Av Aa0 p.kn kn)=some t':=h;cases hb:(Nat.beq p.t t&&Av Aa0 p.kn kn) with
  |false=>rw[hb]at h';exact ih h'
  |true=>
   rw[hb]at h';rw[Ah]at hb;cases h';have e1:=beq_eq hb.1;have e2:=Ag (fun _ _=>VE) hb.2;subst e1;subst e2;exact fun J ms z hz=>h0.is hz
def abT(l:List AbE)(m:List AbM):PH:={r:=Ami l,m:=Amh m}
theorem UX{l:List AbE}{m:List AbM}(h:Al (Kp U) l)(g:Al (TA U) m):Tk U (abT l m):=⟨fun _ _ _ hq=>Aiw h hq,fun _ _ _ hq=>Aiv g hq⟩
abbrev MrF:=Nat×E×Option V
def Aly(J:A1)(U:An)(o:Option V)(m:Option Value):Prop:=match o with |some v=>∃u,m=some u/\VR J U v u|none=>m=none
def mrT(l:List MrF)(t:Nat)(e:E):Option (Option V):=@List.rec MrF (fun _=>Option (Option V)) none (fun p _ r=>@Bool.rec (fun _=>Option (Option V)) r (some p.2.2) (Nat.beq p.1 t&&E.AJ p.2.1 e)) l
def Amb(U:An)(p:MrF):Prop:=∀J:A1,Aly J U p.2.2 (U.m p.1 (p.2.1.den U))
theorem AnJ{t:Nat}{e:E}{o:Option V}:∀{l:List MrF},Al (Amb U) l->mrT l t e=some o->∀J:A1,Aly J U o (U.m t (e.den U)):=by
 intro l h
 induction h with
 |nil=>intro h;cases h
 |cons h0 _ ih=>
  rename_i p l _;intro h;have h':@Bool.rec (fun _=>Option (Option V)) (mrT l t e) (some p.2.2) (Nat.beq p.1 t&&E.AJ p.2.1 e)=some o:=h;cases hb:(Nat.beq p.1 t&&E.AJ p.2.1 e) with
  |false=>rw[hb]at h';exact ih h'
  |true=>
   rw[hb]at h';rw[Ah]at hb;cases h';rw[<-beq_eq hb.1,<-Eng.Ac hb.2];exact h0
def Aez(k:Nat->Option Obj)(ks:List Ck)(r N:Nat):Prop:=∃(cs:Array Value) (ty:TypeId),k r=some (.cells cs ty (0,0))/\N*ks.length<=cs.size/\∀j c,j<N->c<ks.length->∃u,cs[j*ks.length+c]? =some u/\u.oneCell'=true/\A9 (ks.getD c .u) u
def SlK(k:Nat->Option Obj)(ks:List Ck)(u:Value):Prop:=∃p N cap,u=.slice p N cap/\N<=16000/\(N=0\/∃r,p=some ⟨r,0,none⟩/\Aez k ks r N)
def PtK(k:Nat->Option Obj)(ks:List Ck)(u:Value):Prop:=∃r,u=.pointer (some ⟨r,0,none⟩)/\Aez k ks r 1
def AgK(ks:List Ck)(u:Value):Prop:=∃vs:List Value,u=.agg vs.toArray/\vs.length=ks.length/\∀c v,vs[c]? =some v->A9 (ks.getD c .u) v
def MkP(k:Nat->Option Obj)(ks:List Ck)(u:Value):Prop:=match ks with
 |.s::ks=>SlK k ks u
 |.p::ks=>PtK k ks u
 |ks=>AgK ks u
def AjN(k:Ck):Bool:=match k with |.s=>false|.p=>false|_=>true
theorem MkP.agg{k:Nat->Option Obj}{ks:List Ck}{u:Value}(hn:ks.all AjN=true):MkP k ks u↔AgK ks u:=by
 cases ks with
 |nil=>exact Iff.rfl
 |cons a ks=>cases a<;>first|exact Iff.rfl|(cases hn;done)
def HN(U:An)(p:KC):Prop:=∀z u,U.m p.1 z=some u->(0<=z/\z<65536)/\MkP U.k p.2 u
def Yc:BinOp->Bool|.eql=>true|_=>false
def VP(l:List CF)(e:E):Option Int:=
 @List.rec CF (fun _=>Option Int) none (fun p _ r=>match p.y with |.lit z=>@Bool.rec (fun _=>Option Int) r (some z) (Yc p.op&&(p.r&&E.AJ p.x e))|_=>r) l
theorem AbZ{e:E}{z:Int}:∀{l:List CF},Al (A2 U) l->VP l e=some z->e.den U=z:=by
 intro l h
 induction h with
 |nil=>intro h;cases h
 |cons h0 _ ih=>
  rename_i p l _;intro h;obtain⟨op,x,y,r⟩:=p;cases y with
  |lit y=>
   have h':@Bool.rec (fun _=>Option Int) (VP l e) (some y) (Yc op&&(r&&E.AJ x e))=some z:=h;cases hb:(Yc op&&(r&&E.AJ x e)) with
   |false=>rw[hb]at h';exact ih h'
   |true=>
    rw[hb]at h';simp only[Ah]at hb;obtain⟨b1,b2,b3⟩:=hb;cases h';have A8:op=.eql:=by cases op<;>first|rfl|cases b1
    subst A8;rw[<-Eng.Ac b3];have h0:(x.den U==z)=r:=h0;rw[b2]at h0;exact eq_of_beq h0
  |_=>exact ih h
abbrev LpF:=FuncId×Nat×HU
structure St where
 base:Nat
 cf:List CF
 rd:List KC
 K:An->Prop
 hy:List (Mc×Sb)
 Kh:List LpF
 CI:List QJ
 abs:List AbE
 BD:List E3
 BB:List E3
 Fy:List AbM:=[]
 DW:List MrF:=[]
 mp:List KC:=[]
abbrev FuT:=Nat->Option FI
abbrev TyT:=Nat->Option TI
structure Wd where
 P:Program
 ty:TyT
 fu:FuT
def Wd.ok(W:Wd):Prop:=(∀t ti,W.ty t=some ti->Qk W.P t ti)/\(∀f fi,W.fu f=some fi->WI W.P f fi)/\W.P.follows .mixedOrders=true
structure St.ok(W:Wd)(s:St)(U:An):Prop where
 cf:Al (A2 U) s.cf
 rd:Al (EO U) s.rd
 K:s.K U
 hy:Al (fun p=>∀C:AB,C.fu=W.fu->Hs W.P C (p.2.sig U) p.1) s.hy
 Kh:Al (fun p=>∀C:AB,C.fu=W.fu->Lw W.P C U p.2.2) s.Kh
 CI:Al (WE U) s.CI
 abs:Al (Kp U) s.abs
 BD:Al (fun p=>p.2.2.den U=p.1.den U+p.2.1.den U) s.BD
 BB:Al (fun p=>p.2.2.den U=p.1.den U-p.2.1.den U) s.BB
 Fy:Al (TA U) s.Fy
 DW:Al (Amb U) s.DW
 mp:Al (HN U) s.mp
def UU(W:Wd)(s:St)(U:An):Prop:=∀U',Ai s.base U U'->s.ok W U'
def AkU:FuncId->List AV->H->Option (AV×H):=fun _ _ _=>none
theorem Af0:Tm P U C AkU:=fun _ _ _ _ _ h=>nomatch h
def lpN(nm:E->Option Int)(ab:PH)(l:List LpF)(f:FuncId)(k:Nat):Option HU:=(lpO l f k).map fun s=>AgG nm (Amg ab s)
def Is(W:Wd)(s:St):AB:=
 {ty:=W.ty,fu:=W.fu,cmp:=Am6 s.cf,rd:=rdT s.rd,ext:=fun f args h=>AmQ s.hy AkU f args (BF (abT s.abs s.Fy) h),lp:=lpN (VP s.cf) (abT s.abs s.Fy) s.Kh,cat:=Am1 s.CI,sum:=opT s.BD,dif:=opT s.BB,norm:=VP s.cf,mr:=mrT s.DW}
theorem Al.imp{α:Type}{p q:α->Prop}(hpq:∀x,p x->q x):∀{l:List α},Al p l->Al q l:=by
 intro l h
 induction h with
 |nil=>exact .nil
 |cons h0 _ ih=>exact .cons (hpq _ h0) ih
theorem Qs{W:Wd}(hW:W.ok){s:St}(h:s.ok W U):A4 W.P (Is W s) U:=by
 obtain⟨h3,h4,h5⟩:=hW;refine A4.of h3 h4 (AiJ h.cf) h5 (hn:=fun e z hz=>AbZ h.cf hz) (hs:=fun a b e he=>h.BD.mem _ (Ack he)) (hd:=fun a b e he=>h.BB.mem _ (Ack he)) (hcat:=?_) (hrd:=Aod h.rd) (MB:=fun t e o ho J=>by have q:=AnJ h.DW ho J;cases o with |some v=>exact q|none=>exact q);intro t n t2 lo m t' hc N M hN hM j c hj;have:=h.CI.mem _ (AeY hc) j c;rw[this];show (if (j:Int)<n.den U then _ else _)=_;rw[<-hN];have e:((N:Int)).toNat=N:=rfl
 by_cases Au:j<N
 ·rw[if_pos (by omega),if_pos Au]
 ·rw[if_neg (by omega),if_neg Au,e]
theorem Qx{W:Wd}{s:St}(h:s.ok W U):JK (Is W s) W.P U:=by
 refine ((Tm.Avk Af0 (h.hy.imp fun _ q=>q _ rfl)).ab (UX h.abs h.Fy)).ok rfl ?_;intro f k x hx fr hh BN X c _ _ AM J w a b hb hr hf;have hx:(lpO s.Kh f k).map (fun t=>AgG (VP s.cf) (Amg (abT s.abs s.Fy) t))=some x:=hx;cases hl:lpO s.Kh f k with
 |none=>rw[hl]at hx;cases hx
 |some y=>
  rw[hl]at hx;cases hx;exact Lw.nrm (fun e n hn=>AbZ h.cf hn) (Lw.ab (UX h.abs h.Fy) (AnB (h.Kh.imp fun _ q=>q _ rfl) hl)) fr hh BN X c AM J w a b hb hr hf
end Eng
namespace Eng
open Go Go.RowKit
variable [AD]
variable {P:Program} {C C':AB} {U U':An} {J J':A1} {n:Nat} {W:Wd}
theorem An.ApY{a b:An}(h1:∀i,a.v i=b.v i)(h2:∀i,a.r i=b.r i)(h3:∀i,a.m i=b.m i)(h4:a.k=b.k)(h5:∀i,a.b i=b.b i)(h6:∀i,a.ro i=b.ro i):a=b:=by
 obtain⟨v,r,m,k,u,o⟩:=a;obtain⟨v',r',m',k',u',o'⟩:=b;have e1:v=v':=funext h1;have e2:r=r':=funext h2;have e3:m=m':=funext h3;have e4:k=k':=h4;have e5:u=u':=funext h5;have e6:o=o':=funext h6;rw[e1,e2,e3,e4,e5,e6]
theorem Al.append{α:Type}{p:α->Prop}{l m:List α}(h:Al p l)(g:Al p m):Al p (l++m):=by
 induction h with
 |nil=>exact g
 |cons h0 _ ih=>exact .cons h0 ih
structure Kn(cf:List CF)(rd:List KC)(q:An->Prop)(U:An)(mp0:List KC:=[]):Prop where
 cf:Al (A2 U) cf
 rd:Al (EO U) rd
 q:q U
 mp:Al (HN U) mp0:=by exact .nil
structure Ds where
 v:AV
 AX:List (Nat×Aj)
 n1:Nat
 cf:List CF:=[]
 rd:List KC:=[]
 q:An->Prop:=fun _=>True
 mp:List KC:=[]
structure Bq where
 f:FuncId
 args:List AV
 bl:List (Nat×Aj)
 n:Nat
 np:Nat
 hi:Nat
 cf:List CF:=[]
 rd:List KC:=[]
 q:An->Prop:=fun _=>True
 outs:List Ds
 mp:List KC:=[]
 nz:List Nat:=[]
def Bq.sum(c:Bq)(o:Ds):Mc:=⟨c.f,c.args,c.bl,c.n,o.v,o.AX,o.n1⟩
def Bq.pre(c:Bq)(U:An):Prop:=Kn c.cf c.rd c.q U c.mp
def Ds.post(o:Ds)(U:An):Prop:=Kn o.cf o.rd o.q U o.mp
def Bq.ok(W:Wd)(c:Bq):Prop:=∀U,c.pre U->∃o∈c.outs,∃U',Ai c.np U U'/\∀Uq2,Ai c.hi U' Uq2->o.post Uq2/\∀C:AB,C.fu=W.fu->Hs W.P C Uq2 (c.sum o)
def AA(W:Wd)(s:St)(Q:St->Prop):Prop:=∀U,UU W s U->∃s' U',Q s'/\Ai s.base U U'/\UU W s' U'
def St.cmp(s:St)(f:CF):St:={s with cf:=f::s.cf}
variable {s:St} {Q:St->Prop}
theorem UU.self(h:UU W s U):s.ok W U:=h U .refl
theorem St.ok.cmp(h:s.ok W U){f:CF}(hf:A2 U f):(s.cmp f).ok W U:=⟨.cons hf h.cf,h.rd,h.K,h.hy,h.Kh,h.CI,h.abs,h.BD,h.BB,h.Fy,h.DW,h.mp⟩
theorem AA.done(h:Q s):AA W s Q:=fun U hs=>⟨s,U,h,.refl,hs⟩
theorem AA.absurd(h:∀U,s.ok W U->False):AA W s Q:=fun U hs=>(h U hs.self).elim
theorem AA.fact(f:CF)(h:∀U,s.ok W U->A2 U f)(t:AA W (s.cmp f) Q):AA W s Q:=fun U hs=>t U fun Uq2 h2=>(hs Uq2 h2).cmp (h Uq2 (hs Uq2 h2))
theorem AA.test(o:BinOp)(ho:o ≠ .add)(a b:E)(hl:(a.lo s.base&&b.lo s.base)=true)(t:AA W (s.cmp ⟨o,a,b,true⟩) Q)(e:AA W (s.cmp ⟨o,a,b,false⟩) Q):AA W s Q:=by
 intro U hs;rw[Ah]at hl;have key:∀r,BQ o (a.den U) (b.den U)=r->UU W (s.cmp ⟨o,a,b,r⟩) U:=by
  intro r hr Uq2 h2;refine (hs Uq2 h2).cmp ?_;refine (BU ho).2 ?_;show BQ o (a.den Uq2) (b.den Uq2)=r;rw[E.agree h2 hl.1,E.agree h2 hl.2];exact hr
 cases hc:BQ o (a.den U) (b.den U) with
 |true=>exact t U (key _ hc)
 |false=>exact e U (key _ hc)
theorem AA.sum(a b e:E)(h:∀U,s.ok W U->e.den U=a.den U+b.den U)(t:AA W {s with BD:=(a,b,e)::s.BD} Q):AA W s Q:=
 fun U hs=>t U fun Uq2 h2=>let g:=hs Uq2 h2;⟨g.cf,g.rd,g.K,g.hy,g.Kh,g.CI,g.abs,.cons (h Uq2 g) g.BD,g.BB,g.Fy,g.DW,g.mp⟩
theorem AA.dif(a b e:E)(h:∀U,s.ok W U->e.den U=a.den U-b.den U)(t:AA W {s with BB:=(a,b,e)::s.BB} Q):AA W s Q:=
 fun U hs=>t U fun Uq2 h2=>let g:=hs Uq2 h2;⟨g.cf,g.rd,g.K,g.hy,g.Kh,g.CI,g.abs,g.BD,.cons (h Uq2 g) g.BB,g.Fy,g.DW,g.mp⟩
theorem AA.kind(l:List KC)(h:∀U,s.ok W U->Al (EO U) l)(t:AA W {s with rd:=l++s.rd} Q):AA W s Q:=
 fun U hs=>t U fun Uq2 h2=>let g:=hs Uq2 h2;⟨g.cf,by
  exact (h Uq2 g).append g.rd,g.K,g.hy,g.Kh,g.CI,g.abs,g.BD,g.BB,g.Fy,g.DW,g.mp⟩
def An.Wn(U:An)(t:Nat)(x:Nat->Nat->Value):An:={U with r:=fun u=>if u=t then x else U.r u}
theorem An.JB{t:Nat}{x:Nat->Nat->Value}:Ai t U (U.Wn t x):=⟨fun _ _=>rfl,fun u hu=>if_neg (by omega),fun _ _=>rfl,rfl,fun _ _=>rfl,fun _ _=>rfl⟩
theorem AA.cat(t:Nat)(n:E)(t2:Nat)(lo m:E)(hl:(Nat.blt t s.base&&(Nat.blt t2 s.base&&(n.lo s.base&&lo.lo s.base)))=true)
 (x:AA W {s with base:=s.base+1,CI:=⟨t,n,t2,lo,m,s.base⟩::s.CI} Q):AA W s Q:=by
 intro U hs;simp only[Ah]at hl;obtain⟨l1,l2,l3,l4⟩:=hl;have l1:=AF l1;have l2:=AF l2;have h1:Ai s.base U (U.Wn s.base fun j c=>if (j:Int)<n.den U then U.r t j c else U.r t2 ((lo.den U).toNat+(j-(n.den U).toNat)) c):=An.JB;have hx:UU W {s with base:=s.base+1,CI:=⟨t,n,t2,lo,m,s.base⟩::s.CI} (U.Wn s.base fun j c=>if (j:Int)<n.den U then U.r t j c else U.r t2 ((lo.den U).toNat+(j-(n.den U).toNat)) c):=by
  intro Uq2 g2;have g2:Ai (s.base+1) _ Uq2:=g2;have g3:=h1.trans (g2.le (Nat.le_add_right _ _));have g:=hs Uq2 g3;refine⟨g.cf,g.rd,g.K,g.hy,g.Kh,.cons ?_ g.CI,g.abs,g.BD,g.BB,g.Fy,g.DW,g.mp⟩;intro j c;show Uq2.r s.base j c=if (j:Int)<n.den Uq2 then Uq2.r t j c else Uq2.r t2 ((lo.den Uq2).toNat+(j-(n.den Uq2).toNat)) c
  rw[g2.r s.base (by omega),E.agree g3 l3,E.agree g3 l4,g3.r t l1,g3.r t2 l2];show (if s.base=s.base then _ else _:Nat->Nat->Value) j c=_;rw[if_pos rfl]
 obtain⟨s',Uq3,q1,q2,q3⟩:=x _ hx;exact⟨s',Uq3,q1,h1.trans (Ai.le (show s.base<=s.base+1 from Nat.le_add_right _ _) q2),q3⟩
theorem A.IL(hg:Ai n U U'){a:A}(hb:a.lo n=true):a.val U'=a.val U:=by
 cases a with
 |sym k e=>show some (Value.int k (e.den U'))=_;rw[E.agree hg (e:=e) hb];rfl
 |sb e=>show some (Value.bool (decide (e.den U' ≠ 0)))=_;rw[E.agree hg (e:=e) hb];rfl
 |rc t e c=>
  have hb:(Nat.blt t n&&e.lo n)=true:=hb;rw[Ah]at hb;show some (U'.r t (e.den U').toNat c)=_;rw[E.agree hg hb.2,hg.r t (AF hb.1)];rfl
 |_=>rfl
theorem AA.abs(t:Nat)(sp kp:List (E×Nat×A))(hd:∀U,s.ok W U->∀a∈sp,∀b∈kp,a.2.1 ≠ b.2.1\/a.1.den U ≠ b.1.den U)(hl:(Nat.blt t s.base&&sp.all fun p=>p.1.lo s.base&&(p.2.2.lo s.base&&p.2.2.plain))=true)
 (x:AA W {s with base:=s.base+1,abs:=⟨t,sp,s.base,kp⟩::s.abs} Q):AA W s Q:=by
 intro U hs;rw[Ah]at hl;obtain⟨l1,l2⟩:=hl;have l1:=AF l1;have l3:(sp.all fun p=>p.1.lo s.base&&p.2.2.lo s.base)=true:=Bf.2 fun p hp=>by
  have:=Bf.1 l2 p hp;simp only[Ah]at this;rw[this.1,this.2.1];rfl
 have h1:Ai s.base U (U.Wn s.base fun j c=>match Ao U j c sp with |some a=>(a.val U).getD undef|none=>U.r t j c):=An.JB;have hx:UU W {s with base:=s.base+1,abs:=⟨t,sp,s.base,kp⟩::s.abs} (U.Wn s.base fun j c=>match Ao U j c sp with |some a=>(a.val U).getD undef|none=>U.r t j c):=by
  intro Uq2 g2;have g2:Ai (s.base+1) _ Uq2:=g2;have g3:=h1.trans (g2.le (Nat.le_add_right _ _));have g:=hs Uq2 g3;refine⟨g.cf,g.rd,g.K,g.hy,g.Kh,g.CI,.cons ?_ g.abs,g.BD,g.BB,g.Fy,g.DW,g.mp⟩;refine⟨Bf.2 fun p hp=>?_,fun j c=>?_,hd Uq2 g⟩
  ·have:=Bf.1 l2 p hp;simp only[Ah]at this;exact this.2.2
  ·show Uq2.r s.base j c=match Ao Uq2 j c sp with |some a=>(a.val Uq2).getD undef|none=>Uq2.r t j c
   rw[g2.r s.base (by omega),LO g3 l3,g3.r t l1];show (if s.base=s.base then _ else _:Nat->Nat->Value) j c=_;rw[if_pos rfl];cases hr:Ao U j c sp with
   |none=>rfl
   |some a=>
    obtain⟨p,hp,e⟩:=GD hr;have:=Bf.1 l2 p hp;simp only[Ah]at this;rw[<-e];show (p.2.2.val U).getD undef=(p.2.2.val Uq2).getD undef;rw[A.IL g3 this.2.1]
 obtain⟨s',Uq3,q1,q2,q3⟩:=x _ hx;exact⟨s',Uq3,q1,h1.trans (Ai.le (show s.base<=s.base+1 from Nat.le_add_right _ _) q2),q3⟩
end Eng
namespace Eng
open Go Go.RowKit
variable [AD]
variable {P:Program} {C C':AB} {U U':An} {J J':A1} {n:Nat} {W:Wd} {s:St} {Q:St->Prop}
def Ki(base np:Nat)(se:List E)(sr sm sg:List Nat):Sb:=
 {s:=fun i=>bif Nat.blt i np then se.getD i (.lit 0) else .var (Nat.add base (Nat.sub i np))
  r:=fun t=>bif Nat.blt t np then sr.getD t 0 else Nat.add base (Nat.sub t np)
  m:=fun t=>bif Nat.blt t np then sm.getD t 0 else Nat.add base (Nat.sub t np)
  g:=fun b=>sg.getD b b}
def EG(S:Sb)(f:CF):CF:=⟨f.op,f.x.sub S,f.y.sub S,f.r⟩
def mkSub(S:Sb)(k:KC):KC:=(S.m k.1,k.2)
def P1(S:Sb)(k:KC):KC:=(S.r k.1,k.2)
theorem Q9{S:Sb}{k:IntKind}{a b:E}:(E.bin .lss k a b).sub S=.bin .lss k (a.sub S) (b.sub S):=by
 show TY .lss k (a.sub S) (b.sub S)=_;unfold TY;split
 ·rfl
 ·rfl
theorem Na{S:Sb}:∀{f n:Nat} {e:E} {l:List E},Es f n e=some l->Es f n (e.sub S)=some (l.map (E.sub S)):=by
 intro f
 induction f with
 |zero=>intro n e l h;cases h
 |succ f ih=>
  intro n e l h
  match n with
  | 0=>cases h;rfl
  | 1=>cases h;rfl
  |n+2=>
   unfold Es at h;simp only at h;split at h
   ·rename_i k a b;rw[Q9];cases h1:Es f ((n+2) / 2) a with
    |none=>rw[h1]at h;cases h
    |some la=>
     cases h2:Es f (n+2-(n+2) / 2) b with
     |none=>rw[h1,h2]at h;cases h
     |some lb=>
      rw[h1,h2]at h;cases h;show (Es f ((n+2) / 2) (a.sub S)).bind (fun l=>(Es f (n+2-(n+2) / 2) (b.sub S)).map fun m=>l++m)=_;rw[ih h1,ih h2];simp
   ·cases h
theorem QU{S:Sb}{g:E->Option Nat}{h:Nat->Nat}(hg:∀e t,g e=some t->g (e.sub S)=some (h t)):∀{l:List E} {m:List Nat},GK g l=some m->GK g (l.map (E.sub S))=some (m.map h):=by
 intro l
 induction l with
 |nil=>intro m e;cases e;rfl
 |cons a l ih=>
  intro m e;unfold GK at e;cases h1:g a with
  |none=>rw[h1]at e;cases e
  |some t=>
   cases h2:GK g l with
   |none=>rw[h1,h2]at e;cases e
   |some m'=>
    rw[h1,h2]at e;cases e;show (g (a.sub S)).bind (fun a=>(GK g (l.map (E.sub S))).map fun m=>a::m)=_;rw[hg a t h1,ih h2];rfl
theorem TM{S:Sb}(e:E)(t:Nat)(h:Hz e=some t):Hz (e.sub S)=some (S.r t):=by
 unfold Hz at h;split at h
 ·cases h;rfl
 ·cases h
theorem Aa4{S:Sb}(e:E)(t:Nat)(h:HA e=some t):HA (e.sub S)=some (S.m t):=by
 unfold HA at h;split at h
 ·cases h;rfl
 ·cases h
theorem O7{c:Nat}{x:E}{p:List E×List Nat×List Nat×List Nat}(h:O6 c x=some p):∃k1 k2 k3 a b m k lr lm lb,x=.bin .lss k1 a (.bin .lss k2 b (.bin .lss k3 m k))/\Es 12 (c / 10000 % 100) a=some p.1/\
 Es 12 (c / 1000000 % 100) b=some lr/\GK Hz lr=some p.2.1/\Es 12 (c / 100000000 % 100) m=some lm/\GK HA lm=some p.2.2.1/\Es 12 (c / 10000000000) k=some lb/\GK Hz lb=some p.2.2.2:=by
 unfold O6 at h;split at h
 ·rename_i k1 a k2 b k3 m k;cases h1:Es 12 (c / 10000 % 100) a with
  |none=>rw[h1]at h;cases h
  |some l1=>
   rw[h1]at h;simp only[Option.bind_some]at h;cases h2:Es 12 (c / 1000000 % 100) b with
   |none=>rw[h2]at h;cases h
   |some l2=>
    rw[h2]at h;simp only[Option.bind_some]at h;cases h3:GK Hz l2 with
    |none=>rw[h3]at h;cases h
    |some l3=>
     rw[h3]at h;simp only[Option.bind_some]at h;cases h4:Es 12 (c / 100000000 % 100) m with
     |none=>rw[h4]at h;cases h
     |some l4=>
      rw[h4]at h;simp only[Option.bind_some]at h;cases h5:GK HA l4 with
      |none=>rw[h5]at h;cases h
      |some l5=>
       rw[h5]at h;simp only[Option.bind_some]at h;cases h6:Es 12 (c / 10000000000) k with
       |none=>rw[h6]at h;cases h
       |some l6=>
        rw[h6]at h;simp only[Option.bind_some]at h;cases h7:GK Hz l6 with
        |none=>rw[h7]at h;cases h
        |some l7=>
         rw[h7]at h;cases h;exact⟨k1,k2,k3,a,b,m,k,l2,l4,l6,rfl,h1,h2,h3,h4,h5,h6,h7⟩
 ·cases h
theorem Abr{c:Nat}{k1 k2 k3:IntKind}{a b m k:E}{l1 lr lm lb:List E}{rs ms bs:List Nat}(h1:Es 12 (c / 10000 % 100) a=some l1)(h2:Es 12 (c / 1000000 % 100) b=some lr)(h3:GK Hz lr=some rs)
 (h4:Es 12 (c / 100000000 % 100) m=some lm) (h5:GK HA lm=some ms) (h6:Es 12 (c / 10000000000) k=some lb) (h7:GK Hz lb=some bs):O6 c (.bin .lss k1 a (.bin .lss k2 b (.bin .lss k3 m k)))=some (l1,rs,ms,bs):=by
 unfold O6;simp only[h1,h2,h3,h4,h5,h6,h7,Option.bind_some,Option.map_some]
theorem Xk{S:Sb}{c:Nat}{x:E}{p:List E×List Nat×List Nat×List Nat}(h:O6 c x=some p):O6 c (x.sub S)=some (p.1.map (E.sub S),p.2.1.map S.r,p.2.2.1.map S.m,p.2.2.2.map S.r):=by
 obtain⟨k1,k2,k3,a,b,m,k,lr,lm,lb,rfl,h1,h2,h3,h4,h5,h6,h7⟩:=O7 h;rw[Q9,Q9,Q9];exact Abr (Na h1) (Na h2) (QU TM h3) (Na h4) (QU Aa4 h5) (Na h6) (QU TM h7)
theorem Af9{S:Sb}{n:Nat}{p:List E×List Nat×List Nat×List Nat}:AD.qt n ((p.1.map (E.sub S)).map (E.den U)) ((p.2.1.map S.r).map U.r) ((p.2.2.1.map S.m).map U.m) ((p.2.2.2.map S.r).map U.b)↔AD.qt n (p.1.map (E.den (S.sig U))) (p.2.1.map (S.sig U).r) (p.2.2.1.map (S.sig U).m) (p.2.2.2.map (S.sig U).b):=by
 have e1:(p.1.map (E.sub S)).map (E.den U)=p.1.map (E.den (S.sig U)):=by
  rw[List.map_map];exact List.map_congr_left fun e _=>E.A3 S e
 rw[e1,List.map_map,List.map_map,List.map_map];exact Iff.rfl
theorem MS{S:Sb}{f:CF}(h:A2 (S.sig U) f):A2 U (EG S f):=by
 by_cases ho:f.op=.add
 ·obtain⟨c,p,hy,hp,hq⟩:=DQ.1 ((EW ho).1 h);refine (EW (f:=EG S f) ho).2 (DQ.2 ⟨c,_,?_,Xk hp,Af9.2 hq⟩);show f.y.sub S=_;rw[hy];rfl
 ·refine (BU (f:=EG S f) ho).2 ?_;have:=(BU ho).1 h;show BQ f.op ((f.x.sub S).den U) ((f.y.sub S).den U)=f.r;rw[E.A3,E.A3];exact this
theorem MT{S:Sb}{f:CF}(hw:Xe f=true)(h:A2 U (EG S f)):A2 (S.sig U) f:=by
 by_cases ho:f.op=.add
 ·obtain⟨c,p,hy,hp,hq⟩:=DQ.1 ((EW (f:=EG S f) ho).1 h);unfold Xe at hw;rw[ho]at hw;simp only at hw;split at hw
  ·rename_i c' FH;have e:c'=c:=by
    have hy:f.y.sub S=.lit (.ofNat c):=hy;rw[FH]at hy;cases hy;rfl
   subst e;obtain⟨p',hp'⟩:=Option.isSome_iff_exists.1 hw;have hp:O6 c' (f.x.sub S)=some p:=hp;rw[Xk hp']at hp;cases hp;exact (EW ho).2 (DQ.2 ⟨c',p',FH,hp',Af9.1 hq⟩)
  ·cases hw
 ·refine (BU ho).2 ?_;have:BQ f.op ((f.x.sub S).den U) ((f.y.sub S).den U)=f.r:=(BU (f:=EG S f) ho).1 h;rw[E.A3,E.A3]at this;exact this
theorem Al.map'{α β:Type}{p:α->Prop}{q:β->Prop}{g:α->β}(hpq:∀x,p x->q (g x)):∀{l:List α},Al p l->Al q (l.map g):=by
 intro l h
 induction h with
 |nil=>exact .nil
 |cons h0 _ ih=>exact .cons (hpq _ h0) ih
def St.call(s:St)(c:Bq)(se:List E)(sr sm sg:List Nat)(o:Ds):St:=
 ⟨Nat.add s.base (Nat.sub c.hi c.np),(o.cf.map (EG (Ki s.base c.np se sr sm sg)))++s.cf,(o.rd.map (P1 (Ki s.base c.np se sr sm sg)))++s.rd,
  fun U=>s.K U/\o.q ((Ki s.base c.np se sr sm sg).sig U),(c.sum o,Ki s.base c.np se sr sm sg)::s.hy,s.Kh,s.CI,s.abs,s.BD,s.BB,s.Fy,s.DW,(o.mp.map (mkSub (Ki s.base c.np se sr sm sg)))++s.mp⟩
def Zt(base:Nat)(se:List E)(sr sm:List Nat):Bool:=Nat.blt 0 base&&(se.all (E.lo base)&&(sr.all (fun t=>Nat.blt t base)&&sm.all fun t=>Nat.blt t base))
theorem V2{base:Nat}{se:List E}(h:se.all (E.lo base)=true)(i:Nat):(se.getD i (.lit 0)).lo base=true:=by
 rw[Iw];cases hg:se[i]? with
 |none=>rfl
 |some e=>exact Bf.1 h e (Oj hg)
theorem Ey{base:Nat}(h0:0<base){sr:List Nat}(h:(sr.all fun t=>Nat.blt t base)=true)(i:Nat):sr.getD i 0<base:=by
 rw[Iw];cases hg:sr[i]? with
 |none=>exact h0
 |some e=>exact AF (Bf.1 h e (Oj hg))
theorem AT{a b:Nat}(h:a<b):Nat.blt a b=true:=by rw[Nat.blt_eq];exact h
theorem Cd{a b:Nat}(h:¬a<b):Nat.blt a b=false:=by cases hb:Nat.blt a b with |false=>rfl|true=>exact absurd (AF hb) h
def An.tail(U:An)(base np:Nat)(Y:An):An:=
 {v:=fun i=>if i<base then U.v i else Y.v (np+(i-base))
  r:=fun i=>if i<base then U.r i else Y.r (np+(i-base))
  m:=fun i=>if i<base then U.m i else Y.m (np+(i-base))
  k:=U.k
  b:=fun i=>if i<base then U.b i else Y.b (np+(i-base))
  ro:=fun i=>if i<base then U.ro i else Y.ro (np+(i-base))}
theorem An.EC{base np:Nat}{Y:An}:Ai base U (U.tail base np Y):=⟨fun _ h=>if_pos h,fun _ h=>if_pos h,fun _ h=>if_pos h,rfl,fun _ h=>if_pos h,fun _ h=>if_pos h⟩
theorem AA.call(c:Bq)(hc:c.ok W)(se:List E)(sr sm sg:List Nat)(hp:∀U,s.ok W U->c.pre ((Ki s.base c.np se sr sm sg).sig U))
 (hl:(Zt s.base se sr sm&&Nat.ble c.np c.hi)=true) (x:Al (fun o=>AA W (s.call c se sr sm sg o) Q) c.outs):AA W s Q:=by
 intro U hs;simp only[Ah,Zt]at hl;obtain⟨⟨l1,l2,l3,l4⟩,l5⟩:=hl;have l1:=AF l1;have l5:=Nat.le_of_ble_eq_true l5;obtain⟨o,ho,Y,h1,h2⟩:=hc _ (hp U hs.self);have hS:∀{Uq2:An},Ai (s.base+(c.hi-c.np)) (U.tail s.base c.np Y) Uq2->Ai c.hi Y ((Ki s.base c.np se sr sm sg).sig Uq2):=by
  intro Uq2 g;have g0:Ai s.base U Uq2:=An.EC.trans (g.le (Nat.le_add_right _ _));refine⟨?_,?_,?_,?_,?_,?_⟩
  ·intro i hi;show (bif Nat.blt i c.np then se.getD i (.lit 0) else E.var (s.base+(i-c.np))).den Uq2=_
   by_cases Au:i<c.np
   ·rw[AT Au];show (se.getD i (.lit 0)).den Uq2=_;rw[E.agree g0 (V2 l2 i),h1.v i Au];show _=(bif Nat.blt i c.np then se.getD i (.lit 0) else E.var (s.base+(i-c.np))).den U;rw[AT Au];rfl
   ·rw[Cd Au];show Uq2.v (s.base+(i-c.np))=_;rw[g.v _ (by omega)];show (if s.base+(i-c.np)<s.base then _ else _:Int)=_;rw[if_neg (by omega)]
    congr 1
    omega
  ·intro i hi;show Uq2.r (bif Nat.blt i c.np then sr.getD i 0 else s.base+(i-c.np))=_
   by_cases Au:i<c.np
   ·rw[AT Au];show Uq2.r (sr.getD i 0)=_;rw[g0.r _ (Ey l1 l3 i),h1.r i Au];show _=U.r (bif Nat.blt i c.np then sr.getD i 0 else s.base+(i-c.np));rw[AT Au];rfl
   ·rw[Cd Au];show Uq2.r (s.base+(i-c.np))=_;rw[g.r _ (by omega)];show (if s.base+(i-c.np)<s.base then _ else _:Nat->Nat->Value)=_;rw[if_neg (by omega)]
    congr 1
    omega
  ·intro i hi;show Uq2.m (bif Nat.blt i c.np then sm.getD i 0 else s.base+(i-c.np))=_
   by_cases Au:i<c.np
   ·rw[AT Au];show Uq2.m (sm.getD i 0)=_;rw[g0.m _ (Ey l1 l4 i),h1.m i Au];show _=U.m (bif Nat.blt i c.np then sm.getD i 0 else s.base+(i-c.np));rw[AT Au];rfl
   ·rw[Cd Au];show Uq2.m (s.base+(i-c.np))=_;rw[g.m _ (by omega)];show (if s.base+(i-c.np)<s.base then _ else _:Int->Option Value)=_;rw[if_neg (by omega)]
    congr 1
    omega
  ·show Uq2.k=Y.k;rw[g.k,h1.k];rfl
  ·intro i hi;show Uq2.b (bif Nat.blt i c.np then sr.getD i 0 else s.base+(i-c.np))=_
   by_cases Au:i<c.np
   ·rw[AT Au];show Uq2.b (sr.getD i 0)=_;rw[g0.b _ (Ey l1 l3 i),h1.b i Au];show _=U.b (bif Nat.blt i c.np then sr.getD i 0 else s.base+(i-c.np));rw[AT Au];rfl
   ·rw[Cd Au];show Uq2.b (s.base+(i-c.np))=_;rw[g.b _ (by omega)];show (if s.base+(i-c.np)<s.base then _ else _:CH)=_;rw[if_neg (by omega)]
    congr 1
    omega
  ·intro i hi;show Uq2.ro (bif Nat.blt i c.np then sm.getD i 0 else s.base+(i-c.np))=_
   by_cases Au:i<c.np
   ·rw[AT Au];show Uq2.ro (sm.getD i 0)=_;rw[g0.ro _ (Ey l1 l4 i),h1.ro i Au];show _=U.ro (bif Nat.blt i c.np then sm.getD i 0 else s.base+(i-c.np));rw[AT Au];rfl
   ·rw[Cd Au];show Uq2.ro (s.base+(i-c.np))=_;rw[g.ro _ (by omega)];show (if s.base+(i-c.np)<s.base then _ else _:Nat)=_;rw[if_neg (by omega)]
    congr 1
    omega
 have hx:UU W (s.call c se sr sm sg o) (U.tail s.base c.np Y):=by
  intro Uq2 g;have g:Ai (s.base+(c.hi-c.np)) (U.tail s.base c.np Y) Uq2:=g;have g0:Ai s.base U Uq2:=An.EC.trans (g.le (Nat.le_add_right _ _));obtain⟨q1,q2⟩:=h2 _ (hS g);have q:=hs Uq2 g0;exact⟨(q1.cf.map' fun _=>MS).append q.cf,Al.append (Al.map' (q:=EO Uq2) (g:=P1 (Ki s.base c.np se sr sm sg)) (fun _ h=>h) q1.rd) q.rd,⟨q.K,q1.q⟩,.cons q2 q.hy,q.Kh,q.CI,q.abs,q.BD,q.BB,q.Fy,q.DW,Al.append (Al.map' (q:=HN Uq2) (g:=mkSub (Ki s.base c.np se sr sm sg)) (fun _ h=>h) q1.mp) q.mp⟩
 obtain⟨s',Uq3,r1,r2,r3⟩:=x.mem o ho _ hx;exact⟨s',Uq3,r1,An.EC.trans (Ai.le (show s.base<=s.base+(c.hi-c.np) from Nat.le_add_right _ _) r2),r3⟩
def sbI(base np hi nb:Nat)(ie:List E)(ir im ig:List Nat):Sb:=
 {s:=fun i=>bif Nat.blt i np then .var i else bif Nat.blt i hi then ie.getD (Nat.sub i np) (.lit 0) else .var (Nat.add base (Nat.sub i hi))
  r:=fun t=>bif Nat.blt t np then t else bif Nat.blt t hi then ir.getD (Nat.sub t np) 0 else Nat.add base (Nat.sub t hi)
  m:=fun t=>bif Nat.blt t np then t else bif Nat.blt t hi then im.getD (Nat.sub t np) 0 else Nat.add base (Nat.sub t hi)
  g:=fun b=>bif Nat.blt b nb then b else ig.getD (Nat.sub b nb) b}
def U6(I:Sb)(s:Mc)(ab:PH)(r:OR):Bool:=match r with |some (.val v h1)=>Anj I s v (BF ab h1)|_=>false
def xC:Ctx:=⟨0,0,0,none⟩
def nzF(l:List Nat)(nm:E->Option Int)(e:E):Option Int:=match e with |.var i=>@Bool.rec (fun _=>Option Int) none (nm (.var i)) (l.any (Nat.beq i))|_=>none
theorem AgH{l:List Nat}{nm:E->Option Int}{e:E}{n:Int}(h:nzF l nm e=some n):nm e=some n:=by
 cases e with
 |var i=>
  have h:@Bool.rec (fun _=>Option Int) none (nm (.var i)) (l.any (Nat.beq i))=some n:=h;cases hb:l.any (Nat.beq i) with
  |true=>rw[hb]at h;exact h
  |false=>rw[hb]at h;cases h
 |_=>cases h
theorem Hs.ofG(hfu:C'.fu=C.fu)(hc:A4 P C' U)(hx:JK C' P U){ab:PH}(Ny:Tk U ab){n:Nat}{X:Ctx}{I:Sb}{s:Mc}{nz:List Nat}(hw:Mt I s=true)
 (hk:U6 I s ab (eval C' n X (.call s.f (s.args.map (NI (nzF nz C'.norm)))) (Aa s.bl s.n))=true):Hs P C (I.sig U) s:=by
 refine Hs.gen hw fun J w vs hr ha=>?_
 unfold U6 at hk;split at hk
 ·rename_i v h1 he;refine ((Jl hc hx n).2.call X s.f _ _ v h1 he J w vs (hr.cfg hfu.symm) (ha.nrm fun e n hn=>hc.norm e n (AgH hn))).mono ?_
  rintro v' w' ⟨J',g2,g3,g4⟩
  exact⟨J',BF ab h1,v,g2,(g3.BF Ny).cfg hfu,g4.BF,hk⟩
 ·cases hk
def Aex(W:Wd)(c:Bq)(s:St):Prop:=
 ∃o∈c.outs,∃(ie:List E) (ir im ig:List Nat) (fuel:Nat),
  (Zt s.base ie ir im&&(Nat.ble c.np s.base&&(Nat.ble c.np c.hi&&Mt (sbI s.base c.np c.hi c.n ie ir im ig) (c.sum o))))=true/\
  (∀U,s.ok W U->o.post ((sbI s.base c.np c.hi c.n ie ir im ig).sig U))/\
  U6 (sbI s.base c.np c.hi c.n ie ir im ig) (c.sum o) (abT s.abs s.Fy) (eval (Is W s) fuel xC (.call c.f (c.args.map (NI (nzF c.nz (VP s.cf))))) (Aa c.bl c.n))=true
def s0C(c:Bq):St:=⟨c.np,c.cf,c.rd,c.q,[],[],[],[],[],[],[],[],c.mp⟩
def PT(n:Nat)(f:CF):Bool:=f.x.lo n&&f.y.lo n
def L6(n:Nat)(k:KC):Bool:=Nat.blt k.1 n
theorem Qv:∀{f m:Nat} {e:E} {l:List E},Es f m e=some l->e.lo n=true->∀x∈l,x.lo n=true:=by
 intro f
 induction f with
 |zero=>intro m e l h;cases h
 |succ f ih=>
  intro m e l h hl
  match m with
  | 0=>cases h;exact fun _ hx=>nomatch hx
  | 1=>
   cases h;intro x hx;rw[List.mem_singleton.1 hx];exact hl
  |m+2=>
   unfold Es at h;simp only at h;split at h
   ·rename_i k a b;have hl:(a.lo n&&b.lo n)=true:=hl;rw[Ah]at hl;cases h1:Es f ((m+2) / 2) a with
    |none=>rw[h1]at h;cases h
    |some la=>
     cases h2:Es f (m+2-(m+2) / 2) b with
     |none=>rw[h1,h2]at h;cases h
     |some lb=>
      rw[h1,h2]at h;cases h;intro x hx;rcases List.mem_append.1 hx with e|e
      ·exact ih h1 hl.1 x e
      ·exact ih h2 hl.2 x e
   ·cases h
theorem UZ{g:E->Option Nat}(hg:∀e t,g e=some t->e.lo n=true->t<n):∀{l:List E} {m:List Nat},GK g l=some m->(∀x∈l,x.lo n=true)->∀t∈m,t<n:=by
 intro l
 induction l with
 |nil=>intro m e _;cases e;exact fun _ hx=>nomatch hx
 |cons a l ih=>
  intro m e hl;unfold GK at e;cases h1:g a with
  |none=>rw[h1]at e;cases e
  |some t=>
   cases h2:GK g l with
   |none=>rw[h1,h2]at e;cases e
   |some m'=>
    rw[h1,h2]at e;cases e;intro x hx;rcases BL.1 hx with e|e
    ·rw[e];exact hg a t h1 (hl a GU)
    ·exact ih h2 (fun y hy=>hl y (Gq _ hy)) x e
theorem Xb(e:E)(t:Nat)(h:Hz e=some t)(hl:e.lo n=true):t<n:=by
 unfold Hz at h;split at h
 ·rename_i t' a c;cases h;have hl:(Nat.blt t n&&a.lo n)=true:=hl;rw[Ah]at hl;exact AF hl.1
 ·cases h
theorem AdF(e:E)(t:Nat)(h:HA e=some t)(hl:e.lo n=true):t<n:=by
 unfold HA at h;split at h
 ·rename_i t' a c;cases h;have hl:(Nat.blt t n&&a.lo n)=true:=hl;rw[Ah]at hl;exact AF hl.1
 ·cases h
theorem AiN{c:Nat}{x:E}{p:List E×List Nat×List Nat×List Nat}(h:O6 c x=some p)(hl:x.lo n=true):(∀e∈p.1,e.lo n=true)/\(∀i∈p.2.1,i<n)/\(∀i∈p.2.2.1,i<n)/\∀i∈p.2.2.2,i<n:=by
 obtain⟨k1,k2,k3,a,b,m,k,lr,lm,lb,rfl,h1,h2,h3,h4,h5,h6,h7⟩:=O7 h;have hl:(a.lo n&&(b.lo n&&(m.lo n&&k.lo n)))=true:=hl;simp only[Ah]at hl;exact⟨Qv h1 hl.1,UZ Xb h3 (Qv h2 hl.2.1),UZ AdF h5 (Qv h4 hl.2.2.1),UZ Xb h7 (Qv h6 hl.2.2.2)⟩
theorem A2.agree(hg:Ai n U U'){f:CF}(hl:PT n f=true)(h:A2 U f):A2 U' f:=by
 unfold PT at hl;rw[Ah]at hl
 by_cases ho:f.op=.add
 ·obtain⟨c,p,hy,hp,hq⟩:=DQ.1 ((EW ho).1 h);obtain⟨g1,g2,g3,g4⟩:=AiN hp hl.1;refine (EW ho).2 (DQ.2 ⟨c,p,hy,hp,?_⟩);rw[List.map_congr_left (fun e he=>E.agree hg (g1 e he)),List.map_congr_left (fun i hi=>hg.r i (g2 i hi)),List.map_congr_left (fun i hi=>hg.m i (g3 i hi)),List.map_congr_left (fun i hi=>hg.b i (g4 i hi))];exact hq
 ·refine (BU ho).2 ?_;have:=(BU ho).1 h;rw[E.agree hg hl.1,E.agree hg hl.2];exact this
theorem EO.agree(hg:Ai n U U'){k:KC}(hl:L6 n k=true)(h:EO U k):EO U' k:=by
 refine⟨fun j c=>?_,by rw[hg.b k.1 (AF hl)];exact h.2⟩;rw[hg.r k.1 (AF hl)];exact h.1 j c
theorem HN.agree(hg:Ai n U U'){k:KC}(hl:L6 n k=true)(h:HN U k):HN U' k:=by
 intro z u hu;rw[hg.m k.1 (AF hl)]at hu;rw[hg.k];exact h z u hu
theorem Al.PO{α:Type}{p q:α->Prop}{b:α->Bool}(hpq:∀x,b x=true->p x->q x):∀{l:List α},l.all b=true->Al p l->Al q l:=by
 intro l hb h
 induction h with
 |nil=>exact .nil
 |cons h0 _ ih=>simp only[List.all_cons,Ah]at hb;exact .cons (hpq _ hb.1 h0) (ih hb.2)
theorem Bq.ok.of{c:Bq}(hW:W.ok)(hq:∀U U',Ai c.np U U'->c.q U->c.q U')(hl:(c.cf.all (PT c.np)&&(c.rd.all (L6 c.np)&&c.mp.all (L6 c.np)))=true)(g:AA W (s0C c) (Aex W c)):c.ok W:=by
 intro U hp;rw[Ah,Ah]at hl;have hs:UU W (s0C c) U:=fun Uq2 g2=>⟨hp.cf.PO (fun _ h1 h2=>A2.agree g2 h1 h2) hl.1,hp.rd.PO (fun _ h1 h2=>EO.agree g2 h1 h2) hl.2.1,hq U Uq2 g2 hp.q,.nil,.nil,.nil,.nil,.nil,.nil,.nil,.nil,hp.mp.PO (fun _ h1 h2=>HN.agree g2 h1 h2) hl.2.2⟩
 obtain⟨s,Y,⟨o,ho,ie,ir,im,ig,fuel,k1,k2,k3⟩,h1,h2⟩:=g U hs;have h1:Ai c.np U Y:=h1;simp only[Ah,Zt]at k1;obtain⟨⟨l1,l2,l3,l4⟩,l5,l6,l7⟩:=k1;have l1:=AF l1;have l5:=Nat.le_of_ble_eq_true l5;have l6:=Nat.le_of_ble_eq_true l6;refine⟨o,ho,(sbI s.base c.np c.hi c.n ie ir im ig).sig Y,⟨?_,?_,?_,h1.k,?_,?_⟩,fun Uq2 g2=>?_⟩
 ·intro i hi;show (bif Nat.blt i c.np then E.var i else _:E).den Y=_;rw[AT hi];exact h1.v i hi
 ·intro i hi;show Y.r (bif Nat.blt i c.np then i else _)=_;rw[AT hi];exact h1.r i hi
 ·intro i hi;show Y.m (bif Nat.blt i c.np then i else _)=_;rw[AT hi];exact h1.m i hi
 ·intro i hi;show Y.b (bif Nat.blt i c.np then i else _)=_;rw[AT hi];exact h1.b i hi
 ·intro i hi;show Y.ro (bif Nat.blt i c.np then i else _)=_;rw[AT hi];exact h1.ro i hi
 ·have a3:Ai s.base Y (Y.tail s.base c.hi Uq2):=An.EC;have e:(sbI s.base c.np c.hi c.n ie ir im ig).sig (Y.tail s.base c.hi Uq2)=Uq2:=by
   refine An.ApY (fun i=>?_) (fun i=>?_) (fun i=>?_) g2.k.symm (fun i=>?_) (fun i=>?_)
   ·show (bif Nat.blt i c.np then E.var i else bif Nat.blt i c.hi then ie.getD (i-c.np) (.lit 0) else .var (s.base+(i-c.hi))).den _=_
    by_cases h3:i<c.np
    ·rw[g2.v i (by omega)];show _=(bif Nat.blt i c.np then E.var i else _:E).den Y;rw[AT h3];exact a3.v i (IM h3 l5)
    ·by_cases h4:i<c.hi
     ·rw[g2.v i h4];show _=(bif Nat.blt i c.np then E.var i else bif Nat.blt i c.hi then ie.getD (i-c.np) (.lit 0) else .var (s.base+(i-c.hi))).den Y;rw[Cd h3,AT h4];exact E.agree a3 (V2 l2 _)
     ·rw[Cd h3,Cd h4];show (if s.base+(i-c.hi)<s.base then _ else Uq2.v (c.hi+(s.base+(i-c.hi)-s.base)):Int)=_;rw[if_neg (Nat.not_lt.2 (Nat.le_add_right _ _)),show c.hi+(s.base+(i-c.hi)-s.base)=i by omega]
   ·show (Y.tail s.base c.hi Uq2).r (bif Nat.blt i c.np then i else bif Nat.blt i c.hi then ir.getD (i-c.np) 0 else s.base+(i-c.hi))=_
    by_cases h3:i<c.np
    ·rw[g2.r i (by omega)];show _=Y.r (bif Nat.blt i c.np then i else _);rw[AT h3];exact a3.r i (IM h3 l5)
    ·by_cases h4:i<c.hi
     ·rw[g2.r i h4];show _=Y.r (bif Nat.blt i c.np then i else bif Nat.blt i c.hi then ir.getD (i-c.np) 0 else s.base+(i-c.hi));rw[Cd h3,AT h4];exact a3.r _ (Ey l1 l3 _)
     ·rw[Cd h3,Cd h4];show (if s.base+(i-c.hi)<s.base then _ else Uq2.r (c.hi+(s.base+(i-c.hi)-s.base)):Nat->Nat->Value)=_;rw[if_neg (Nat.not_lt.2 (Nat.le_add_right _ _)),show c.hi+(s.base+(i-c.hi)-s.base)=i by omega]
   ·show (Y.tail s.base c.hi Uq2).m (bif Nat.blt i c.np then i else bif Nat.blt i c.hi then im.getD (i-c.np) 0 else s.base+(i-c.hi))=_
    by_cases h3:i<c.np
    ·rw[g2.m i (by omega)];show _=Y.m (bif Nat.blt i c.np then i else _);rw[AT h3];exact a3.m i (IM h3 l5)
    ·by_cases h4:i<c.hi
     ·rw[g2.m i h4];show _=Y.m (bif Nat.blt i c.np then i else bif Nat.blt i c.hi then im.getD (i-c.np) 0 else s.base+(i-c.hi));rw[Cd h3,AT h4];exact a3.m _ (Ey l1 l4 _)
     ·rw[Cd h3,Cd h4];show (if s.base+(i-c.hi)<s.base then _ else Uq2.m (c.hi+(s.base+(i-c.hi)-s.base)):Int->Option Value)=_;rw[if_neg (Nat.not_lt.2 (Nat.le_add_right _ _)),show c.hi+(s.base+(i-c.hi)-s.base)=i by omega]
   ·show (Y.tail s.base c.hi Uq2).b (bif Nat.blt i c.np then i else bif Nat.blt i c.hi then ir.getD (i-c.np) 0 else s.base+(i-c.hi))=_
    by_cases h3:i<c.np
    ·rw[g2.b i (by omega)];show _=Y.b (bif Nat.blt i c.np then i else _);rw[AT h3];exact a3.b i (IM h3 l5)
    ·by_cases h4:i<c.hi
     ·rw[g2.b i h4];show _=Y.b (bif Nat.blt i c.np then i else bif Nat.blt i c.hi then ir.getD (i-c.np) 0 else s.base+(i-c.hi));rw[Cd h3,AT h4];exact a3.b _ (Ey l1 l3 _)
     ·rw[Cd h3,Cd h4];show (if s.base+(i-c.hi)<s.base then _ else Uq2.b (c.hi+(s.base+(i-c.hi)-s.base)):CH)=_;rw[if_neg (Nat.not_lt.2 (Nat.le_add_right _ _)),show c.hi+(s.base+(i-c.hi)-s.base)=i by omega]
   ·show (Y.tail s.base c.hi Uq2).ro (bif Nat.blt i c.np then i else bif Nat.blt i c.hi then im.getD (i-c.np) 0 else s.base+(i-c.hi))=_
    by_cases h3:i<c.np
    ·rw[g2.ro i (by omega)];show _=Y.ro (bif Nat.blt i c.np then i else _);rw[AT h3];exact a3.ro i (IM h3 l5)
    ·by_cases h4:i<c.hi
     ·rw[g2.ro i h4];show _=Y.ro (bif Nat.blt i c.np then i else bif Nat.blt i c.hi then im.getD (i-c.np) 0 else s.base+(i-c.hi));rw[Cd h3,AT h4];exact a3.ro _ (Ey l1 l4 _)
     ·rw[Cd h3,Cd h4];show (if s.base+(i-c.hi)<s.base then _ else Uq2.ro (c.hi+(s.base+(i-c.hi)-s.base)):Nat)=_;rw[if_neg (Nat.not_lt.2 (Nat.le_add_right _ _)),show c.hi+(s.base+(i-c.hi)-s.base)=i by omega]
  have Iy:=h2 _ a3;constructor
  ·rw[<-e];exact k2 _ Iy
  ·intro C hC;rw[<-e];exact Hs.ofG (C':=Is W s) hC.symm (Qs hW Iy) (Qx Iy) (UX Iy.abs Iy.Fy) l7 k3
end Eng
namespace Eng
open Go Go.RowKit
variable [AD]
variable {P:Program} {C C':AB} {U U':An} {J J' Jq1:A1} {n:Nat} {W:Wd} {Q:St->Prop}
structure Lq where
 L:List (Nat×AV)
 bl:List (Nat×Aj)
 n:Nat
 mv:List Nat
 nh:Nat
 S0:Sb
 S1:Sb
 paths:List (AB×Sb×PH)
 fuel:Nat
 f:FuncId
 nt:Nat
 nl:Nat
 code:Code
def Lq.c(s:Lq)(ab:PH):Qj:=⟨s.L,s.bl,s.n,s.mv,s.S0,s.S1,[],s.fuel,ab⟩
def Md:PH:={r:=fun _ _=>none}
def Lq.los(s:Lq):Bool:=(s.bl.all fun p=>p.2.lo s.nh)&&s.L.all fun p=>p.2.lo s.nh
def Lq.run(s:Lq)(f:FuncId)(nt nl:Nat)(rd:Option Nat)(c:Code):Bool:=(rd.isNone&&Nat.ble nl 1000000)&&(Nat.beq f s.f&&(Nat.beq nt s.nt&&(Nat.beq nl s.nl&&CB c s.code)))
def Lq.evs(s:Lq):Bool:=s.paths.all fun p=>VV (s.c p.2.2) p.2.1 (eval p.1 s.fuel ⟨s.f,s.nt,s.nl,none⟩ (.code s.code (AbY p.1.norm (frL s.L))) (Aa s.bl s.n))
def Lq.Kh(s:Lq):HU:=⟨fun fr h=>s.los&&(s.c Md).start fr h,s.run,(s.c Md).fin⟩
def Atb(P:Program)(C:AB)(U:An)(s:Lq):Prop:=s.evs=true/\∃(Uqs:Nat->An) (m:Nat),Ai s.nh (s.S0.sig U) (Uqs 0)/\Ai s.nh (Uqs m) ((s.S0.re s.S1).sig U)/\
 ∀j,j<m->∃p∈s.paths,p.1.fu=C.fu/\A4 P p.1 (Uqs j)/\JK p.1 P (Uqs j)/\Ai s.nh (p.2.1.sig (Uqs j)) (Uqs (j+1))/\Tk (Uqs j) p.2.2
theorem IX.agree(hg:Ai n U U'){L:List (Nat×AV)}(hL:(L.all fun p=>p.2.lo n)=true){nt nl:Nat}{a:Act}(h:IX J U nt nl (frL L) a):IX J U' nt nl (frL L) a:=by
 refine⟨h.size,?_,?_,h.marks⟩
 ·intro t v ht hv;obtain⟨v',q1,q2⟩:=h.pt t v ht hv;exact⟨v',q1,q2.agree hg (Bf.1 hL (t,v) (Il (show (Hn L).get t=some v from hv)))⟩
 ·intro t v _ hv;cases hv
theorem Lq.rounds{s:Lq}(hlo:s.los=true)(hw:Wf (s.c Md)){X:Ctx}{c:Code}{b:Frame}{Uqs:Nat->An}{m:Nat}(hX:X.round=none)(hnl:X.nl<=1000000)(hb:∀J,LV C J X b)
 (hstep:∀j,j<m->∃p∈s.paths,p.1.fu=C.fu/\A4 P p.1 (Uqs j)/\JK p.1 P (Uqs j)/\Ai s.nh (p.2.1.sig (Uqs j)) (Uqs (j+1))/\Tk (Uqs j) p.2.2)
 (hk:∀p∈s.paths,VV (s.c p.2.2) p.2.1 (eval p.1 s.fuel X (.code c (AbY p.1.norm (frL s.L))) (Aa s.bl s.n))=true) {a:Act} {w:World} (hr:Rel J (Uqs 0) C (Aa s.bl s.n) w) (hfr:IX J (Uqs 0) X.nt X.nl (frL s.L) a)
 (PY:∀b x,J b=some x->Ae s.bl b=true):∀k,k<=m->JL P c b a w fun a' w'=>∃J',IX J' (Uqs k) X.nt X.nl (frL s.L) a'/\Rel J' (Uqs k) C (Aa s.bl s.n) w'/\LX (Fo (Uqs 0) (Aa s.bl s.n) w) (Fo (Uqs k) (Aa s.bl s.n) w') s.mv s.bl s.n J J' w w':=by
 have PZ:=hlo;rw[Lq.los,Ah]at PZ;intro k
 induction k with
 |zero=>intro _;exact .refl ⟨J,hfr,hr,LX.refl (s:=s.c Md) hw PY⟩
 |succ k ih=>
  intro hle;refine (ih (by omega)).round ?_
  rintro a1 w1 ⟨Jq1,h2,h3,h4⟩
  obtain⟨p,hp,q1,q2,q3,q4,q5⟩:=hstep k (by omega);have hw':Wf (s.c p.2.2):=⟨hw.cl,hw.Du,hw.L,hw.lv,hw.L1,hw.slot,hw.has⟩;refine (Qj.step (s:=s.c p.2.2) hw' q1 q2 q3 q5 hX hnl hb (hk p hp) h3 (h2.nrm fun e n hn=>q2.norm e n hn)).mono ?_
  rintro a2 w2 ⟨Jq2,g2,g3,g4⟩
  exact⟨Jq2,g2.agree q4 PZ.2,g3.agree q4 PZ.1,LX.trans (s:=s.c Md) h4 (LX.foR (s:=s.c Md) g4 fun r hf=>Fo.congr (q4.Am PZ.1) hf)⟩
theorem Lq.ok{s:Lq}(hs:Atb P C U s):Lw P C U s.Kh:=by
 intro fr h BN X c AM J w a b hb hr hfr;obtain⟨r2,Uqs,m,h0,hm,hstep⟩:=hs;have BN:(s.los&&(s.c Md).start fr h)=true:=BN;rw[Ah]at BN;obtain⟨hlo,BN⟩:=BN;have PZ:=hlo;rw[Lq.los,Ah]at PZ;simp only[Qj.start,Ah]at BN;obtain⟨s1,s2,s3,s4⟩:=BN;have hw:Wf (s.c Md):=Ak4 s1;have hf:PJ s.S0 s.bl s.n h:=Dq s4;have AM:((X.round.isNone&&Nat.ble X.nl 1000000)&&(Nat.beq X.fn s.f&&(Nat.beq X.nt s.nt&&(Nat.beq X.nl s.nl&&CB c s.code))))=true:=AM;rw[Ah]at AM;obtain⟨r1,r3⟩:=AM;simp only[Ah]at r3;obtain⟨x1,x2,x3,x4⟩:=r3;have x1:=beq_eq x1;have x2:=beq_eq x2;have x3:=beq_eq x3;have x4:=O3 x4;unfold Lq.evs at r2;rw[<-x1,<-x2,<-x3,<-x4]at r2;rw[Ah]at r1;obtain⟨r1,r0⟩:=r1;have hnl:=Nat.le_of_ble_eq_true r0;have hX:X.round=none:=Option.isNone_iff_eq_none.1 r1;have hX2:(⟨X.fn,X.nt,X.nl,none⟩:Ctx)=X:=by rw[<-hX]
 have hcx:∀Jq2,LV C Jq2 X b:=fun Jq2=>⟨hb.fi,hb.fn,hb.kind,by
  have:=hb.round;rw[hX]at this ⊢;exact this⟩
 have hfr0:IX (rn J s.S0.g (Ae s.bl)) (s.S0.sig U) X.nt X.nl (frL s.L) a:=by
  refine Aab hfr.size ?_ ?_
  ·have:=hfr.marks;rw[Ag (fun _ _=>beq_eq) s2]at this;refine VI (F2.AdE fun p hp=>JM.Fs fun b e r z hz=>?_) this;have hk:Ae s.bl b=true:=by
    have:=hw.L p hp;rw[e]at this;exact this
   exact⟨z,by rw[Ec hk];exact hz⟩
  ·intro p hp ht;have hsl:=Bf.1 s3 p hp;rw[Bool.or_eq_true]at hsl;have hsl:Pd fr.pt s.S0 p=true:=hsl.resolve_left fun e=>by
    have:=Nat.le_of_ble_eq_true e;omega
   obtain⟨v',q1,q2⟩:=hfr.pt p.1 _ ht (U9 hsl);exact⟨v',q1,q2.Fs (hw.L p hp)⟩
 have IS:Rel (rn J s.S0.g (Ae s.bl)) (s.S0.sig U) C (Aa s.bl s.n) w:=hr.focus hf;refine (Lq.rounds hlo hw hX hnl hcx hstep (fun p hp=>by have:=Bf.1 r2 p hp;rw[hX2]at this;exact this) (IS.agree h0 PZ.1) (hfr0.agree h0 PZ.2) (fun b x hbx=>(Bc hbx).1) m (Nat.le_refl _)).mono ?_
 rintro a' w' ⟨Jq1,g2,g3,g4⟩
 have g4:=LX.foL (F2:=Fo (s.S0.sig U) (Aa s.bl s.n) w) (s:=s.c Md) (LX.foR (F2:=Fo ((s.S0.re s.S1).sig U) (Aa s.bl s.n) w') (s:=s.c Md) g4 fun r hf=>Fo.congr (hm.Am PZ.1) hf) fun r hf=>Fo.congr (h0.Am PZ.1) hf
 have g2:=g2.agree hm PZ.2;have g3:=g3.agree hm PZ.1;have Mo:(s.S0.sig U).k=((s.S0.re s.S1).sig U).k:=rfl;obtain⟨q1,q2⟩:=LX.leave (s:=s.c Md) (U:=(s.S0.re s.S1).sig U) (Uq0:=s.S0.sig U) hw g4 Mo IS g3;have hl:Leaves s.bl s.n (Ef s.mv s.n s.bl) (s.n+s.n) (Aa (Ef s.mv s.n s.bl) (s.n+s.n)):=hw.lv;obtain⟨t1,t2⟩:=Rel.behind (Z:=s.S1) hr hf hl q1 q2;refine⟨_,?_,t1,t2⟩;refine Aab g2.size ?_ ?_
 ·refine VI (F2.Alj (f:=fun p:Nat×AV=>(p.1,(p.2.sub (Mz s.mv s.n)).sub (((s.c Md).out).at s.n h.next))) fun p hp=>JM.Ft (f:=fun v=>(v.sub (Mz s.mv s.n)).sub (((s.c Md).out).at s.n h.next)) (fun b e=>?_) fun b e=>?_) g2.marks
  ·obtain⟨b1,e1,_⟩:=Ws e;obtain⟨b0,e0,_⟩:=Ws e1;exact⟨b0,e0⟩
  ·have hv:∀r z,Jq1 b=some (r,z)->Bb Jq1 (((s.S0.re s.S1)).sig U) p.2 (.pointer (some ⟨r,0,none⟩)):=fun r z hz=>by rw[e];exact⟨r,z,hz,rfl⟩
   refine⟨_,by rw[e];rfl,fun r z hz=>?_⟩;have:=Bb.behind (Z:=s.S1) hf hl q2 (hw.L1 p hp) (Bb.ArG (s:=s.c Md) hw g4 (hv r z hz));rw[e]at this;obtain⟨r',z',u1,u2⟩:=this;cases u2;exact⟨z',u1⟩
 ·intro p hp ht;obtain⟨p0,hp0,rfl⟩:=List.mem_map.1 hp;obtain⟨v',u1,u2⟩:=g2.pt p0.1 p0.2 ht (hw.slot p0 hp0);exact⟨v',u1,Bb.behind (Z:=s.S1) hf hl q2 (hw.L1 p0 hp0) (Bb.ArG (s:=s.c Md) hw g4 u2)⟩
structure Tn where
 s:St
 te:List E
 tr:List Nat
 tm:List Nat
 tg:List Nat
structure PL where
 cf:List CF
 rd:List KC:=[]
 hy:List (Mc×Sb):=[]
 ex:Nat:=0
structure D7 where
 f:FuncId
 no:Nat
 L:List (Nat×AV)
 bl:List (Nat×Aj)
 n:Nat
 mv:List Nat:=[]
 nc:Nat
 nh:Nat
 cf:List CF:=[]
 rd:List KC:=[]
 q:An->Prop:=fun _=>True
 mp:List KC:=[]
 outs:List PL
 ways:List Tn
 fuel:Nat
 nt:Nat
 nl:Nat
 code:Code
def sbT(nh:Nat)(te:List E)(tr tm tg:List Nat):Sb:={s:=fun i=>te.getD i (.lit 0),r:=fun t=>tr.getD t 0,m:=fun t=>tm.getD t 0,g:=fun b=>tg.getD b b}
def Tn.T(w:Tn)(nh:Nat):Sb:=sbT nh w.te w.tr w.tm w.tg
def D7.inv(l:D7)(U:An):Prop:=Kn l.cf l.rd l.q U l.mp
def D7.paths(W:Wd)(l:D7):List (AB×Sb×PH):=l.ways.map fun w=>(Is W w.s,w.T l.nh,abT w.s.abs w.s.Fy)
def D7.lq(W:Wd)(l:D7)(S0 S1:Sb):Lq:=⟨l.L,l.bl,l.n,l.mv,l.nh,S0,S1,l.paths W,l.fuel,l.f,l.nt,l.nl,l.code⟩
def sb0:Sb:={s:=.var,g:=fun b=>b}
def D7.evs(W:Wd)(l:D7):Bool:=(l.lq W sb0 sb0).evs
theorem D7.AmN{W:Wd}{l:D7}(h:l.evs W=true)(S0 S1:Sb):(l.lq W S0 S1).evs=true:=by
 unfold D7.evs Lq.evs D7.lq at h;unfold Lq.evs D7.lq;exact h
def D7.steps(W:Wd)(l:D7)(Uqs:Nat->An)(m:Nat):Prop:=∀j,j<m->∃p∈l.paths W,p.1.fu=W.fu/\A4 W.P p.1 (Uqs j)/\JK p.1 W.P (Uqs j)/\Ai l.nh (p.2.1.sig (Uqs j)) (Uqs (j+1))/\Tk (Uqs j) p.2.2
def PL.is(W:Wd)(o:PL)(U:An):Prop:=Al (A2 U) o.cf/\Al (EO U) o.rd/\Al (fun p=>∀C:AB,C.fu=W.fu->Hs W.P C (p.2.sig U) p.1) o.hy
def D7.ok(W:Wd)(l:D7):Prop:=l.evs W=true/\∀U,l.inv U->∃o∈l.outs,∃Uqe,Ai l.nc U Uqe/\(∀Uq2,Ai (l.nh+o.ex) Uqe Uq2->l.inv Uq2/\o.is W Uq2)/\∃Uqs m,Ai l.nh U (Uqs 0)/\Ai l.nh (Uqs m) Uqe/\l.steps W Uqs m
def Vp(nc:Nat)(te:List E)(tr tm:List Nat):Bool:=(List.range nc).all fun i=>E.AJ (te.getD i (.lit 0)) (.var i)&&(Nat.beq (tr.getD i 0) i&&Nat.beq (tm.getD i 0) i)
theorem Xi{nc:Nat}{te:List E}{tr tm:List Nat}(h:Vp nc te tr tm=true):∀i,i<nc->te.getD i (.lit 0)=.var i/\tr.getD i 0=i/\tm.getD i 0=i:=by
 intro i hi;have:=Bf.1 h i (List.mem_range.2 hi);simp only[Ah]at this;exact⟨Eng.Ac this.1,beq_eq this.2.1,beq_eq this.2.2⟩
def Api(W:Wd)(l:D7)(ma mb:E)(s:St)(w:Tn):Prop:=
 Is W s=Is W w.s/\s.abs=w.s.abs/\s.Fy=w.s.Fy/\l.nh<=s.base/\Vp l.nc w.te w.tr w.tm=true/\
 (∀U,s.ok W U->l.inv ((w.T l.nh).sig U))/\∀U,s.ok W U->(ma.den ((w.T l.nh).sig U)-mb.den ((w.T l.nh).sig U)).toNat<(ma.den U-mb.den U).toNat
def WH(W:Wd)(l:D7)(ma mb:E)(s:St):Prop:=(∃w∈l.ways,Api W l ma mb s w)\/∃o∈l.outs,Nat.beq (Nat.add l.nh o.ex) s.base=true/\∀U,s.ok W U->o.is W U
def s0L(l:D7):St:=⟨l.nh,l.cf,l.rd,l.q,[],[],[],[],[],[],[],[],l.mp⟩
def D7.lo(l:D7):Bool:=l.cf.all (PT l.nh)&&(l.rd.all (L6 l.nh)&&(l.mp.all (L6 l.nh)&&Nat.ble l.nc l.nh))
def Ap7(a:An)(f:Nat->An)(j:Nat):An:=match j with | 0=>a|j+1=>f j
theorem D7.ok.of{l:D7}{ma mb:E}(hW:W.ok)(hq:∀U U',Ai l.nh U U'->l.q U->l.q U')(Ke:l.evs W=true)(hl:(l.lo&&(ma.lo l.nh&&mb.lo l.nh))=true)(g:AA W (s0L l) (WH W l ma mb)):l.ok W:=by
 refine⟨Ke,?_⟩;simp only[D7.lo,Ah]at hl;obtain⟨⟨l1,l2,l3,l4⟩,l5,l6⟩:=hl;have l4:=Nat.le_of_ble_eq_true l4;have hinv:∀U Uq2,Ai l.nh U Uq2->l.inv U->l.inv Uq2:=fun U Uq2 g2 hp=>⟨hp.cf.PO (fun _ h1 h2=>A2.agree g2 h1 h2) l1,hp.rd.PO (fun _ h1 h2=>EO.agree g2 h1 h2) l2,hq U Uq2 g2 hp.q,hp.mp.PO (fun _ h1 h2=>HN.agree g2 h1 h2) l3⟩
 have key:∀k U,(ma.den U-mb.den U).toNat<k->l.inv U->∃o∈l.outs,∃Uqe,Ai l.nc U Uqe/\(∀Uq2,Ai (l.nh+o.ex) Uqe Uq2->l.inv Uq2/\o.is W Uq2)/\∃Uqs m,Ai l.nh U (Uqs 0)/\Ai l.nh (Uqs m) Uqe/\l.steps W Uqs m:=by
  intro k
  induction k with
  |zero=>intro U h;omega
  |succ k ih=>
   intro U Au hp;have hs:UU W (s0L l) U:=fun Uq2 g2=>let q:=hinv U Uq2 g2 hp;⟨q.cf,q.rd,q.q,.nil,.nil,.nil,.nil,.nil,.nil,.nil,.nil,q.mp⟩
   obtain⟨s,Y,h1,h2,h3⟩:=g U hs;have h2:Ai l.nh U Y:=h2;rcases h1 with ⟨w,hw,w1,w2,w2m,w3,w4,w5,w6⟩|⟨o,ho,hex,hcf⟩
   ·have w4:=Xi w4;have Iy:=h3.self;have hlt2:=w6 Y Iy;rw[E.agree h2 l5,E.agree h2 l6]at hlt2;obtain⟨o,ho,Uqe,e1,e2,Uqs,m,e3,e4,e5⟩:=ih ((w.T l.nh).sig Y) (by omega) (w5 Y Iy);refine⟨o,ho,Uqe,?_,e2,Ap7 Y Uqs,m+1,h2,e4,?_⟩
    ·refine⟨fun i hi=>?_,fun i hi=>?_,fun i hi=>?_,e1.k.trans h2.k,fun i hi=>?_,fun i hi=>?_⟩
     ·rw[e1.v i hi];show (w.te.getD i (.lit 0)).den Y=_;rw[(w4 i hi).1];exact h2.v i (by omega)
     ·rw[e1.r i hi];show Y.r (w.tr.getD i 0)=_;rw[(w4 i hi).2.1];exact h2.r i (by omega)
     ·rw[e1.m i hi];show Y.m (w.tm.getD i 0)=_;rw[(w4 i hi).2.2];exact h2.m i (by omega)
     ·rw[e1.b i hi];show Y.b (w.tr.getD i 0)=_;rw[(w4 i hi).2.1];exact h2.b i (by omega)
     ·rw[e1.ro i hi];show Y.ro (w.tm.getD i 0)=_;rw[(w4 i hi).2.2];exact h2.ro i (by omega)
    ·intro j hj;cases j with
     |zero=>exact⟨(Is W w.s,w.T l.nh,abT w.s.abs w.s.Fy),List.mem_map_of_mem (f:=fun w=>(Is W w.s,w.T l.nh,abT w.s.abs w.s.Fy)) hw,rfl,by rw[<-w1];exact Qs hW Iy,by rw[<-w1];exact Qx Iy,e3,by rw[<-w2,<-w2m];exact UX Iy.abs Iy.Fy⟩
     |succ j=>exact e5 j (by omega)
   ·refine⟨o,ho,Y,h2.le l4,fun Uq2 g2=>⟨hinv U Uq2 (h2.trans (g2.le (Nat.le_add_right _ _))) hp,hcf Uq2 (h3 Uq2 (by rw[<-(show l.nh+o.ex=s.base from beq_eq hex)];exact g2))⟩,fun _=>Y,0,h2,.refl,fun j hj=>by omega⟩
 intro U hp;exact key _ U (Nat.lt_succ_self _) hp
def phL(ph:List (Nat×Nat×Nat))(s:HU):HU:=@List.rec (Nat×Nat×Nat) (fun _=>HU) s (fun p _ r=>Ar9 p.1 p.2.1 p.2.2 r) ph
theorem Lw.phL{s:HU}(hs:Lw P C U s):∀ph,Lw P C U (phL ph s):=by
 intro ph
 induction ph with
 |nil=>exact hs
 |cons p ph ih=>exact Lw.ph ih
def Sb.comp(S q:Sb):Sb:={s:=fun i=>(q.s i).sub S,r:=fun t=>S.r (q.r t),m:=fun t=>S.m (q.m t),g:=fun b=>S.g (q.g b)}
theorem Sb.Afc{S q:Sb}:(S.comp q).sig U=q.sig (S.sig U):=An.ApY (fun i=>E.A3 S (q.s i)) (fun _=>rfl) (fun _=>rfl) rfl (fun _=>rfl) (fun _=>rfl)
def St.loop(s:St)(W:Wd)(l:D7)(se:List E)(sr sm sg:List Nat)(ph:List (Nat×Nat×Nat))(o:PL):St:=
 ⟨Nat.add s.base (Nat.sub (Nat.add l.nh o.ex) l.nc),((o.cf++l.cf).map (EG (Ki s.base l.nc se sr sm sg)))++s.cf,((o.rd++l.rd).map (P1 (Ki s.base l.nc se sr sm sg)))++s.rd,
  fun U=>s.K U/\l.q ((Ki s.base l.nc se sr sm sg).sig U),(o.hy.map fun p=>(p.1,(Ki s.base l.nc se sr sm sg).comp p.2))++s.hy,(l.f,l.no,phL ph (l.lq W (Ki s.base l.nh se sr sm sg) (Ki s.base l.nc se sr sm sg)).Kh)::s.Kh,s.CI,s.abs,s.BD,s.BB,s.Fy,s.DW,(l.mp.map (mkSub (Ki s.base l.nc se sr sm sg)))++s.mp⟩
theorem U7{base np:Nat}{se:List E}{sr sm sg:List Nat}(hl:Zt base se sr sm=true){m:Nat}(hm:m<=np)(h:Ai base U U'):Ai m ((Ki base np se sr sm sg).sig U) ((Ki base np se sr sm sg).sig U'):=by
 simp only[Zt,Ah]at hl;obtain⟨l1,l2,l3,l4⟩:=hl;have l1:=AF l1;refine⟨fun i hi=>?_,fun i hi=>?_,fun i hi=>?_,h.k,fun i hi=>?_,fun i hi=>?_⟩
 ·show (bif Nat.blt i np then se.getD i (.lit 0) else _:E).den U'=(bif Nat.blt i np then se.getD i (.lit 0) else _:E).den U;rw[AT (by omega)];exact E.agree h (V2 l2 i)
 ·show U'.r (bif Nat.blt i np then sr.getD i 0 else _)=U.r (bif Nat.blt i np then sr.getD i 0 else _);rw[AT (by omega)];exact h.r _ (Ey l1 l3 i)
 ·show U'.m (bif Nat.blt i np then sm.getD i 0 else _)=U.m (bif Nat.blt i np then sm.getD i 0 else _);rw[AT (by omega)];exact h.m _ (Ey l1 l4 i)
 ·show U'.b (bif Nat.blt i np then sr.getD i 0 else _)=U.b (bif Nat.blt i np then sr.getD i 0 else _);rw[AT (by omega)];exact h.b _ (Ey l1 l3 i)
 ·show U'.ro (bif Nat.blt i np then sm.getD i 0 else _)=U.ro (bif Nat.blt i np then sm.getD i 0 else _);rw[AT (by omega)];exact h.ro _ (Ey l1 l4 i)
theorem Ah1{base np hi:Nat}{se:List E}{sr sm sg:List Nat}(hl:Zt base se sr sm=true){Y:An}(h1:Ai np ((Ki base np se sr sm sg).sig U) Y){Uq2:An}(g:Ai (base+(hi-np)) (U.tail base np Y) Uq2):
 Ai hi Y ((Ki base np se sr sm sg).sig Uq2):=by
 have g0:Ai base U Uq2:=An.EC.trans (g.le (Nat.le_add_right _ _));have a0:=U7 (sg:=sg) hl (Nat.le_refl np) g0;refine⟨fun i hi'=>?_,fun i hi'=>?_,fun i hi'=>?_,g.k.trans h1.k.symm,fun i hi'=>?_,fun i hi'=>?_⟩
 ·by_cases Au:i<np
  ·rw[a0.v i Au,h1.v i Au]
  ·show (bif Nat.blt i np then se.getD i (.lit 0) else E.var (base+(i-np))).den Uq2=_;rw[Cd Au];show Uq2.v (base+(i-np))=_;rw[g.v _ (by omega)];show (if base+(i-np)<base then _ else Y.v (np+(base+(i-np)-base)):Int)=_;rw[if_neg (by omega),show np+(base+(i-np)-base)=i by omega]
 ·by_cases Au:i<np
  ·rw[a0.r i Au,h1.r i Au]
  ·show Uq2.r (bif Nat.blt i np then sr.getD i 0 else base+(i-np))=_;rw[Cd Au];show Uq2.r (base+(i-np))=_;rw[g.r _ (by omega)];show (if base+(i-np)<base then _ else Y.r (np+(base+(i-np)-base)):Nat->Nat->Value)=_;rw[if_neg (by omega),show np+(base+(i-np)-base)=i by omega]
 ·by_cases Au:i<np
  ·rw[a0.m i Au,h1.m i Au]
  ·show Uq2.m (bif Nat.blt i np then sm.getD i 0 else base+(i-np))=_;rw[Cd Au];show Uq2.m (base+(i-np))=_;rw[g.m _ (by omega)];show (if base+(i-np)<base then _ else Y.m (np+(base+(i-np)-base)):Int->Option Value)=_;rw[if_neg (by omega),show np+(base+(i-np)-base)=i by omega]
 ·by_cases Au:i<np
  ·rw[a0.b i Au,h1.b i Au]
  ·show Uq2.b (bif Nat.blt i np then sr.getD i 0 else base+(i-np))=_;rw[Cd Au];show Uq2.b (base+(i-np))=_;rw[g.b _ (by omega)];show (if base+(i-np)<base then _ else Y.b (np+(base+(i-np)-base)):CH)=_;rw[if_neg (by omega),show np+(base+(i-np)-base)=i by omega]
 ·by_cases Au:i<np
  ·rw[a0.ro i Au,h1.ro i Au]
  ·show Uq2.ro (bif Nat.blt i np then sm.getD i 0 else base+(i-np))=_;rw[Cd Au];show Uq2.ro (base+(i-np))=_;rw[g.ro _ (by omega)];show (if base+(i-np)<base then _ else Y.ro (np+(base+(i-np)-base)):Nat)=_;rw[if_neg (by omega),show np+(base+(i-np)-base)=i by omega]
theorem AA.loop{s:St}(l:D7)(hlk:l.ok W)(se:List E)(sr sm sg:List Nat)(ph:List (Nat×Nat×Nat))(hp:∀U,s.ok W U->l.inv ((Ki s.base l.nh se sr sm sg).sig U))
 (hl:(Zt s.base se sr sm&&Nat.ble l.nc l.nh)=true) (x:Al (fun o=>AA W (s.loop W l se sr sm sg ph o) Q) l.outs):AA W s Q:=by
 intro U hs;rw[Ah]at hl;obtain⟨hl,hn⟩:=hl;have hn:=Nat.le_of_ble_eq_true hn;obtain⟨o,ho,Uqe,e1,e2,Uqs,m,e3,e4,e5⟩:=hlk.2 _ (hp U hs.self);have h1:Ai l.nc ((Ki s.base l.nc se sr sm sg).sig U) Uqe:=by
  refine Ai.trans (U':=(Ki s.base l.nh se sr sm sg).sig U) ⟨fun i hi=>?_,fun i hi=>?_,fun i hi=>?_,rfl,fun i hi=>?_,fun i hi=>?_⟩ e1
  ·show (bif Nat.blt i l.nh then se.getD i (.lit 0) else _:E).den U=(bif Nat.blt i l.nc then se.getD i (.lit 0) else _:E).den U;rw[AT hi,AT (show i<l.nh by omega)];rfl
  ·show U.r (bif Nat.blt i l.nh then sr.getD i 0 else _)=U.r (bif Nat.blt i l.nc then sr.getD i 0 else _);rw[AT hi,AT (show i<l.nh by omega)];rfl
  ·show U.m (bif Nat.blt i l.nh then sm.getD i 0 else _)=U.m (bif Nat.blt i l.nc then sm.getD i 0 else _);rw[AT hi,AT (show i<l.nh by omega)];rfl
  ·show U.b (bif Nat.blt i l.nh then sr.getD i 0 else _)=U.b (bif Nat.blt i l.nc then sr.getD i 0 else _);rw[AT hi,AT (show i<l.nh by omega)];rfl
  ·show U.ro (bif Nat.blt i l.nh then sm.getD i 0 else _)=U.ro (bif Nat.blt i l.nc then sm.getD i 0 else _);rw[AT hi,AT (show i<l.nh by omega)];rfl
 have hx:UU W (s.loop W l se sr sm sg ph o) (U.tail s.base l.nc Uqe):=by
  intro Uq2 g;have g:Ai (s.base+(l.nh+o.ex-l.nc)) (U.tail s.base l.nc Uqe) Uq2:=g;have g0:Ai s.base U Uq2:=An.EC.trans (g.le (Nat.le_add_right _ _));have gt2:=Ah1 (hi:=l.nh+o.ex) (sg:=sg) hl h1 g;have gt:Ai l.nh Uqe ((Ki s.base l.nc se sr sm sg).sig Uq2):=gt2.le (Nat.le_add_right _ _);obtain⟨i1,i2,i3,i4⟩:=e2 _ gt2;have q:=hs Uq2 g0;refine⟨((i2.append i1.cf).map' fun _=>MS).append q.cf,Al.append (Al.map' (q:=EO Uq2) (g:=P1 (Ki s.base l.nc se sr sm sg)) (fun _ h=>h) (i3.append i1.rd)) q.rd,⟨q.K,i1.q⟩,Al.append (Al.map' (q:=fun p=>∀C:AB,C.fu=W.fu->Hs W.P C (p.2.sig Uq2) p.1) (g:=fun p=>(p.1,(Ki s.base l.nc se sr sm sg).comp p.2)) (fun p hp C hC=>by show Hs W.P C (((Ki s.base l.nc se sr sm sg).comp p.2).sig Uq2) p.1;rw[Sb.Afc];exact hp C hC) i4) q.hy,.cons ?_ q.Kh,q.CI,q.abs,q.BD,q.BB,q.Fy,q.DW,Al.append (Al.map' (q:=HN Uq2) (g:=mkSub (Ki s.base l.nc se sr sm sg)) (fun _ h=>h) i1.mp) q.mp⟩;intro C hC;refine Lw.phL (Lq.ok ⟨D7.AmN hlk.1 (Ki s.base l.nh se sr sm sg) (Ki s.base l.nc se sr sm sg),Uqs,m,?_,e4.trans gt,?_⟩) ph
  ·exact ((U7 hl (Nat.le_refl l.nh) g0).symm).trans e3
  ·intro j hj;obtain⟨p,hp,p1,p2⟩:=e5 j hj;exact⟨p,hp,p1.trans hC.symm,p2⟩
 obtain⟨s',Uq3,r1,r2,r3⟩:=x.mem o ho _ hx;exact⟨s',Uq3,r1,An.EC.trans (Ai.le (show s.base<=s.base+(l.nh+o.ex-l.nc) from Nat.le_add_right _ _) r2),r3⟩
end Eng
namespace Eng
open Go Go.RowKit
variable [AD]
variable {P:Program} {C C':AB} {U U':An} {J J' Jq1:A1} {n:Nat} {W:Wd} {Q:St->Prop} {s:St}
theorem Al.nth{α:Type}{p:α->Prop}{l:List α}(h:Al p l)(k:Nat){x:α}(e:l[k]? =some x):p x:=h.mem x (Oj e)
def Gt(a b:Ck):Bool:=match a,b with
 |.i k,.i k'=>Nat.beq (Ax k) (Ax k')
 |.b,.b=>true
 |.n,.n=>true
 |.u,.u=>true
 |.s,.s=>true
 |.p,.p=>true
 |.g k,.g k'=>Nat.beq k k'
 |_,_=>false
theorem Er{a b:Ck}(h:Gt a b=true):a=b:=by
 cases a<;>cases b<;>first|rfl|(cases h;done)|(rw[Bt (show Nat.beq (Ax _) (Ax _)=true from h)];done)|(rw[beq_eq (show Nat.beq _ _=true from h)])
def Wj(rd:List KC)(t c:Nat):Ck:=@List.rec KC (fun _=>Ck) .u (fun p _ r=>@Bool.rec (fun _=>Ck) r (p.2.getD c .u) (Nat.beq p.1 t)) rd
theorem KJ{t:Nat}:∀{rd:List KC},Al (EO U) rd->∀j c,A9 (Wj rd t c) (U.r t j c):=by
 intro rd h
 induction h with
 |nil=>intro j c;trivial
 |cons h0 _ ih=>
  rename_i p l _;intro j c;show A9 (@Bool.rec (fun _=>Ck) (Wj l t c) (p.2.getD c .u) (Nat.beq p.1 t)) _;cases hb:Nat.beq p.1 t with
  |false=>exact ih j c
  |true=>rw[<-beq_eq hb];exact h0.1 j c
def aK(rd:List KC)(k:Ck)(a:A):Bool:=match k with
 |.u=>true
 |.s=>true
 |.p=>true
 |.g _=>true
 |.i k=>(match a with |.int k' _=>Nat.beq (Ax k) (Ax k')|.sym k' _=>Nat.beq (Ax k) (Ax k')|.rc t _ c=>Gt (Wj rd t c) (.i k)|_=>false)
 |.b=>(match a with |.bool _=>true|.sb _=>true|.rc t _ c=>Gt (Wj rd t c) .b|_=>false)
 |.n=>(match a with |.B7=>true|.rc t _ c=>Gt (Wj rd t c) .n|_=>false)
theorem AkF{rd:List KC}(hrd:Al (EO U) rd){k:Ck}{a:A}(h:aK rd k a=true):A9 k ((a.val U).getD undef):=by
 cases k with
 |u=>trivial
 |s=>trivial
 |p=>trivial
 |g k=>trivial
 |i k=>
  cases a with
  |int k' z=>have h:Nat.beq (Ax k) (Ax k')=true:=h;rw[Bt h];exact⟨_,rfl⟩
  |sym k' e=>have h:Nat.beq (Ax k) (Ax k')=true:=h;rw[Bt h];exact⟨_,rfl⟩
  |rc t e c=>have h:Gt (Wj rd t c) (.i k)=true:=h;rw[<-Er h];exact KJ hrd _ _
  |_=>cases h
 |b=>
  cases a with
  |bool b=>exact⟨_,rfl⟩
  |sb e=>exact⟨_,rfl⟩
  |rc t e c=>have h:Gt (Wj rd t c) .b=true:=h;rw[<-Er h];exact KJ hrd _ _
  |_=>cases h
 |n=>
  cases a with
  |B7=>rfl
  |rc t e c=>have h:Gt (Wj rd t c) .n=true:=h;rw[<-Er h];exact KJ hrd _ _
  |_=>cases h
def spK(rd:List KC)(ks:List Ck)(sp:List (E×Nat×A)):Bool:=sp.all fun p=>p.2.2.plain&&aK rd (ks.getD p.2.1 .u) p.2.2
theorem YP{j c:Nat}{a:A}:∀{l:List (E×Nat×A)},Ao U j c l=some a->∃p∈l,p.2.2=a/\p.2.1=c:=by
 intro l
 induction l with
 |nil=>intro h;cases h
 |cons p l ih=>
  intro h;unfold Ao at h;split at h
  ·rename_i hc;exact⟨p,GU,Option.some.inj h,hc.2⟩
  ·obtain⟨q,h1,h2⟩:=ih h;exact⟨q,Gq _ h1,h2⟩
def isZ(e:E):Bool:=match e with |.lit n=>BX n 0 |_=>false
theorem Ajw{e:E}(h:isZ e=true):e.den U=0:=by
 cases e with
 |lit n=>have h:BX n 0=true:=h;rw[BC]at h;exact eq_of_beq h
 |_=>cases h
theorem AA.AeX(ks:List Ck)(hn:WA ks=true)(t:Nat)(n:E)(t2:Nat)(lo m:E)(hl:(Nat.blt t s.base&&(Nat.blt t2 s.base&&(n.lo s.base&&lo.lo s.base)))=true)
 (hk:((List.range ks.length).all fun c=>(isZ n||Gt (Wj s.rd t c) (ks.getD c .u))&&Gt (Wj s.rd t2 c) (ks.getD c .u))=true)
 (x:AA W {s with base:=s.base+1,CI:=⟨t,n,t2,lo,m,s.base⟩::s.CI,rd:=(s.base,ks)::s.rd} Q):AA W s Q:=by
 refine AA.cat t n t2 lo m hl (AA.kind [(s.base,ks)] (fun U h=>.cons ?_ .nil) x);have h0:=h.CI.nth 0 rfl;have h0:WE U ⟨t,n,t2,lo,m,s.base⟩:=h0;refine⟨fun j c=>?_,Eo hn⟩;show A9 (ks.getD c .u) (U.r s.base j c)
 by_cases hc:c<ks.length
 ·have:=Bf.1 hk c (List.mem_range.2 hc);rw[Ah]at this;rw[h0 j c];split
  ·rename_i Au;rw[Bool.or_eq_true]at this;rcases this.1 with hz|hz
   ·have Au:(j:Int)<n.den U:=Au;rw[Ajw hz]at Au;omega
   ·rw[<-Er hz];exact KJ h.rd _ _
  ·rw[<-Er this.2];exact KJ h.rd _ _
 ·rw[Iw,List.getElem?_eq_none (by omega)];trivial
def Afh(cf:List CF)(sp kp:List (E×Nat×A)):Bool:=sp.all fun a=>kp.all fun b=>C3 (Nat.beq a.2.1 b.2.1)||cf.any fun f=>Yc f.op&&(C3 f.r&&(E.AJ f.x a.1&&E.AJ f.y b.1))
theorem Afi{cf:List CF}{sp kp:List (E×Nat×A)}(h:Afh cf sp kp=true)(hc:Al (A2 U) cf):∀a∈sp,∀b∈kp,a.2.1 ≠ b.2.1\/a.1.den U ≠ b.1.den U:=by
 intro a ha b hb;have:=Bf.1 (Bf.1 h a ha) b hb;rw[Bool.or_eq_true]at this;rcases this with h1|h1
 ·left;intro e;rw[e,Nat.beq_refl]at h1;cases h1
 ·right;obtain⟨f,hf,e⟩:=List.any_eq_true.1 h1;obtain⟨op,x,y,r⟩:=f;simp only[Ah]at e;obtain⟨e1,e2,e3,e4⟩:=e;have A8:op=.eql:=by cases op<;>first|rfl|cases e1
  have hr:r=false:=by cases r<;>first|rfl|cases e2
  subst A8;subst hr;have h0:(x.den U==y.den U)=false:=hc.mem _ hf;rw[<-Eng.Ac e3,<-Eng.Ac e4];intro e;rw[e,beq_self_eq_true]at h0;cases h0
theorem AA.AeA(ks:List Ck)(hn:WA ks=true)(t:Nat)(sp kp:List (E×Nat×A))(hd:Afh s.cf sp kp=true)(hl:(Nat.blt t s.base&&sp.all fun p=>p.1.lo s.base&&(p.2.2.lo s.base&&p.2.2.plain))=true)
 (hk:(((List.range ks.length).all fun c=>Gt (Wj s.rd t c) (ks.getD c .u))&&spK s.rd ks sp)=true)
 (x:AA W {s with base:=s.base+1,abs:=⟨t,sp,s.base,kp⟩::s.abs,rd:=(s.base,ks)::s.rd} Q):AA W s Q:=by
 rw[Ah]at hk;refine AA.abs t sp kp (fun U h=>Afi hd h.cf) hl (AA.kind [(s.base,ks)] (fun U h=>.cons ?_ .nil) x);have h0:=h.abs.nth 0 rfl;have h0:Kp U ⟨t,sp,s.base,kp⟩:=h0;refine⟨fun j c=>?_,Eo hn⟩;show A9 (ks.getD c .u) (U.r s.base j c)
 by_cases hc:c<ks.length
 ·rw[h0.row j c];cases hr:Ao U j c sp with
  |none=>
   show A9 _ (U.r t j c);rw[<-Er (Bf.1 hk.1 c (List.mem_range.2 hc))];exact KJ h.rd _ _
  |some a=>
   obtain⟨p,hp,e1,e2⟩:=YP hr;have:=Bf.1 hk.2 p hp;rw[Ah,e1,e2]at this;exact AkF h.rd this.2
 ·rw[Iw,List.getElem?_eq_none (by omega)];trivial
def Ep(a b:CF):Bool:=Nat.beq (Dw a.op) (Dw b.op)&&(E.AJ a.x b.x&&(E.AJ a.y b.y&&C6 a.r b.r))
theorem Cr{a b:CF}(h:Ep a b=true):a=b:=by
 obtain⟨o,x,y,r⟩:=a;obtain⟨o',x',y',r'⟩:=b;simp only[Ep,Ah]at h;rw[TE h.1,Eng.Ac h.2.1,Eng.Ac h.2.2.1,Gr h.2.2.2]
def EK(a b:KC):Bool:=Nat.beq a.1 b.1&&Av Gt a.2 b.2
theorem BH{a b:KC}(h:EK a b=true):a=b:=by
 obtain⟨o,x⟩:=a;obtain⟨o',x'⟩:=b;simp only[EK,Ah]at h;rw[beq_eq h.1,Ag (fun _ _=>Er) h.2]
def Aco(cf:List CF)(l:List Nat):List CF:=l.filterMap fun i=>cf[i]?
theorem AA.pick(l:List Nat)(x:AA W {s with cf:=Aco s.cf l} Q):AA W s Q:=by
 intro U hs;refine x U fun Uq2 h2=>?_
 have g:=hs Uq2 h2;refine⟨?_,g.rd,g.K,g.hy,g.Kh,g.CI,g.abs,g.BD,g.BB,g.Fy,g.DW,g.mp⟩;show Al (A2 Uq2) (Aco s.cf l);have hm:=g.cf.mem;unfold Aco;clear h2 x
 induction l with
 |nil=>exact .nil
 |cons i l ih=>
  rw[List.filterMap_cons];cases hi:s.cf[i]? with
  |none=>exact ih
  |some f=>exact .cons (hm f (Oj hi)) ih
variable {a b:E}
theorem RY(h:A2 U ⟨.lss,a,b,true⟩):a.den U<b.den U:=of_decide_eq_true h
theorem ltF(h:A2 U ⟨.lss,a,b,false⟩):b.den U<=a.den U:=Int.not_lt.1 (of_decide_eq_false h)
theorem Ig(h:A2 U ⟨.leq,a,b,true⟩):a.den U<=b.den U:=of_decide_eq_true h
theorem leF(h:A2 U ⟨.leq,a,b,false⟩):b.den U<a.den U:=Int.not_le.1 (of_decide_eq_false h)
theorem gtT(h:A2 U ⟨.gtr,a,b,true⟩):b.den U<a.den U:=of_decide_eq_true h
theorem gtF(h:A2 U ⟨.gtr,a,b,false⟩):a.den U<=b.den U:=Int.not_lt.1 (of_decide_eq_false h)
theorem H2(h:A2 U ⟨.geq,a,b,true⟩):b.den U<=a.den U:=of_decide_eq_true h
theorem geF(h:A2 U ⟨.geq,a,b,false⟩):a.den U<b.den U:=Int.not_le.1 (of_decide_eq_false h)
theorem Jj(h:A2 U ⟨.eql,a,b,true⟩):a.den U=b.den U:=eq_of_beq h
theorem eqF(h:A2 U ⟨.eql,a,b,false⟩):a.den U ≠ b.den U:=fun e=>by
 have h:(a.den U==b.den U)=false:=h;rw[e,beq_self_eq_true]at h;cases h
theorem neF(h:A2 U ⟨.neq,a,b,false⟩):a.den U=b.den U:=by
 have h:(a.den U != b.den U)=false:=h;simpa using h
theorem neT(h:A2 U ⟨.neq,a,b,true⟩):a.den U ≠ b.den U:=by
 have h:(a.den U != b.den U)=true:=h;simpa using h
theorem Yr(h:a.den U<b.den U):A2 U ⟨.lss,a,b,true⟩:=decide_eq_true h
theorem AuG(h:b.den U<=a.den U):A2 U ⟨.lss,a,b,false⟩:=decide_eq_false (Int.not_lt.2 h)
theorem Hg(h:a.den U<=b.den U):A2 U ⟨.leq,a,b,true⟩:=decide_eq_true h
theorem AuF(h:b.den U<a.den U):A2 U ⟨.leq,a,b,false⟩:=decide_eq_false (Int.not_le.2 h)
theorem AuE(h:b.den U<a.den U):A2 U ⟨.gtr,a,b,true⟩:=decide_eq_true h
theorem AuD(h:a.den U<=b.den U):A2 U ⟨.gtr,a,b,false⟩:=decide_eq_false (Int.not_lt.2 h)
theorem FN(h:b.den U<=a.den U):A2 U ⟨.geq,a,b,true⟩:=decide_eq_true h
theorem AuC(h:a.den U<b.den U):A2 U ⟨.geq,a,b,false⟩:=decide_eq_false (Int.not_le.2 h)
theorem AnH(h:a.den U=b.den U):A2 U ⟨.eql,a,b,true⟩:=beq_iff_eq.2 h
theorem Arm(h:a.den U ≠ b.den U):A2 U ⟨.eql,a,b,false⟩:=beq_false_of_ne h
theorem AuH(h:a.den U=b.den U):A2 U ⟨.neq,a,b,false⟩:=by
 show (a.den U != b.den U)=false;rw[h];exact bne_self_eq_false _
theorem Atg(h: -9223372036854775808<=a.den U+b.den U/\a.den U+b.den U<9223372036854775808):(E.bin .add .i64 a b).den U=a.den U+b.den U:=IntWalk.i64_in _ ⟨by omega,by omega⟩
theorem Avj(h: -9223372036854775808<=a.den U-b.den U/\a.den U-b.den U<9223372036854775808):(E.bin .sub .i64 a b).den U=a.den U-b.den U:=IntWalk.i64_in _ ⟨by omega,by omega⟩
theorem AA.Zk(t:Nat)(e:E)(c:Nat)(hl:((match Wj s.rd t c with |.b=>true|_=>false)&&(Nat.blt t s.base&&e.lo s.base))=true)
 (x:AA W (s.cmp ⟨.eql,.cell t e c,.lit 0,true⟩) Q) (y:AA W (s.cmp ⟨.eql,.cell t e c,.lit 1,true⟩) Q):AA W s Q:=by
 rw[Ah]at hl;obtain⟨l1,l2⟩:=hl;have hk:Wj s.rd t c=.b:=by
  cases h:Wj s.rd t c with
  |b=>rfl
  |_=>rw[h]at l1;cases l1
 intro U hs;have key:∀z:Int,(E.cell t e c).den U=z->UU W (s.cmp ⟨.eql,.cell t e c,.lit z,true⟩) U:=by
  intro z hz Uq2 h2;refine (hs Uq2 h2).cmp ?_;show ((E.cell t e c).den Uq2==z)=true;rw[E.agree h2 (e:=.cell t e c) l2,hz];exact beq_self_eq_true _
 have h0:=KJ (t:=t) hs.self.rd (e.den U).toNat c;rw[hk]at h0;obtain⟨b,hb⟩:=h0;have hd:(E.cell t e c).den U=if b then 1 else 0:=by
  show numOf (U.r t (e.den U).toNat c)=_;rw[hb];rfl
 cases b with
 |false=>exact x U (key 0 hd)
 |true=>exact y U (key 1 hd)
theorem Aex.mk{c:Bq}(o:Ds)(ho:o∈c.outs)(ie:List E)(ir im ig:List Nat)(fuel:Nat)
 (h1:(Zt s.base ie ir im&&(Nat.ble c.np s.base&&(Nat.ble c.np c.hi&&Mt (sbI s.base c.np c.hi c.n ie ir im ig) (c.sum o))))=true)
 (h2:∀U,s.ok W U->o.post ((sbI s.base c.np c.hi c.n ie ir im ig).sig U))
 (h3:U6 (sbI s.base c.np c.hi c.n ie ir im ig) (c.sum o) (abT s.abs s.Fy) (eval (Is W s) fuel xC (.call c.f (c.args.map (NI (nzF c.nz (VP s.cf))))) (Aa c.bl c.n))=true):Aex W c s:=
 ⟨o,ho,ie,ir,im,ig,fuel,h1,h2,h3⟩
structure Ae4(s t:St):Prop where
 cf:s.cf=t.cf
 rd:s.rd=t.rd
 hy:s.hy=t.hy
 Kh:s.Kh=t.Kh
 CI:s.CI=t.CI
 abs:s.abs=t.abs
 BD:s.BD=t.BD
 BB:s.BB=t.BB
 Fy:s.Fy=t.Fy
 DW:s.DW=t.DW
theorem Ae4.cfg{s t:St}(h:Ae4 s t):Is W s=Is W t:=by
 obtain⟨h1,h2,h3,h4,h5,h6,h7,h8,h9,RF⟩:=h;unfold Is;rw[h1,h2,h3,h4,h5,h6,h7,h8,h9,RF]
theorem WH.way{l:D7}{ma mb:E}(w:Tn)(hw:w∈l.ways)(h1:Ae4 s w.s)(h3:Nat.ble l.nh s.base=true)(h4:Vp l.nc w.te w.tr w.tm=true)
 (h5:∀U,s.ok W U->l.inv ((w.T l.nh).sig U)) (h6:∀U,s.ok W U->(ma.den ((w.T l.nh).sig U)-mb.den ((w.T l.nh).sig U)).toNat<(ma.den U-mb.den U).toNat):WH W l ma mb s:=
 .inl ⟨w,hw,h1.cfg,h1.abs,h1.Fy,Nat.le_of_ble_eq_true h3,h4,h5,h6⟩
theorem WH.stop{l:D7}{ma mb:E}(o:PL)(ho:o∈l.outs)(hb:Nat.beq (Nat.add l.nh o.ex) s.base=true)(h:∀U,s.ok W U->o.is W U):WH W l ma mb s:=.inr ⟨o,ho,hb,h⟩
end Eng
namespace Eng
open Go
def LM:Code->List (Code×Code)
 |.seq a b=>LM a++LM b
 |.cond _ a b=>LM a++LM b
 |.block _ a=>LM a
 |.loop a=>LM a
 |.scope a=>LM a
 |.rangeFunc _ _ a b=>(a,b)::LM b
 |_=>[]
def rfA(fi:FI)(k:Nat):Code:=match (LM fi.body)[k]? with |some p=>p.1 |none=>.skip
def rfB(fi:FI)(k:Nat):Code:=match (LM fi.body)[k]? with |some p=>p.2 |none=>.skip
def cG(a:Nat):CF:=⟨.geq,.var a,.lit 0,true⟩
def cM(a:Nat):CF:=⟨.leq,.var a,.lit 16000,true⟩
def cS(a b:Nat):CF:=⟨.leq,.var a,.bin .add .i64 (.var b) (.lit 1),true⟩
def cN(a:Nat)(z:Int)(r:Bool):CF:=⟨.eql,.var a,.lit z,r⟩
end Eng
end
