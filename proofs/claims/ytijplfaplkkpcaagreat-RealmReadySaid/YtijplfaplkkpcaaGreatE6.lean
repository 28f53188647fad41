/- Regions whose order is drawn are evaluated right in any order. No conditions beside those in its theorems. -/
import Derived.Test.YtijplfaplkkpcaaGreatE5
import Derived.Orders
set_option linter.unusedVariables false
set_option linter.unusedSimpArgs false
set_option linter.unusedSectionVars false
set_option linter.constructorNameAsVariable false
set_option maxRecDepth 100000
noncomputable section
namespace Eng
open Go
variable {J J':A1} {U:An} {C:AB} {P:Program} {nl nt:Nat}
theorem Rel.Ai0{h:H}{w:World}(hr:Rel J U C h w){id:Nat}(Dg:J id=none)(x:Aj)(hxb:∀t,x ≠ .Am t):Rel J U C (h.put id x) w where
 lt:=hr.lt
 Am:=(hr.Am.step (h':=h.put id x) (w':=w) (Jb hxb) (fun _ _=>rfl) fun b r S hb=>.inl ⟨b,S,hb⟩).1
 kept:=hr.kept
 AE:=by
  intro b r S hb;obtain⟨o,ho,hx⟩:=hr.AE b r S hb;refine⟨o,ho,?_⟩;intro y hy;rcases H.By hy with ⟨e,_⟩|⟨_,e⟩
  ·subst e;rw[Dg]at hb;cases hb
  ·exact hx y e
 inj:=by
  intro b b' r S1 S2 hb AS ⟨y,hy,KY⟩ ⟨y',FH,Qb⟩;have n1:b ≠ id:=by intro e;subst e;rw[Dg]at hb;cases hb
  have n2:b' ≠ id:=by intro e;subst e;rw[Dg]at AS;cases AS
  have gy:h.get b=some y:=by rcases H.By hy with ⟨e,_⟩|⟨_,e⟩;exact absurd e n1;exact e
  have gy':h.get b'=some y':=by rcases H.By FH with ⟨e,_⟩|⟨_,e⟩;exact absurd e n2;exact e
  rcases hr.inj b b' r S1 S2 hb AS ⟨y,gy,KY⟩ ⟨y',gy',Qb⟩ with h1|⟨c,n,f,h1⟩
  ·exact .inl h1
  ·right;rw[gy]at h1;exact⟨c,n,f,hy.trans h1⟩
theorem Rel.Amj{h:H}{w:World}(hr:Rel J U C h w){id r S:Nat}{x:Aj}{o:Obj}(Dg:J id=some (r,S))(ho:w.heap[r]? =some o)(hx:BR J U C x o S)
 (hone:∀b S',J b=some (r,S')->b=id):Rel J U C (h.put id x) w where
 lt:=hr.lt
 Am:=(hr.Am.step (h':=h.put id x) (w':=w) (Jb hx.Fw) (fun _ _=>rfl) fun b r S hb=>.inl ⟨b,S,hb⟩).1
 kept:=hr.kept
 AE:=by
  intro b r' S' hb;obtain⟨o',HQ,hx'⟩:=hr.AE b r' S' hb
  by_cases e:b=id
  ·subst e;rw[Dg]at hb;cases hb;refine⟨o,ho,?_⟩;intro y hy;rcases H.By hy with ⟨_,e2⟩|⟨e2,_⟩
   ·subst e2;exact hx
   ·exact absurd rfl e2
  ·refine⟨o',HQ,?_⟩;intro y hy;rcases H.By hy with ⟨e2,_⟩|⟨_,e2⟩
   ·exact absurd e2 e
   ·exact hx' y e2
 inj:=by
  intro b b' r' S1 S2 hb AS ⟨y,hy,KY⟩ ⟨y',FH,Qb⟩
  by_cases n1:b=id
  ·subst n1;rw[Dg]at hb;cases hb;exact .inl (hone b' S2 AS).symm
  ·by_cases n2:b'=id
   ·subst n2;rw[Dg]at AS;cases AS;exact .inl (hone b S1 hb)
   ·have gy:h.get b=some y:=by rcases H.By hy with ⟨e,_⟩|⟨_,e⟩;exact absurd e n1;exact e
    have gy':h.get b'=some y':=by rcases H.By FH with ⟨e,_⟩|⟨_,e⟩;exact absurd e n2;exact e
    rcases hr.inj b b' r' S1 S2 hb AS ⟨y,gy,KY⟩ ⟨y',gy',Qb⟩ with h1|⟨c,n,f,h1⟩
    ·exact .inl h1
    ·right;rw[gy]at h1;exact⟨c,n,f,hy.trans h1⟩
theorem Ext.Aka{Jq0:A1}{h0 h:H}{w0 w:World}(e:Ext U Jq0 J h0 h w0 w){id:Nat}(Dg:h0.next<=id)(x:Aj)(hxb:∀t,x ≠ .Am t):Ext U Jq0 J h0 (h.put id x) w0 w where
 next:=e.next
 CW:=e.CW
 new:=e.new
 size:=e.size
 live:=by
  intro b hb ⟨y,hy,KY⟩;rcases H.By hy with ⟨e2,_⟩|⟨_,e2⟩
  ·omega
  ·exact e.live b hb ⟨y,e2,KY⟩
 frame:=e.frame
 fo:=fun r ⟨b,t,h1,h2⟩=>e.fo r ⟨b,t,Jb hxb b t h1,h2⟩
 os:=e.os
 tape:=e.tape
 output:=e.output
 fz:=e.fz
structure Ma(w w':World)(r:Nat)(o:Obj):Prop where
 ge:w.heap.size<=r
 get:w'.heap[r]? =some o
 same:∀x,x<w.heap.size->w'.heap[x]? =w.heap[x]?
 size:w.heap.size<=w'.heap.size
 os:w'.os=w.os
 tape:w'.tape=w.tape
 output:w'.output=w.output
 fz:∀a,a.block<w.heap.size->w'.frozen? a=w.frozen? a
theorem Ma.push(w:World){o:Obj}(hz:GX o):Ma w (Eng.push w o) w.heap.size o where
 ge:=Nat.le_refl _
 get:=Hi w o
 same:=fun _ hx=>C9 w o hx
 size:=by show _<=(w.heap.push o).size;simp
 os:=rfl
 tape:=rfl
 output:=rfl
 fz:=fun a _=>K4 w hz a
theorem Rel.Wl{h:H}{w w':World}(hr:Rel J U C h w){id S r0:Nat}{o:Obj}(hp:Ma w w' r0 o)(Dg:J id=none)(Au:id<h.next)(hx:∀x,h.get id=some x->BR (GG J id (r0,S)) U C x o S):
 Rel (GG J id (r0,S)) U C h w':=by
 have DU:Sub J (GG J id (r0,S)):=by
  intro b y hb;rw[A6 J _ (by intro e;subst e;rw[Dg]at hb;cases hb)];exact hb
 have K8:=hp.ge;refine⟨?_,?_,?_,fun r' o' hk=>⟨(hp.same r' (hr.Yf hk)).trans (hr.kept r' o' hk).1,hr.Age K8 hk⟩,(hr.Am.step (h':=h) (w':=w') (fun _ _ h=>h) (fun r' hf=>hp.same r' (hr.Am.lt hf)) fun b r S' hb=>(QI r0 S b r S' hb).imp (fun h=>h) (Nat.le_trans K8)).1⟩
 ·intro b r S' hb
  by_cases e:b=id
  ·subst e;exact Au
  ·rw[A6 J _ e]at hb;exact hr.lt b r S' hb
 ·intro b r S' hb
  by_cases e:b=id
  ·subst e;rw[Ay]at hb;cases hb;exact⟨o,hp.get,hx⟩
  ·rw[A6 J _ e]at hb;obtain⟨o',ho,hy⟩:=hr.AE b r S' hb;exact⟨o',by rw[hp.same _ (hr.lt_size hb)];exact ho,fun y hg=>(hy y hg).mono DU⟩
 ·intro b b' r S1 S2 hb AS hl Py
  by_cases e:b=id
  ·by_cases e':b'=id
   ·exact .inl (e.trans e'.symm)
   ·subst e;rw[Ay]at hb;rw[A6 J _ e']at AS;cases hb;have:=hr.lt_size AS;omega
  ·by_cases e':b'=id
   ·subst e';rw[Ay]at AS;rw[A6 J _ e]at hb;cases AS;have:=hr.lt_size hb;omega
   ·rw[A6 J _ e]at hb;rw[A6 J _ e']at AS;exact hr.inj b b' r S1 S2 hb AS hl Py
theorem PD{id:Nat}(Dg:J id=none)(x:Nat×Nat):Sub J (GG J id x):=by
 intro b y hb;rw[A6 J _ (by intro e;subst e;rw[Dg]at hb;cases hb)];exact hb
theorem Ext.Wl{Jq0:A1}{h0 h:H}{w0 w w':World}(hB:Hr J U h w)(e:Ext U Jq0 J h0 h w0 w){id S r0:Nat}{o:Obj}(Dg:h0.next<=id)(hp:Ma w w' r0 o):
 Ext U Jq0 (GG J id (r0,S)) h0 h w0 w' where
 next:=e.next
 CW:=fun b hb=>by rw[A6 J _ (by omega)];exact e.CW b hb
 new:=by
  intro b r S' hb he
  by_cases e2:b=id
  ·subst e2;rw[Ay]at he;cases he;exact .inl (Nat.le_trans e.size hp.ge)
  ·rw[A6 J _ e2]at he;exact e.new b r S' hb he
 size:=Nat.le_trans e.size hp.size
 live:=e.live
 frame:=fun r hr hn hf=>by rw[hp.same _ (IM hr e.size)];exact e.frame r hr hn hf
 fo:=fun r hf=>(hB.step (J':=J) (h':=h) (w':=w') (fun _ _ h=>h) (fun r' hf=>hp.same r' (hB.lt hf)) (fun b r S' hb=>.inl ⟨b,S',hb⟩)).2 0 r hf |>.elim (fun _=>(hB.step (J':=J) (h':=h) (w':=w') (fun _ _ h=>h) (fun r' hf=>hp.same r' (hB.lt hf)) (fun b r S' hb=>.inl ⟨b,S',hb⟩)).2 (r+1) r hf |>.elim (fun h=>absurd h (by omega)) (e.fo r)) (e.fo r)
 os:=hp.os.trans e.os
 tape:=hp.tape.trans e.tape
 output:=hp.output.trans e.output
 fz:=fun a ha=>(hp.fz a (IM ha e.size)).trans (e.fz a ha)
inductive Kd where
 |r
 |a (id:Nat) (AE:Aj)
 |e
structure Row where
 pt:T AV
 tl:TL
 h:H
 v:AV
 k:Kd
def Row.look(nl:Nat)(R:Row)(t:Nat):Option AV:=(Dn nl t).val R.pt R.tl
def AcP(J:A1)(U:An)(a:Act)(t:Nat)(u:AV):Prop:=∃v',a.tmps[t]? =some v'/\Bb J U u v'
def Dv(ops:Array Oper)(i t:Nat):Prop:=∃o,ops[i]? =some o/\o.dst=some t
def QO(ops:Array Oper)(i t:Nat):Prop:=∃o,ops[i]? =some o/\t∈o.looksAt ops
def Env(ops:Array Oper)(J:A1)(U:An)(nt nl:Nat)(j:Nat)(R:Row)(a:Act):Prop:=
 nt<=a.tmps.size/\∀t,QO ops j t->∀u,R.look nl t=some u->AcP J U a t u
def Ga(P:Program)(ops:Array Oper)(j:Nat)(b:Frame)(rest:List Nat)(k:List Item)(cs:List Frame)(a:Act)(w:World)(v:Value)(w':World):Prop:=
 Steps P (lone (b.atR a (.inRegion ops (j::rest)::k)) cs w) (lone (b.atR (a.put ((ops[j]?).bind (·.dst)) v) (.inRegion ops rest::k)) cs w')
section
variable (C:AB) (P:Program) (U:An) (nt nl:Nat) (ops:Array Oper)
def Abg(j:Nat)(R:Row)(h:H):Prop:=
 ∀J w a b rest k cs,Rel J U C h w->Env ops J U nt nl j R a->∃v',Ga P ops j b rest k cs a w v' w/\Bb J U R.v v'
def AkA(j:Nat)(R:Row)(id:Nat)(AE:Aj):Prop:=
 ∀J w a b rest k cs h,Rel J U C h w->J id=none->Env ops J U nt nl j R a->∃w' r obj v' S,Ga P ops j b rest k cs a w v' w'/\Ma w w' r obj/\BR (GG J id (r,S)) U C AE obj S/\Bb (GG J id (r,S)) U R.v v'
def AkB(j:Nat)(R:Row)(h':H):Prop:=
 ∀J w a b rest k cs,Rel J U C R.h w->Env ops J U nt nl j R a->∃v' w' J',Ga P ops j b rest k cs a w v' w'/\Bb J' U R.v v'/\Rel J' U C h' w'/\Ext U J J' R.h h' w w'
structure Oo(row:Nat->Row)(Kl:Nat->Nat->Prop)(base:Nat):Prop where
 fwd:∀j o,ops[j]? =some o->∀e∈o.after,Region.binds .any e=true->e.on<j
 clo:∀j i,Kl j i->∃o,ops[j]? =some o/\∃e∈o.after,Region.binds .any e=true/\(e.on=i\/Kl e.on i)
 ApD:∀j t,Dv ops j t->t<nt
 nam:∀i j t,i<j->j<ops.size->(Dv ops i t/\(Dv ops j t\/QO ops j t))->Kl j i
 AjK:∀i j t,i<j->j<ops.size->Dv ops j t->QO ops i t->Kl j i
 put:∀j,j<ops.size->∀t u,(row (j+1)).look nl t=some u->(Dv ops j t/\u=(row j).v)\/(¬Dv ops j t/\(row j).look nl t=some u)
 chain:∀i j,i<j->j<ops.size->(row i).k=.e->(row j).k=.e->Kl j i
 alloc:∀i j,i<j->j<ops.size->∀id AE,(row i).k=.a id AE->(row j).k=.e->Kl j i
 Agm:∀j,j<ops.size->(row j).k=.r->(row (j+1)).h=(row j).h/\
  ∀p,p<=ops.size->(p=ops.size\/(row p).k=.e)->(∀i,i<ops.size->(row i).k=.e->Kl j i->i<p)->(∀i,i<p->(row i).k=.e->¬Kl i j)->Abg C P U nt nl ops j (row j) (row p).h
 NA:∀j,j<ops.size->∀id AE,(row j).k=.a id AE->(row (j+1)).h=(row j).h.put id AE/\base<=id/\id<(row 0).h.next/\(∀t,AE ≠ .Am t)/\AkA C P U nt nl ops j (row j) id AE
 AqY:∀j,j<ops.size->(row j).k=.e->AkB C P U nt nl ops j (row j) (row (j+1)).h
 ids:∀i j,i<j->j<ops.size->∀id AE N8 Hu,(row i).k=.a id AE->(row j).k=.a N8 Hu->id ≠ N8
 ApB:∀id,base<=id->id<(row 0).h.next->¬Live (row 0).h id
end
section
variable {ops:Array Oper} {row:Nat->Row} {Kl:Nat->Nat->Prop} {base:Nat} {Jq0:A1} {h0:H} {w0:World} {a0:Act} {D:Nat->Prop} {p:Nat} {a:Act} {w:World}
structure HI(C:AB)(U:An)(n:Nat)(row:Nat->Row)(Jq0:A1)(h0:H)(w0:World)(D:Nat->Prop)(i:Nat)(J:A1)(w:World):Prop where
 rel:Rel J U C (row i).h w
 ext:Ext U Jq0 J h0 (row i).h w0 w
 al0:∀j,j<n->∀id AE,(row j).k=.a id AE->¬D j->J id=none
 al1:∀j,j<n->i<=j->∀id AE,(row j).k=.a id AE->D j->∃r S obj,J id=some (r,S)/\w.heap[r]? =some obj/\BR J U C AE obj S/\∀b S',J b=some (r,S')->b=id
 al2:∀j,j<n->i<=j->∀id AE,(row j).k=.a id AE->¬Live (row i).h id
 al3:(row 0).h.next<=(row i).h.next
theorem HI.next(pl:Oo C P U nt nl ops row Kl base)(hb:h0.next<=base){i:Nat}(hi:i<ops.size)(hk:(row i).k ≠ .e)(x:HI C U ops.size row Jq0 h0 w0 D i J w):HI C U ops.size row Jq0 h0 w0 D (i+1) J w:=by
 cases hk0:(row i).k with
 |e=>exact absurd hk0 hk
 |r=>
  have e:=(pl.Agm i hi hk0).1;exact⟨by rw[e];exact x.rel,by rw[e];exact x.ext,x.al0,fun j hj hle=>x.al1 j hj (by omega),fun j hj hle id AE h=>by rw[e];exact x.al2 j hj (by omega) id AE h,by rw[e];exact x.al3⟩
 |a id AE=>
  obtain⟨e,h1,h2,hnb,_⟩:=pl.NA i hi id AE hk0;refine⟨?_,?_,x.al0,fun j hj hle=>x.al1 j hj (by omega),?_,?_⟩
  ·rw[e]
   by_cases hd:D i
   ·obtain⟨r,S,obj,g1,g2,g3,g4⟩:=x.al1 i hi (Nat.le_refl _) id AE hk0 hd;exact x.rel.Amj g1 g2 g3 g4
   ·exact x.rel.Ai0 (x.al0 i hi id AE hk0 hd) AE hnb
  ·rw[e];exact x.ext.Aka (Nat.le_trans hb h1) AE hnb
  ·intro j hj hle N8 Hu h ⟨y,hy,KY⟩;rw[e]at hy;rcases H.By hy with ⟨e2,_⟩|⟨_,e2⟩
   ·exact pl.ids i j (by omega) hj id AE N8 Hu hk0 h e2.symm
   ·exact x.al2 j hj (by omega) N8 Hu h ⟨y,e2,KY⟩
  ·rw[e];exact x.al3
theorem HI.adv(pl:Oo C P U nt nl ops row Kl base)(hb:h0.next<=base){i:Nat}(x:HI C U ops.size row Jq0 h0 w0 D i J w):∀q,i<=q->q<=ops.size->(∀m,i<=m->m<q->(row m).k ≠ .e)->HI C U ops.size row Jq0 h0 w0 D q J w:=by
 intro q
 induction q with
 |zero=>intro h1 _ _;have:i=0:=by omega
        subst this;exact x
 |succ q ih=>
  intro h1 h2 h3;rcases Nat.lt_or_ge i (q+1) with h4|h4
  ·exact HI.next pl hb (by omega) (h3 q (by omega) (by omega)) (ih (by omega) (by omega) fun m m1 m2=>h3 m m1 (by omega))
  ·have:i=q+1:=by omega
   subst this;exact x
theorem Sl(row:Nat->Row)(n:Nat):∀d i,i+d=n->∃q,i<=q/\q<=n/\(q=n\/(row q).k=.e)/\∀m,i<=m->m<q->(row m).k ≠ .e:=by
 intro d
 induction d with
 |zero=>intro i h;exact⟨i,Nat.le_refl _,by omega,.inl (by omega),fun m _ _=>by omega⟩
 |succ d ih=>
  intro i h
  by_cases he:(row i).k=.e
  ·exact⟨i,Nat.le_refl _,by omega,.inr he,fun m _ _=>by omega⟩
  ·obtain⟨q,h1,h2,h3,h4⟩:=ih (i+1) (by omega);refine⟨q,by omega,h2,h3,?_⟩;intro m m1 m2
   by_cases e:m=i
   ·subst e;exact he
   ·exact h4 m (by omega) m2
structure AcO(ops:Array Oper)(nt nl:Nat)(row:Nat->Row)(J:A1)(U:An)(D:Nat->Prop)(a:Act):Prop where
 size:nt<=a.tmps.size
 As0:∀t u,(∀i,D i->¬Dv ops i t)->(row 0).look nl t=some u->AcP J U a t u
 As1:∀i t,D i->Dv ops i t->(∀k,D k->i<k->¬Dv ops k t)->AcP J U a t (row i).v
theorem AcO.look(pl:Oo C P U nt nl ops row Kl base)(x:AcO ops nt nl row J U D a){t:Nat}:∀q,q<=ops.size->(∀i,i<q->Dv ops i t->D i)->(∀k,D k->q<=k->¬Dv ops k t)->∀u,(row q).look nl t=some u->AcP J U a t u:=by
 intro q
 induction q with
 |zero=>intro _ _ h2 u hu;exact x.As0 t u (fun i hi=>h2 i hi (Nat.zero_le _)) hu
 |succ q ih=>
  intro hq h1 h2 u hu;rcases pl.put q (by omega) t u hu with ⟨e1,e2⟩|⟨e1,e2⟩
  ·subst e2;exact x.As1 q t (h1 q (by omega) e1) e1 fun k hk Au=>h2 k hk Au
  ·refine ih (by omega) (fun i hi=>h1 i (by omega)) ?_ u e2;intro k hk hle
   by_cases e:k=q
   ·subst e;exact e1
   ·exact h2 k hk (by omega)
theorem Wb{d:Option Tmp}{v:Value}{t:Nat}{a:Act}:(d=some t->t<a.tmps.size->(a.put d v).tmps[t]? =some v)/\(d ≠ some t->(a.put d v).tmps[t]? =a.tmps[t]?):=by
 cases d with
 |none=>exact⟨(fun h=>nomatch h),fun _=>rfl⟩
 |some d=>
  refine⟨?_,?_⟩
  ·intro e Au;cases e;simp[Act.put,Au]
  ·intro e;have:d ≠ t:=fun h=>e (by rw[h])
   simp only[Act.put];rw[Array.getElem?_setIfInBounds_ne this]
theorem Ahf(d:Option Tmp)(v:Value):(a.put d v).tmps.size=a.tmps.size:=by cases d<;>simp[Act.put]
theorem put_defers(d:Option Tmp)(v:Value):(a.put d v).defers=a.defers:=by cases d<;>rfl
theorem Rk{j t:Nat}:(ops[j]?).bind (·.dst)=some t↔Dv ops j t:=by
 unfold Dv;cases ops[j]? with
 |none=>simp
 |some o=>simp
theorem AcO.next(pl:Oo C P U nt nl ops row Kl base)(x:AcO ops nt nl row J U D a)(FF:∀i k,D i->Kl i k->D k)(Au:∀i,D i->i<ops.size){j:Nat}(hj:j<ops.size)(PV:∀k,Kl j k->D k)(hnj:¬D j)(hs:Sub J J'){v:Value}(hv:Bb J' U (row j).v v):
 AcO ops nt nl row J' U (fun i=>i=j\/D i) (a.put ((ops[j]?).bind (·.dst)) v):=by
 refine⟨by rw[Ahf];exact x.size,?_,?_⟩
 ·intro t u hn hu;obtain⟨v',h1,h2⟩:=x.As0 t u (fun i hi=>hn i (.inr hi)) hu;have:(ops[j]?).bind (·.dst) ≠ some t:=fun e=>hn j (.inl rfl) (Rk.1 e)
  exact⟨v',by rw[Wb.2 this];exact h1,h2.mono hs⟩
 ·intro i t hi hd hlast;rcases hi with e|hi
  ·subst e;have Au:=pl.ApD i t hd;exact⟨v,Wb.1 (Rk.2 hd) (IM Au x.size),hv⟩
  ·have Bs:i ≠ j:=fun e=>hnj (e▸hi)
   have hjt:¬Dv ops j t:=by
    intro hjt;rcases Nat.lt_or_ge i j with h1|h1
    ·exact hlast j (.inl rfl) h1 hjt
    ·exact hnj (FF i j hi (pl.nam j i t (by omega) (Au i hi) ⟨hjt,.inl hd⟩))
   obtain⟨v',h1,h2⟩:=x.As1 i t hi hd fun k hk hik=>hlast k (.inr hk) hik
   exact⟨v',by rw[Wb.2 (fun e=>hjt (Rk.1 e))];exact h1,h2.mono hs⟩
structure PI(C:AB)(U:An)(nt nl:Nat)(ops:Array Oper)(row:Nat->Row)(Kl:Nat->Nat->Prop)(Jq0:A1)(h0:H)(w0:World)(a0:Act)(D:Nat->Prop)(p:Nat)(J:A1)(a:Act)(w:World):Prop where
 ple:p<=ops.size
 Zi:p=ops.size\/(row p).k=.e
 done:∀i,i<ops.size->(row i).k=.e->(D i↔i<p)
 lt:∀i,D i->i<ops.size
 closed:∀i k,D i->Kl i k->D k
 defers:a.defers=a0.defers
 hi:HI C U ops.size row Jq0 h0 w0 D p J w
 ti:AcO ops nt nl row J U D a
theorem PI.env(pl:Oo C P U nt nl ops row Kl base)(x:PI C U nt nl ops row Kl Jq0 h0 w0 a0 D p J a w){j:Nat}(hj:j<ops.size)(hnj:¬D j)(PV:∀k,Kl j k->D k):Env ops J U nt nl j (row j) a:=by
 refine⟨x.ti.size,?_⟩;intro t ht u hu;refine x.ti.look pl j (by omega) ?_ ?_ u hu
 ·intro i hi hd;exact PV i (pl.nam i j t hi hj ⟨hd,.inr ht⟩)
 ·intro k hk hle hd;have Bs:k ≠ j:=fun e=>hnj (e▸hk)
  exact hnj (x.closed k j hk (pl.AjK j k t (by omega) (x.lt k hk) hd ht))
theorem Oo.stays(pl:Oo C P U nt nl ops row Kl base){j:Nat}(hj:j<ops.size){id:Nat}{AE:Aj}(hk:(row j).k=.a id AE):∀q,j<q->q<=ops.size->(∀m,j<m->m<q->(row m).k ≠ .e)->∀x,(row q).h.get id=some x->x=AE:=by
 intro q
 induction q with
 |zero=>intro h;omega
 |succ q ih=>
  intro h1 h2 h3 x hx
  by_cases e:j=q
  ·subst e;rw[(pl.NA j hj id AE hk).1]at hx;rcases H.By hx with ⟨_,e2⟩|⟨e2,_⟩
   ·exact e2
   ·exact absurd rfl e2
  ·have ih':=ih (by omega) (by omega) (fun m m1 m2=>h3 m m1 (by omega));cases hq:(row q).k with
   |e=>exact absurd hq (h3 q (by omega) (by omega))
   |r=>rw[(pl.Agm q (by omega) hq).1]at hx;exact ih' x hx
   |a N8 Hu=>
    rw[(pl.NA q (by omega) N8 Hu hq).1]at hx;rcases H.By hx with ⟨e2,_⟩|⟨_,e2⟩
    ·exact absurd e2 (pl.ids j q (by omega) (by omega) id AE N8 Hu hk hq)
    ·exact ih' x e2
theorem PI.step(pl:Oo C P U nt nl ops row Kl base)(hb:h0.next<=base)(IS:Rel Jq0 U C h0 w0)(x:PI C U nt nl ops row Kl Jq0 h0 w0 a0 D p J a w){j:Nat}(hj:j<ops.size)(hnj:¬D j)(PV:∀k,Kl j k->D k)(b:Frame)(rest:List Nat)(kk:List Item)(cs:List Frame):
 ∃p' J' v' w',Ga P ops j b rest kk cs a w v' w'/\PI C U nt nl ops row Kl Jq0 h0 w0 a0 (fun i=>i=j\/D i) p' J' (a.put ((ops[j]?).bind (·.dst)) v') w':=by
 have Gz:=x.env pl hj hnj PV;have FF:∀i k,(i=j\/D i)->Kl i k->(k=j\/D k):=by
  intro i k hi hk;rcases hi with e|hi
  ·subst e;exact .inr (PV k hk)
  ·exact .inr (x.closed i k hi hk)
 have Au:∀i,(i=j\/D i)->i<ops.size:=by
  intro i hi;rcases hi with e|hi
  ·subst e;exact hj
  ·exact x.lt i hi
 cases hk:(row j).k with
 |r=>
  obtain⟨_,hf⟩:=pl.Agm j hj hk;have hfact:=hf p x.ple x.Zi (fun i hi he hbi=>(x.done i hi he).1 (PV i hbi))
   (fun i hi he hbi=>hnj (x.closed i j ((x.done i (by have:=x.ple;omega) he).2 hi) hbi))
  obtain⟨v',hs,hv⟩:=hfact J w a b rest kk cs x.hi.rel Gz;refine⟨p,J,v',w,hs,x.ple,x.Zi,?_,Au,FF,by rw[put_defers];exact x.defers,?_,x.ti.next pl x.closed x.lt hj PV hnj (Sub.refl J) hv⟩
  ·intro i hi he;constructor
   ·rintro (e|hd)
    ·subst e;rw[hk]at he;cases he
    ·exact (x.done i hi he).1 hd
   ·intro h;exact .inr ((x.done i hi he).2 h)
  ·refine⟨x.hi.rel,x.hi.ext,fun i hi id AE h hn=>x.hi.al0 i hi id AE h (fun hd=>hn (.inr hd)),?_,x.hi.al2,x.hi.al3⟩;intro i hi hle id AE h hd;rcases hd with e|hd
   ·subst e;rw[hk]at h;cases h
   ·exact x.hi.al1 i hi hle id AE h hd
 |a id AE=>
  obtain⟨_,h1,h2,_,hfact⟩:=pl.NA j hj id AE hk;have Dg:=x.hi.al0 j hj id AE hk hnj;obtain⟨w',r0,obj,v',S,hs,hpu,hbr,hv⟩:=hfact J w a b rest kk cs _ x.hi.rel Dg Gz;have K8:=hpu.ge;have DU:=PD Dg (r0,S);have hself:=Ay J id (r0,S);have hnoE:j<p->∀m,j<m->m<p->(row m).k ≠ .e:=by
   intro _ m m1 m2 he;have hmn:m<ops.size:=by have:=x.ple;omega
   exact hnj (x.closed m j ((x.done m hmn he).2 m2) (pl.alloc j m m1 hmn id AE hk he))
  have OC:∀y,(row p).h.get id=some y->BR (GG J id (r0,S)) U C y obj S:=by
   intro y hy;rcases Nat.lt_or_ge j p with h3|h3
   ·rw[pl.stays hj hk p h3 x.ple (hnoE h3) y hy];exact hbr
   ·by_cases hd:y=.dead
    ·subst hd;trivial
    ·exact absurd ⟨y,hy,hd⟩ (x.hi.al2 j hj h3 id AE hk)
  refine⟨p,GG J id (r0,S),v',w',hs,x.ple,x.Zi,?_,Au,FF,by rw[put_defers];exact x.defers,?_,x.ti.next pl x.closed x.lt hj PV hnj DU hv⟩
  ·intro i hi he;constructor
   ·rintro (e|hd)
    ·subst e;rw[hk]at he;cases he
    ·exact (x.done i hi he).1 hd
   ·intro h;exact .inr ((x.done i hi he).2 h)
  ·refine⟨x.hi.rel.Wl hpu Dg (IM h2 x.hi.al3) OC,x.hi.ext.Wl x.hi.rel.Am (Nat.le_trans hb h1) hpu,?_,?_,x.hi.al2,x.hi.al3⟩
   ·intro i hi N8 Hu h hn;have Bs:N8 ≠ id:=by
     intro e;have hij:i ≠ j:=fun e2=>hn (.inl e2)
     rcases Nat.lt_or_ge i j with h3|h3
     ·exact pl.ids i j h3 hj N8 Hu id AE h hk e
     ·exact pl.ids j i (by omega) hi id AE N8 Hu hk h e.symm
    rw[A6 J _ Bs];exact x.hi.al0 i hi N8 Hu h (fun hd=>hn (.inr hd))
   ·intro i hi hle N8 Hu h hd
    by_cases e:i=j
    ·subst e;rw[hk]at h;cases h;refine⟨r0,S,obj,hself,hpu.get,hbr,?_⟩;intro b' S' AS
     by_cases e2:b'=id
     ·exact e2
     ·rw[A6 J _ e2]at AS;have:=x.hi.rel.lt_size AS;omega
    ·have hd':D i:=by rcases hd with e2|hd;exact absurd e2 e;exact hd
     obtain⟨r,S',ob,g1,g2,g3,g4⟩:=x.hi.al1 i hi hle N8 Hu h hd';have hr:=x.hi.rel.lt_size g1;refine⟨r,S',ob,DU _ _ g1,by rw[hpu.same _ hr];exact g2,g3.mono DU,?_⟩;intro b' S'' AS
     by_cases e2:b'=id
     ·subst e2;rw[Ay]at AS;cases AS;omega
     ·rw[A6 J _ e2]at AS;exact g4 b' S'' AS
 |e=>
  have hpj:p<=j:=by
   rcases Nat.lt_or_ge j p with h|h
   ·exact absurd ((x.done j hj hk).2 h) hnj
   ·exact h
  have He:p=j:=by
   rcases x.Zi with e|he
   ·omega
   ·by_cases e:p=j
    ·exact e
    ·have hd:=PV p (pl.chain p j (by omega) hj he hk);have:=(x.done p (by omega) he).1 hd;omega
  subst He;obtain⟨v',w',J',hs,hv,IQ,GJ⟩:=pl.AqY p hj hk J w a b rest kk cs x.hi.rel Gz;have DU:=GJ.sub x.hi.rel;have base1:HI C U ops.size row Jq0 h0 w0 (fun i=>i=p\/D i) (p+1) J' w':=by
   refine⟨IQ,x.hi.ext.trans IS x.hi.rel GJ,?_,?_,?_,Nat.le_trans x.hi.al3 GJ.next⟩
   ·intro i hi id AE h hn;have h1:=(pl.NA i hi id AE h).2.2.1;rw[GJ.CW id (IM h1 x.hi.al3)];exact x.hi.al0 i hi id AE h (fun hd=>hn (.inr hd))
   ·intro i hi hle id AE h hd;have hd':D i:=by rcases hd with e2|hd;omega;exact hd
    obtain⟨r,S,ob,g1,g2,g3,g4⟩:=x.hi.al1 i hi (by omega) id AE h hd';have hdead:=x.hi.al2 i hi (by omega) id AE h;have hrlt:=x.hi.rel.lt_size g1;refine⟨r,S,ob,DU _ _ g1,?_,g3.mono DU,?_⟩
    ·rw[GJ.frame r hrlt ?_ (x.hi.rel.Am.ours g1)]
     ·exact g2
     ·intro b' S' AS hl;have:=g4 b' S' AS;subst this;exact hdead hl
    ·intro b' S' AS
     by_cases OF:b'<(row p).h.next
     ·rw[GJ.CW b' OF]at AS;exact g4 b' S' AS
     ·rcases GJ.new b' r S' (by omega) AS with h1|⟨b0,S0,h1,h2⟩
      ·omega
      ·have:=g4 b0 S0 h1;subst this;exact absurd h2 hdead
   ·intro i hi hle id AE h hl;have h1:=(pl.NA i hi id AE h).2.2.1;exact x.hi.al2 i hi (by omega) id AE h (GJ.live id (IM h1 x.hi.al3) hl)
  obtain⟨q,q1,q2,q3,q4⟩:=Sl row ops.size (ops.size-(p+1)) (p+1) (by omega);refine⟨q,J',v',w',hs,q2,q3,?_,Au,FF,by rw[put_defers];exact x.defers,base1.adv pl hb q q1 q2 q4,x.ti.next pl x.closed x.lt hj PV hnj DU hv⟩;intro i hi he;constructor
  ·rintro (e|hd)
   ·subst e;omega
   ·have:=(x.done i hi he).1 hd;omega
  ·intro OF
   by_cases e:i=p
   ·exact .inl e
   ·rcases Nat.lt_or_ge i p with h1|h1
    ·exact .inr ((x.done i hi he).2 h1)
    ·exact absurd he (q4 i (by omega) OF)
end
end Eng
namespace Eng
open Go
variable {J J':A1} {U:An} {C:AB} {P:Program} {nl nt:Nat}
variable {ops:Array Oper} {row:Nat->Row} {Kl:Nat->Nat->Prop} {base:Nat} {Jq0:A1} {h0:H} {w0:World} {a0:Act} {D:Nat->Prop} {p:Nat} {a:Act} {w:World}
structure Fin(C:AB)(U:An)(nt nl:Nat)(ops:Array Oper)(R:Row)(Jq0:A1)(h0:H)(w0:World)(a0:Act)(J:A1)(a:Act)(w:World):Prop where
 size:nt<=a.tmps.size
 defers:a.defers=a0.defers
 tmp:∀t u,R.look nl t=some u->AcP J U a t u
 rel:Rel J U C R.h w
 ext:Ext U Jq0 J h0 R.h w0 w
theorem PI.fin(pl:Oo C P U nt nl ops row Kl base)(x:PI C U nt nl ops row Kl Jq0 h0 w0 a0 D p J a w)(D8:∀i,i<ops.size->D i):Fin C U nt nl ops (row ops.size) Jq0 h0 w0 a0 J a w:=by
 have hp:p=ops.size:=by
  rcases x.Zi with e|he
  ·exact e
  ·rcases Nat.lt_or_ge p ops.size with h|h
   ·have:=(x.done p h he).1 (D8 p h);omega
   ·have:=x.ple;omega
 subst hp;exact⟨x.ti.size,x.defers,fun t u hu=>x.ti.look pl ops.size (Nat.le_refl _) (fun i hi _=>D8 i hi) (fun k hk hle _=>by have:=x.lt k hk;omega) u hu,x.hi.rel,x.hi.ext⟩
theorem AdU(pl:Oo C P U nt nl ops row Kl base){AO:Array Bool}(Dr:AO.size=ops.size)(hr:Region.ready .any ops AO=[]):∀i,i<ops.size->AO.getD i false=true:=by
 intro i
 induction i using Nat.strongRecOn with
 |_ i ih=>
  intro hi
  by_cases hd:AO.getD i true=false
  ·exfalso;have:i∈Region.ready .any ops AO:=by
    rw[mem_ready];refine⟨hd,ops[i],Array.getElem?_eq_getElem hi,?_⟩;intro e he hb;have:=pl.fwd i _ (Array.getElem?_eq_getElem hi) e he hb;exact ih e.on this (by omega)
   rw[hr]at this;cases this
  ·have hi':i<AO.size:=by omega
   simp[hi']at hd ⊢;exact hd
def unl(n:Nat)(AO:Array Bool):Nat:=((List.range n).filter fun i=> !AO.getD i true).length
theorem Ak2{n:Nat}{AO:Array Bool}{j:Nat}(hj:j<n)(Dr:AO.size=n)(hu:AO.getD j true=false):unl n (AO.setIfInBounds j true)+1<=unl n AO:=by
 unfold unl;have h1:(List.range n).filter (fun i=> !(AO.setIfInBounds j true).getD i true)=((List.range n).filter fun i=> !AO.getD i true).filter (fun i=>i != j):=by
  rw[List.filter_filter];refine List.filter_congr ?_;intro i hi
  by_cases e:j=i
  ·subst e;have:j<AO.size:=by omega
   simp[this]
  ·rw[getD_set_ne true e];have e2:i ≠ j:=fun h=>e h.symm
   simp[e2]
 rw[h1];have h2:j∈(List.range n).filter fun i=> !AO.getD i true:=by
  rw[List.mem_filter,List.mem_range];exact⟨hj,by rw[hu];rfl⟩
 have:((((List.range n).filter fun i=> !AO.getD i true).filter (fun i=>i != j))).length<((List.range n).filter fun i=> !AO.getD i true).length:=by
  rw[List.length_filter_lt_length_iff_exists];exact⟨j,h2,by simp⟩
 omega
theorem AhU{n:Nat}{AO:Array Bool}(Dr:AO.size=n)(h:unl n AO=0):∀i,i<n->AO.getD i false=true:=by
 intro i hi;unfold unl at h;have h0:=List.eq_nil_of_length_eq_zero h;have:∀x∈List.range n,¬((!AO.getD x true)=true):=List.filter_eq_nil_iff.1 h0
 have:=this i (List.mem_range.2 hi);have hi':i<AO.size:=by omega
 simpa [hi'] using this
theorem PI.congr{D':Nat->Prop}(h:∀i,D i↔D' i)(x:PI C U nt nl ops row Kl Jq0 h0 w0 a0 D p J a w):PI C U nt nl ops row Kl Jq0 h0 w0 a0 D' p J a w:=by
 have:D=D':=funext fun i=>propext (h i)
 rw[<-this];exact x
theorem AiS(pl:Oo C P U nt nl ops row Kl base)(hb:h0.next<=base)(IS:Rel Jq0 U C h0 w0)(b:Frame)(k:List Item)(cs:List Frame):∀(fuel t:Nat) (AO:Array Bool) (p:Nat) (J:A1) (a:Act) (w:World),AO.size=ops.size->unl ops.size AO<=fuel->
 PI C U nt nl ops row Kl Jq0 h0 w0 a0 (fun i=>AO.getD i false=true) p J a w->
 ∃J' a' w',Fin C U nt nl ops (row ops.size) Jq0 h0 w0 a0 J' a' w'/\Steps P (lone (b.atR a (.inRegion ops (Region.linearise.go .any ops fuel t AO [])::k)) cs w) (lone (b.atR a' k) cs w'):=by
 intro fuel
 induction fuel with
 |zero=>
  intro t AO p J a w Dr hu x;exact⟨J,a,w,x.fin pl (AhU Dr (by omega)),by simp only[Region.linearise.go,List.reverse_nil];exact .one stepR_region_end⟩
 |succ fuel ih=>
  intro t AO p J a w Dr hu x;simp only[Region.linearise.go];change ∃J' a' w',Fin C U nt nl ops (row ops.size) Jq0 h0 w0 a0 J' a' w'/\Steps P (lone (b.atR a (.inRegion ops (match (Region.ready .any ops AO)[t % (Region.ready .any ops AO).length]? with
   |some i=>Region.linearise.go .any ops fuel (t / (Region.ready .any ops AO).length) (AO.setIfInBounds i true) [i]
   |none=>[].reverse)::k)) cs w) (lone (b.atR a' k) cs w')
  cases hi:(Region.ready .any ops AO)[t % (Region.ready .any ops AO).length]? with
  |none=>
   have hnil:Region.ready .any ops AO=[]:=by
    cases hr:Region.ready .any ops AO with
    |nil=>rfl
    |cons x xs=>
     rw[hr]at hi;have Au:t % (x::xs).length<(x::xs).length:=Nat.mod_lt _ (by simp);simp at hi;simp at Au;omega
   exact⟨J,a,w,x.fin pl (AdU pl Dr hnil),.one stepR_region_end⟩
  |some j=>
   simp only[];rw[linearise_go_acc,List.reverse_singleton,List.singleton_append];obtain⟨hun,o,ho,D8⟩:=mem_ready.1 (Oj hi);have hj:j<ops.size:=(Ht.1 ho).1;have hjl:j<AO.size:=by omega
   have hnj:¬(AO.getD j false=true):=by simpa [hjl] using hun
   have PV:∀k,Kl j k->AO.getD k false=true:=by
    intro k hk;obtain⟨o',HQ,e,he,hbi,h⟩:=pl.clo j k hk;rw[ho]at HQ;cases HQ;have hd:=D8 e he hbi;rcases h with h|h
    ·subst h;exact hd
    ·exact x.closed e.on k hd h
   obtain⟨p',J',v',w',hs,x'⟩:=x.step pl hb IS hj hnj PV b (Region.linearise.go .any ops fuel (t / (Region.ready .any ops AO).length) (AO.setIfInBounds j true) []) k cs;obtain⟨J'',a'',w'',hf,hss⟩:=ih (t / (Region.ready .any ops AO).length) (AO.setIfInBounds j true) p' J' _ w' (by simp[Dr]) (by have:=Ak2 hj Dr hun;omega) (x'.congr (by
    intro i
    by_cases e:j=i
    ·subst e;simp[hjl]
    ·rw[getD_set_ne false e];constructor
     ·rintro (h|h);exact absurd h.symm e;exact h
     ·exact .inr))
   exact⟨J'',a'',w'',hf,Steps.trans hs hss⟩
theorem Afk(pl:Oo C P U nt nl ops row Kl base)(hb:h0.next<=base)(IS:Rel Jq0 U C h0 w0)(ET:Rel Jq0 U C (row 0).h w0)(hext:Ext U Jq0 Jq0 h0 (row 0).h w0 w0)(Dr:nt<=a0.tmps.size)
 (htmp:∀t u,(row 0).look nl t=some u->AcP Jq0 U a0 t u) (b:Frame) (t:Nat) (k:List Item) (cs:List Frame):
 ∃J' a' w',Fin C U nt nl ops (row ops.size) Jq0 h0 w0 a0 J' a' w'/\Steps P (lone (b.atR a0 (.inRegion ops (Region.linearise .any ops t)::k)) cs w0) (lone (b.atR a' k) cs w'):=by
 have Ib:∀id,base<=id->Jq0 id=none:=fun id h=>IS.EY (by omega)
 have hi0:HI C U ops.size row Jq0 h0 w0 (fun _=>False) 0 Jq0 w0:=
  ⟨ET,hext,fun j hj id AE h _=>Ib id (pl.NA j hj id AE h).2.1,fun _ _ _ _ _ _ h=>h.elim,fun j hj _ id AE h=>pl.ApB id (pl.NA j hj id AE h).2.1 (pl.NA j hj id AE h).2.2.1,Nat.le_refl _⟩
 obtain⟨q,q1,q2,q3,q4⟩:=Sl row ops.size ops.size 0 (by omega);have Cp:∀i,(Array.replicate ops.size false).getD i false=false:=by
  intro i
  by_cases h:i<ops.size
  ·simp[h]
  ·simp[h]
 refine AiS pl hb IS b k cs ops.size t (Array.replicate ops.size false) q Jq0 a0 w0 (by simp) ?_ ?_
 ·unfold unl;have:=List.length_filter_le (fun i=> !(Array.replicate ops.size false).getD i true) (List.range ops.size);simpa using this
 ·refine PI.congr (D:=fun _=>False) (fun i=>by rw[Cp];simp) ⟨q2,q3,?_,fun _ h=>h.elim,fun _ _ h=>h.elim,rfl,hi0.adv pl hb q q1 q2 q4,⟨Dr,fun t u _ hu=>htmp t u hu,fun _ _ h=>h.elim⟩⟩;intro i hi he;constructor
  ·intro h;exact h.elim
  ·intro h;exact absurd he (q4 i (Nat.zero_le _) h)
end Eng
namespace Eng
open Go
variable {J J':A1} {U:An} {C:AB} {P:Program} {nl nt:Nat}
variable {ops:Array Oper} {row:Nat->Row}
theorem EI(m i:Nat):AU m i=m.testBit i:=by
 have h1:AU m i=Nat.beq (m >>> i % 2) 1:=rfl;rw[h1,Nat.testBit,Nat.one_and_eq_mod_two];have:m >>> i % 2=0\/m >>> i % 2=1:=Nat.mod_two_eq_zero_or_one _;rcases this with h|h<;>rw[h]<;>rfl
theorem CD(m n i:Nat):AU (Nat.lor m n) i=(AU m i||AU n i):=by
 rw[EI,EI,EI];exact Nat.testBit_or m n i
theorem Pw(m n i:Nat):AU (Nat.land m n) i=(AU m i&&AU n i):=by
 rw[EI,EI,EI];exact Nat.testBit_and m n i
theorem H3(j i:Nat):AU (bit j) i=true↔i=j:=by
 rw[EI];have h1:bit j=2^j:=by show 1 <<< j=_;rw[Nat.one_shiftLeft]
 rw[h1,Nat.testBit_two_pow];simp[eq_comm]
theorem K5(i:Nat):AU 0 i=false:=by rw[EI];exact Nat.zero_testBit i
theorem Td{a b:Nat}(h:within a b=true){i:Nat}(hi:AU a i=true):AU b i=true:=by
 have h1:Nat.land a b=a:=beq_eq h;rw[<-h1,Pw]at hi;simp only[Ah]at hi;exact hi.2
theorem Ou{a b:Nat}(h:IZ a b=true){i:Nat}(ha:AU a i=true)(hb:AU b i=true):False:=by
 have h1:Nat.land a b=0:=beq_eq h;have h2:=Pw a b i;rw[h1,ha,hb,K5]at h2;cases h2
inductive UH(ops:Array Oper):Nat->Nat->Prop
 |ApX {j o e}:ops[j]? =some o->e∈o.after->Region.binds .any e=true->UH ops j e.on
 |trans {j o e i}:ops[j]? =some o->e∈o.after->Region.binds .any e=true->UH ops e.on i->UH ops j i
theorem TF(e:Edge):Ku e=Region.binds .any e:=by
 unfold Ku Region.binds;cases e.ground<;>rfl
def Tp(ops:Array Oper)(ms:T Nat):Prop:=∀i m,T.get ms i=some m->∀k,AU m k=true->UH ops i k
theorem FU{ms:T Nat}(hm:Tp ops ms){j:Nat}{o:Oper}(ho:ops[j]? =some o){k:Nat}(hk:AU (B4 ms o) k=true):UH ops j k:=by
 have key:∀l:List Edge,(∀e∈l,e∈o.after)->AU (@List.rec Edge (fun _=>Nat) 0 (fun e _ r=>@Bool.rec (fun _=>Nat) r (Nat.lor (Nat.lor r (bit e.on)) (orD (T.get ms e.on))) (Ku e)) l) k=true->UH ops j k:=by
  intro l
  induction l with
  |nil=>
   intro _ h;have h':AU 0 k=true:=h;rw[K5]at h';cases h'
  |cons e l ih=>
   intro hl h;have ih':=ih fun e he=>hl e (Gq _ he)
   cases hb:Ku e with
   |false=>
    simp only[hb]at h;exact ih' h
   |true=>
    simp only[hb]at h;rw[CD,CD]at h;have hbe:Region.binds .any e=true:=by rw[<-TF];exact hb
    have Cu:=hl e (by simp);simp only[Bool.or_eq_true]at h;rcases h with (h|h)|h
    ·exact ih' h
    ·rw[(H3 _ _).1 h];exact .ApX ho Cu hbe
    ·cases hg:T.get ms e.on with
     |none=>rw[hg]at h;rw[show AU (orD none) k=AU 0 k from rfl,K5]at h;cases h
     |some m=>rw[hg]at h;exact .trans ho Cu hbe (hm e.on m hg k h)
 exact key o.after.toList (fun e he=>by simpa using he) hk
theorem Tp.set{ms:T Nat}(hm:Tp ops ms){j:Nat}{o:Oper}(ho:ops[j]? =some o):Tp ops (ms.set j (B4 ms o)):=by
 intro i m hg k hk;rcases T.DT hg with ⟨e1,e2⟩|⟨_,e2⟩
 ·subst e1;subst e2;exact FU hm ho hk
 ·exact hm i m e2 k hk
theorem Tp.nil:Tp ops .nil:=fun i m h=>by cases h
theorem UH.clo{j i:Nat}(h:UH ops j i):∃o,ops[j]? =some o/\∃e∈o.after,Region.binds .any e=true/\(e.on=i\/UH ops e.on i):=by
 cases h with
 |ApX ho he hb=>exact⟨_,ho,_,he,hb,.inl rfl⟩
 |trans ho he hb h=>exact⟨_,ho,_,he,hb,.inr h⟩
def MF(C:AB)(ops:Array Oper)(j:Nat)(c:Cl):Prop:=∃o,ops[j]? =some o/\Mj C o.op=c
structure Static(C:AB)(ops:Array Oper)(j:Nat):Prop where
 fwd:∀k o,ops[k]? =some o->j<=k->∀e∈o.after,Region.binds .any e=true->e.on<k
 nam:∀i k t,i<k->j<=k->k<ops.size->(Dv ops i t/\(Dv ops k t\/QO ops k t))->UH ops k i
 AjK:∀i k t,i<k->j<=k->k<ops.size->Dv ops k t->QO ops i t->UH ops k i
 chain:∀i k,i<k->j<=k->MF C ops i .e->MF C ops k .e->UH ops k i
 alloc:∀i k,i<k->j<=k->MF C ops i .a->MF C ops k .e->UH ops k i
theorem KV{j:Nat}{o:Oper}(ho:ops[j]? =some o){t:Nat}(h:Dv ops j t):AU (Ji o) t=true:=by
 obtain⟨o',HQ,hd⟩:=h;rw[ho]at HQ;cases HQ;unfold Ji;rw[hd];exact (H3 t t).2 rfl
theorem AnW:∀{l:List Nat} {m t:Nat},m∈l->AU m t=true->AU (orL l) t=true:=by
 intro l
 induction l with
 |nil=>intro m t h;cases h
 |cons x l ih=>
  intro m t h hm;rw[show orL (x::l)=Nat.lor x (orL l) from rfl,CD];rcases BL.1 h with e|e
  ·subst e;rw[hm];rfl
  ·rw[ih e hm];simp
theorem P4{j:Nat}{o:Oper}(ho:ops[j]? =some o){t:Nat}(h:QO ops j t):AU (H7 ops.toList o) t=true:=by
 obtain⟨o',HQ,hd⟩:=h;rw[ho]at HQ;cases HQ;unfold H7;rw[CD];unfold Oper.looksAt at hd;rcases List.mem_append.1 hd with h|h
 ·obtain⟨x,hx,hxt⟩:=List.mem_filterMap.1 h;cases x with
  |tmp t'=>
   simp only[Option.some.injEq]at hxt;subst hxt;rw[AnW (m:=bit t') (List.mem_map.2 ⟨.tmp t',hx,rfl⟩) ((H3 _ _).2 rfl)];simp
  |_=>cases hxt
 ·have:AU (Aad ops.toList o) t=true:=by
   unfold Aad;cases hg:o.guard with
   |none=>rw[hg]at h;cases h
   |some jw=>
    obtain⟨g,w⟩:=jw;rw[hg]at h;simp only[Option.mem_toList]at h;cases hgo:ops[g]? with
    |none=>rw[hgo]at h;cases h
    |some go=>
     rw[hgo]at h;have h2:go.dst=some t:=h;have:nth ops.toList g=some go:=by rw[HC];simpa using hgo
     show AU (match nth ops.toList g with |some g=>Ji g|none=>0) t=true;rw[this];exact KV hgo ⟨go,hgo,h2⟩
  rw[this];rfl
theorem Uw{m w n:Nat}:∀{prev:List (Nat×Nat×Nat)},Sr m w n prev=true->∀x∈prev,AU m x.1=true\/(IZ x.2.1 (Nat.lor n w)=true/\IZ w x.2.2=true):=by
 intro prev
 induction prev with
 |nil=>intro _ x hx;cases hx
 |cons y prev ih=>
  intro h x hx;have h':@Bool.rec (fun _=>Bool) (@Bool.rec (fun _=>Bool) false (Sr m w n prev) (AU m y.1)) (Sr m w n prev) (IZ y.2.1 (Nat.lor n w)&&IZ w y.2.2)=true:=h;cases ha:(IZ y.2.1 (Nat.lor n w)&&IZ w y.2.2) with
  |true=>
   rw[ha]at h';rcases BL.1 hx with e|e
   ·subst e;simp only[Ah]at ha;exact .inr ha
   ·exact ih h' x e
  |false=>
   rw[ha]at h';cases hb:AU m y.1 with
   |false=>rw[hb]at h';cases h'
   |true=>
    rw[hb]at h';rcases BL.1 hx with e|e
    ·subst e;exact .inl hb
    ·exact ih h' x e
theorem Ajl{j:Nat}:∀{l:List Edge},AfF j l=true->∀e∈l,Region.binds .any e=true->e.on<j:=by
 intro l
 induction l with
 |nil=>intro _ e he;cases he
 |cons x l ih=>
  intro h e he hb;have h':@Bool.rec (fun _=>Bool) (AfF j l) (@Bool.rec (fun _=>Bool) false (AfF j l) (Nat.blt x.on j)) (Ku x)=true:=h;rcases BL.1 he with e1|e1
  ·subst e1;rw[TF,hb]at h';cases Au:Nat.blt e.on j with
   |false=>rw[Au]at h';cases h'
   |true=>exact Nat.le_of_ble_eq_true Au
  ·refine ih ?_ e e1 hb;cases hx:Ku x with
   |false=>rw[hx]at h';exact h'
   |true=>
    rw[hx]at h';cases Au:Nat.blt x.on j with
    |false=>rw[Au]at h';cases h'
    |true=>rw[Au]at h';exact h'
structure AsY(C:AB)(ops:Array Oper)(j:Nat)(ms:T Nat)(em am:Nat)(prev:List (Nat×Nat×Nat)):Prop where
 ms:Tp ops ms
 em:∀i,i<j->MF C ops i .e->AU em i=true
 am:∀i,i<j->MF C ops i .a->AU am i=true
 prev:∀i o,i<j->ops[i]? =some o->(i,Ji o,H7 ops.toList o)∈prev
theorem AiL:∀(l:List Oper) (j:Nat),ops.toList.drop j=l->∀{ms:T Nat} {em am:Nat} {prev:List (Nat×Nat×Nat)},AsY C ops j ms em am prev->Am8 C ops.toList l j ms em am prev=true->Static C ops j:=by
 intro l
 induction l with
 |nil=>
  intro j hl ms em am prev _ _;have Dr:ops.size<=j:=by
   have:=congrArg List.length hl;simp at this;omega
  refine⟨?_,?_,?_,?_,?_⟩
  ·intro k o ho hk;have:=(Ht.1 ho).1;omega
  ·intro i k t _ _ _;omega
  ·intro i k t _ _ _;omega
  ·rintro i k _ _ _ ⟨o,ho,_⟩
   have:=(Ht.1 ho).1;omega
  ·rintro i k _ _ _ ⟨o,ho,_⟩
   have:=(Ht.1 ho).1;omega
 |cons o l ih=>
  intro j hl ms em am prev x h;have Au:j<ops.size:=by
   rcases Nat.lt_or_ge j ops.size with h1|h1
   ·exact h1
   ·rw[List.drop_eq_nil_of_le (by simpa using h1)]at hl;cases hl
  have IP:ops[j]? =some o:=by
   have:(ops.toList.drop j)[0]? =some o:=by rw[hl];rfl
   simpa using this
  have Py:ops.toList.drop (j+1)=l:=by
   have:=congrArg (List.drop 1) hl;simpa [List.drop_drop] using this
  have h':(AfF j o.after.toList&&(inE (Mj C o.op) em am (B4 ms o)&&(Sr (B4 ms o) (Ji o) (H7 ops.toList o) prev&&
   Am8 C ops.toList l (j+1) (ms.set j (B4 ms o)) (Apn (Mj C o.op) em j) (Apl (Mj C o.op) am j) ((j,Ji o,H7 ops.toList o)::prev))))=true:=h
  simp only[Ah]at h';obtain⟨h1,h2,h3,h4⟩:=h';have hcls:∀c,MF C ops j c↔Mj C o.op=c:=by
   intro c;constructor
   ·rintro ⟨o',HQ,hc⟩;rw[IP]at HQ;cases HQ;exact hc
   ·intro hc;exact⟨o,IP,hc⟩
  have s:=ih (j+1) Py ⟨x.ms.set IP,?_,?_,?_⟩ h4
  ·refine⟨?_,?_,?_,?_,?_⟩
   ·intro k o' HQ hk e he hb
    by_cases ek:k=j
    ·subst ek;rw[IP]at HQ;cases HQ;exact Ajl h1 e (by simpa using he) hb
    ·exact s.fwd k o' HQ (by omega) e he hb
   ·intro i k t hik hk hks ht
    by_cases ek:k=j
    ·subst ek;have hi:=(Array.getElem?_eq_getElem (xs:=ops) (i:=i) (by omega));rcases Uw h3 _ (x.prev i _ hik hi) with h5|⟨h5,h6⟩
     ·exact FU x.ms IP h5
     ·exfalso;have e1:=KV hi ht.1;rcases ht.2 with h7|h7
      ·exact Ou h5 e1 (by rw[CD,KV IP h7];simp)
      ·exact Ou h5 e1 (by rw[CD,P4 IP h7];rfl)
    ·exact s.nam i k t hik (by omega) hks ht
   ·intro i k t hik hk hks hd ht
    by_cases ek:k=j
    ·subst ek;have hi:=(Array.getElem?_eq_getElem (xs:=ops) (i:=i) (by omega));rcases Uw h3 _ (x.prev i _ hik hi) with h5|⟨h5,h6⟩
     ·exact FU x.ms IP h5
     ·exact (Ou h6 (KV IP hd) (P4 hi ht)).elim
    ·exact s.AjK i k t hik (by omega) hks hd ht
   ·intro i k hik hk hi Cs
    by_cases ek:k=j
    ·subst ek;have hc:=(hcls _).1 Cs;rw[hc]at h2;have h2':(within em (B4 ms o)&&within am (B4 ms o))=true:=h2;simp only[Ah]at h2';exact FU x.ms IP (Td h2'.1 (x.em i hik hi))
    ·exact s.chain i k hik (by omega) hi Cs
   ·intro i k hik hk hi Cs
    by_cases ek:k=j
    ·subst ek;have hc:=(hcls _).1 Cs;rw[hc]at h2;have h2':(within em (B4 ms o)&&within am (B4 ms o))=true:=h2;simp only[Ah]at h2';exact FU x.ms IP (Td h2'.2 (x.am i hik hi))
    ·exact s.alloc i k hik (by omega) hi Cs
  ·intro i hi hci
   by_cases ei:i=j
   ·subst ei;rw[(hcls _).1 hci];show AU (Nat.lor em (bit i)) i=true;rw[CD,(H3 i i).2 rfl];simp
   ·have h0:=x.em i (by omega) hci;cases Mj C o.op with
    |e=>show AU (Nat.lor em (bit j)) i=true
        rw[CD,h0];rfl
    |_=>exact h0
  ·intro i hi hci
   by_cases ei:i=j
   ·subst ei;rw[(hcls _).1 hci];show AU (Nat.lor am (bit i)) i=true;rw[CD,(H3 i i).2 rfl];simp
   ·have h0:=x.am i (by omega) hci;cases Mj C o.op with
    |a=>show AU (Nat.lor am (bit j)) i=true
        rw[CD,h0];rfl
    |_=>exact h0
  ·intro i o' hi HQ
   by_cases ei:i=j
   ·subst ei;rw[IP]at HQ;cases HQ;simp
   ·exact Gq _ (x.prev i o' (by omega) HQ)
end Eng
namespace Eng
open Go
variable {J J':A1} {U:An} {C:AB} {P:Program} {nl nt:Nat} {rec:Rec} {X:Ctx}
variable {ops:Array Oper} {row:Nat->Row}
theorem FD{d:Option Tmp}{go:PK}{pt:T AV}{tl:TL}{v:AV}{h:H}{r:Rs}(hk:Kc (Jd nt nl d) go pt tl v h=some r):
 ∃Lf Lr,go Lf Lr h=some r/\(∀t,d=some t->t<nt)/\∀t u,(Dn nl t).val Lf Lr=some u->(d=some t/\u=v)\/(d ≠ some t/\(Dn nl t).val pt tl=some u):=by
 cases d with
 |none=>exact⟨pt,tl,hk,(fun _ h=>nomatch h),fun t u hu=>.inr ⟨(fun h=>nomatch h),hu⟩⟩
 |some d=>
  cases hb:Nat.blt d nt with
  |false=>
   have:Jd nt nl (some d)=.bad:=by show (bif Nat.blt d nt then _ else _)=_;rw[hb];rfl
   rw[this]at hk;cases hk
  |true=>
   have hdt:Nat.succ d<=nt:=Nat.le_of_ble_eq_true hb;refine (?_:∃Lf Lr,go Lf Lr h=some r/\∀t u,(Dn nl t).val Lf Lr=some u->(some d=some t/\u=v)\/(some d ≠ some t/\(Dn nl t).val pt tl=some u)).elim fun Lf ⟨Lr,g1,g2⟩=>⟨Lf,Lr,g1,(fun t ht=>by cases ht;exact hdt),g2⟩
   cases hl:Nat.blt d nl with
   |true=>
    have:Jd nt nl (some d)=.lo d:=by show (bif Nat.blt d nt then (bif Nat.blt d nl then Zy.lo d else .tm d) else .bad)=_;rw[hb,hl];rfl
    rw[this]at hk;refine⟨T.set pt d v,tl,hk,?_⟩;intro t u hu;unfold Dn at hu ⊢;cases ht:Nat.blt t nl with
    |true=>
     rw[ht]at hu;rcases T.DT (show T.get (T.set pt d v) t=some u from hu) with ⟨e1,e2⟩|⟨e1,e2⟩
     ·exact .inl ⟨by rw[e1],e2⟩
     ·exact .inr ⟨fun e=>e1 (by cases e;rfl),e2⟩
    |false=>
     rw[ht]at hu;refine .inr ⟨?_,hu⟩;intro e;cases e;rw[hl]at ht;cases ht
   |false=>
    have:Jd nt nl (some d)=.tm d:=by show (bif Nat.blt d nt then (bif Nat.blt d nl then Zy.lo d else .tm d) else .bad)=_;rw[hb,hl];rfl
    rw[this]at hk;refine⟨pt,.cons d v tl,hk,?_⟩;intro t u hu;unfold Dn at hu ⊢;cases ht:Nat.blt t nl with
    |true=>
     rw[ht]at hu;refine .inr ⟨?_,hu⟩;intro e;cases e;rw[hl]at ht;cases ht
    |false=>
     rw[ht]at hu;have CT:(TL.cons d v tl).find t=some u:=hu
     by_cases e:d=t
     ·subst e;simp[TL.find]at CT;exact .inl ⟨rfl,CT.symm⟩
     ·simp[TL.find,e]at CT;exact .inr ⟨fun e2=>e (by cases e2;rfl),CT⟩
theorem Env.opd{j:Nat}{o:Oper}(ho:ops[j]? =some o){R:Row}{a:Act}(x:Env ops J U nt nl j R a):Gp J U nl o.op R.pt R.tl a.eval:=by
 intro y hy u hu;cases y with
 |tmp t=>
  obtain⟨v,h1,h2⟩:=x.2 t ⟨o,ho,List.mem_append.2 (.inl (List.mem_filterMap.2 ⟨.tmp t,by simpa using hy,rfl⟩))⟩ u hu;have:a.eval (.tmp t)=v:=by
   show a.tmps.getD t undef=v;rw[Array.getD_eq_getD_getElem?,h1];rfl
  rw[this];exact h2
 |const v=>
  have h':(match valueOf v with |some v=>Od.c v|none=>.bad).val R.pt R.tl=some u:=hu;split at h'
  ·rename_i w hw;cases h';exact UE hw
  ·cases h'
 |func f=>cases hu;exact⟨[],rfl,.nil⟩
 |global g=>cases hu
theorem Ano{j:Nat}{o:Oper}(ho:ops[j]? =some o){g:Option Gd}{d:Zy}{op:Kk}(h:Ox C nt nl ops.toList o=.mk g d op):d=Jd nt nl o.dst/\op=ZG C nl o.op/\
 ∀{pt:T AV} {tl:TL} {yes no:OR} {r:Rs},RD g pt tl yes no=some r->
  (yes=some r/\∀(J:A1) (U:An) (R:Row) (a:Act),R.pt=pt->R.tl=tl->Env ops J U nt nl j R a->Region.wanted o (yielded ops a.tmps)=true)\/
  (no=some r/\∀(J:A1) (U:An) (R:Row) (a:Act),R.pt=pt->R.tl=tl->Env ops J U nt nl j R a->Region.wanted o (yielded ops a.tmps)=false):=by
 cases hg:o.guard with
 |none=>
  have:Ox C nt nl ops.toList o=.mk none (Jd nt nl o.dst) (ZG C nl o.op):=by unfold Ox;rw[hg]
  rw[this]at h;cases h;refine⟨rfl,rfl,?_⟩;intro pt tl yes no r hk;exact .inl ⟨hk,fun J U R a _ _ _=>by simp[Region.wanted,hg]⟩
 |some jw=>
  obtain⟨gj,want⟩:=jw;have hcop:Ox C nt nl ops.toList o=(match nth ops.toList gj with
   |some g=>match g.dst with
    |some d=>.mk (some ⟨Dn nl d,want⟩) (Jd nt nl o.dst) (ZG C nl o.op)
    |none=>.bad
   |none=>.bad):=by unfold Ox;rw[hg];rfl
  rw[hcop]at h;split at h
  ·rename_i go hgj;split at h
   ·rename_i dd hgd;cases h;refine⟨rfl,rfl,?_⟩;rw[HC]at hgj;have hgj':ops[gj]? =some go:=by simpa using hgj
    intro pt tl yes no r hk;obtain⟨u,hu,AW⟩:=Aq (show ev (Dn nl dd) pt tl _=some r from hk);have hyl:∀(J:A1) (U:An) (R:Row) (a:Act),R.pt=pt->R.tl=tl->Env ops J U nt nl j R a->∃va,Bb J U u va/\(yielded ops a.tmps gj=some want↔va=.bool want):=by
     intro J U R a e1 e2 x;have hlook:QO ops j dd:=⟨o,ho,List.mem_append.2 (.inr (by rw[hg];simp[hgj',hgd]))⟩;obtain⟨va,h1,h2⟩:=x.2 dd hlook u (by unfold Row.look;rw[e1,e2];exact hu);refine⟨va,h2,?_⟩;simp only[yielded,hgj',Option.bind_some,hgd,h1];cases va<;>simp
    rcases Ca AW with ⟨hb,B9⟩|⟨hb,B9⟩
    ·obtain⟨hkn,B9⟩:=Ap B9;refine .inr ⟨B9,?_⟩;intro J U R a e1 e2 x;obtain⟨va,h2,h3⟩:=hyl J U R a e1 e2 x;have Bs:=Tc h2 hb hkn;have:yielded ops a.tmps gj ≠ some want:=fun e=>Bs (h3.1 e)
     simp[Region.wanted,hg,this]
    ·refine .inl ⟨B9,?_⟩;intro J U R a e1 e2 x;obtain⟨va,h2,h3⟩:=hyl J U R a e1 e2 x;have he:=Ta h2 hb;simp[Region.wanted,hg,h3.2 he]
   ·cases h
  ·cases h
theorem M4{j:Nat}{o:Oper}(ho:ops[j]? =some o){b:Frame}{a:Act}{w:World}{Q:Value->World->Prop}(hd:Aew P o b a w Q)(hw:Region.wanted o (yielded ops a.tmps)=true)(rest:List Nat)(k:List Item)(cs:List Frame):
 ∃v w',Q v w'/\Ga P ops j b rest k cs a w v w':=by
 obtain⟨v,w',q,h⟩:=hd ops j rest k cs ho hw;refine⟨v,w',q,?_⟩;unfold Ga;rw[ho];exact h
theorem M5{j:Nat}{o:Oper}(ho:ops[j]? =some o){b:Frame}{a:Act}{w w':World}{v:Value}(hd:∀c,o.op ≠ .defer c)(he:Fk P a.eval o w v w')(hw:Region.wanted o (yielded ops a.tmps)=true){rest:List Nat}{k:List Item}{cs:List Frame}:
 Ga P ops j b rest k cs a w v w':=by
 obtain⟨v2,w2,⟨rfl,rfl⟩,h⟩:=M4 ho (Nb (b:=b) (Q:=fun x y=>x=v/\y=w') hd he ⟨rfl,rfl⟩) hw rest k cs;exact h
theorem SS{j:Nat}{o:Oper}(ho:ops[j]? =some o){b:Frame}{a:Act}{w:World}(hw:Region.wanted o (yielded ops a.tmps)=false){rest:List Nat}{k:List Item}{cs:List Frame}:Ga P ops j b rest k cs a w undef w:=
 .one (stepR_op_skip (by simp[ho,hw]))
def Sam(rec:Rec)(X:Ctx)(q:Pn)(h:H):Prop:=∃k r,Aec rec X q h k=some r
theorem Mv{o:Oper}{c:Cl}(h:MU o.op=c)(hc:c ≠ .e):∀x,o.op ≠ .defer x:=by
 intro x e;rw[e]at h;exact hc h.symm
theorem Ahy(hc:A4 P C U){j:Nat}{o:Oper}(ho:ops[j]? =some o)(FF:MU o.op=.r){R:Row}{h:H}
 (hw:∀(J:A1) (a:Act),Env ops J U nt nl j R a->Region.wanted o (yielded ops a.tmps)=true)
 (hs:Sam rec X ⟨j,ZG C nl o.op,R.pt,R.tl,R.v⟩ h):Abg C P U nt nl ops j R h:=by
 obtain⟨k,r,hk⟩:=hs;obtain⟨v,h1,h2⟩:=AkM (C:=C) (nl:=nl) FF rec X (fun v _=>Dy (AV.AJ R.v v) k) R.pt R.tl h r hk;have Cs:A5 (ZG C nl o.op) rec X (fun v _=>Dy (AV.AJ R.v v) k) R.pt R.tl h=some r:=hk;rw[h1]at Cs;have he:=AV.Ac (Ap Cs).1;intro J w a b rest k cs hr Gz;obtain⟨v',h3,h4⟩:=h2 P U J a.eval w hc hr (Gz.opd ho);exact⟨v',M5 ho (Mv FF (by simp)) h3 (hw J a Gz),by rw[he];exact h4⟩
theorem AgL{j:Nat}{o:Oper}(ho:ops[j]? =some o){R:Row}{h:H}
 (hw:∀(J:A1) (a:Act),Env ops J U nt nl j R a->Region.wanted o (yielded ops a.tmps)=false) (hv:R.v=.Dh []):Abg C P U nt nl ops j R h:=by
 intro J w a b rest k cs hr Gz;exact⟨undef,SS ho (hw J a Gz),by rw[hv];exact⟨[],rfl,.nil⟩⟩
def Kd.isE:Kd->Bool
 |.e=>true
 |_=>false
def De(row:Nat->Row):Nat->List (Nat×H)
 | 0=>[]
 |j+1=>match (row j).k with
  |.e=>(j,(row j).h)::De row j
  |_=>De row j
theorem NM{row row':Nat->Row}:∀j,(∀i,i<j->row i=row' i)->De row j=De row' j:=by
 intro j
 induction j with
 |zero=>intro _;rfl
 |succ j ih=>
  intro h;simp only[De];rw[h j (by omega),ih fun i hi=>h i (by omega)]
theorem YV{q:Pn}{o:Oper}(hR:En C nl o (A5 q.op)){h:H}{k:OR}{r:Rs}(hk:Aec rec X q h k=some r):Sam rec X q h/\k=some r:=by
 refine⟨⟨k,r,hk⟩,?_⟩;have Cs:A5 q.op rec X (fun v _=>Dy (AV.AJ q.v v) k) q.pt q.tl h=some r:=hk;obtain⟨v,h1,_⟩:=hR rec X _ q.pt q.tl h r Cs;rw[h1]at Cs;exact (Ap Cs).2
theorem Ai9{m:Nat}{q:Pn}{o:Oper}(hR:En C nl o (A5 q.op)){k:OR}{r:Rs}:∀j,AeI rec X m (De row j) q k=some r->
 k=some r/\∀p,p<j->(row p).k=.e->(∀i,p<=i->i<j->(row i).k=.e->AU m i=false)->Sam rec X q (row p).h:=by
 intro j
 induction j with
 |zero=>intro h;exact⟨h,fun p hp=>by omega⟩
 |succ j ih=>
  intro h;simp only[De]at h;split at h
  ·rename_i he;have h':@Bool.rec (fun _=>OR) (Aec rec X q (row j).h (AeI rec X m (De row j) q k)) k (AU m j)=some r:=h;rcases Ca h' with ⟨hb,h1⟩|⟨hb,h1⟩
   ·obtain⟨hs,h2⟩:=YV hR h1;obtain⟨h3,h4⟩:=ih h2;refine⟨h3,?_⟩;intro p hp hpe Km
    by_cases e:p=j
    ·subst e;exact hs
    ·exact h4 p (by omega) hpe fun i h5 h6=>Km i h5 (by omega)
   ·refine⟨h1,?_⟩;intro p hp hpe Km;have:=Km j (by omega) (by omega) he;rw[hb]at this;cases this
  ·rename_i he;obtain⟨h1,h2⟩:=ih h;refine⟨h1,?_⟩;intro p hp hpe Km
   by_cases e:p=j
   ·subst e;exact absurd hpe he
   ·exact h2 p (by omega) hpe fun i h3 h4=>Km i h3 (by omega)
def Ae3(C:AB)(nl:Nat)(q:Pn):Prop:=∃o,En C nl o (A5 q.op)
theorem Acn{h:H}{k:OR}{r:Rs}:∀{l:List Pn},(∀q∈l,Ae3 C nl q)->Uy rec X l h k=some r->k=some r/\∀q∈l,Sam rec X q h:=by
 intro l
 induction l with
 |nil=>intro _ hk;exact⟨hk,fun q hq=>by cases hq⟩
 |cons q l ih=>
  intro hq hk;obtain⟨o,hR⟩:=hq q (by simp);obtain⟨h1,h2⟩:=YV hR (show Aec rec X q h (Uy rec X l h k)=some r from hk);obtain⟨h3,h4⟩:=ih (fun q' h'=>hq q' (Gq _ h')) h2;refine⟨h3,?_⟩;intro q' h';rcases BL.1 h' with e|e
  ·subst e;exact h1
  ·exact h4 q' e
theorem O8{m:Nat}{q:Pn}:∀{l:List Pn},(q∈LB m l->q∈l)/\(q∈l->AU m q.j=false->q∈LB m l):=by
 intro l
 induction l with
 |nil=>exact⟨id,fun h _=>h⟩
 |cons y l ih=>
  have e:LB m (y::l)=@Bool.rec (fun _=>List Pn) (y::LB m l) (LB m l) (AU m y.j):=rfl;rw[e];cases hb:AU m y.j with
  |true=>
   refine⟨fun h=>Gq _ (ih.1 h),?_⟩;intro h hq;rcases BL.1 h with e|h
   ·subst e;rw[hb]at hq;cases hq
   ·exact ih.2 h hq
  |false=>
   refine⟨?_,?_⟩
   ·intro h;rcases BL.1 h with e|h
    ·subst e;simp
    ·exact Gq _ (ih.1 h)
   ·intro h hq;rcases BL.1 h with e|h
    ·subst e;simp
    ·exact Gq _ (ih.2 h hq)
structure Good(C:AB)(P:Program)(U:An)(nt nl:Nat)(ops:Array Oper)(row:Nat->Row)(i:Nat):Prop where
 cE:(row i).k=.e->MF C ops i .e
 cA:∀id AE,(row i).k=.a id AE->MF C ops i .a
 dst:∀t,Dv ops i t->t<nt
 put:∀t u,(row (i+1)).look nl t=some u->(Dv ops i t/\u=(row i).v)\/(¬Dv ops i t/\(row i).look nl t=some u)
 kR:(row i).k=.r->(row (i+1)).h=(row i).h/\
  ∀p,p<=ops.size->(p=ops.size\/(row p).k=.e)->(∀i',i'<ops.size->(row i').k=.e->UH ops i i'->i'<p)->(∀i',i'<p->(row i').k=.e->¬UH ops i' i)->Abg C P U nt nl ops i (row i) (row p).h
 kA:∀id AE,(row i).k=.a id AE->(row (i+1)).h=(row i).h.put id AE/\(∀t,AE ≠ .Am t)/\AkA C P U nt nl ops i (row i) id AE
 kE:(row i).k=.e->AkB C P U nt nl ops i (row i) (row (i+1)).h
structure Rest(C:AB)(P:Program)(U:An)(nt nl:Nat)(ops:Array Oper)(rec:Rec)(X:Ctx)(marks:List Nat)(lim:Nat)(row:Nat->Row)(j:Nat)(B8:List Pn)(Dd:Nat)(pt:T AV)(tl:TL)(h:H)(r:Rs):Prop where
 here:(row j).pt=pt/\(row j).tl=tl/\(row j).h=h
 res:r=.code .norm ⟨(row ops.size).pt,(row ops.size).tl,marks⟩ (row ops.size).h
 Du:∀i,j<=i->i<ops.size->Good C P U nt nl ops row i
 ids:∀i,j<=i->i<ops.size->∀id AE,(row i).k=.a id AE->Dd<=id/\id<lim/\∀i',i<i'->i'<ops.size->∀N8 Hu,(row i').k=.a N8 Hu->id<N8
 B8:∀q∈B8,∀p,j<=p->p<=ops.size->(p=ops.size\/(row p).k=.e)->(∀i,j<=i->i<p->(row i).k=.e->¬UH ops i q.j)->Sam rec X q (row p).h
def setRow(row:Nat->Row)(j:Nat)(R:Row):Nat->Row:=fun i=>if i=j then R else row i
theorem EH{j:Nat}{o:Oper}(ho:ops[j]? =some o){t:Nat}:Dv ops j t↔o.dst=some t:=by
 constructor
 ·rintro ⟨o',HQ,h⟩;rw[ho]at HQ;cases HQ;exact h
 ·intro h;exact⟨o,ho,h⟩
def trn(J:A1)(n:Nat):A1:=fun b=>if b<n then J b else none
theorem Of{n b:Nat}{y:Nat×Nat}(h:trn J n b=some y):b<n/\J b=some y:=by
 unfold trn at h;split at h
 ·exact⟨by assumption,h⟩
 ·cases h
theorem AaZ{n b:Nat}(h:b<n):trn J n b=J b:=by unfold trn;rw[if_pos h]
theorem Rel.trn{h:H}{w:World}(hr:Rel J U C h w)(n:Nat):Rel (trn J n) U C ⟨.nil,n⟩ w where
 Am:=Hr.none fun b t hg=>nomatch (show (none:Option Aj)=some (.Am t) from hg)
 kept:=fun r o hk=>⟨(hr.kept r o hk).1,fun b S hb=>(hr.kept r o hk).2 b S (Of hb).2⟩
 lt:=fun b r S hb=>(Of hb).1
 AE:=by
  intro b r S hb;obtain⟨o,ho,_⟩:=hr.AE b r S (Of hb).2;exact⟨o,ho,fun x hx=>nomatch (show (none:Option Aj)=some x from hx)⟩
 inj:=by
  intro b b' r S1 S2 _ _ ⟨y,hy,_⟩;exact nomatch (show (none:Option Aj)=some y from hy)
theorem Alp{n:Nat}{a:A}{x:Value}(hk:okC n a=true)(h:AR J U a x):AR (trn J n) U a x:=by
 cases a with
 |ptr b o=>
  obtain⟨r,S,h1,h2⟩:=h;exact⟨r,S,by rw[AaZ (Nat.le_of_ble_eq_true hk)];exact h1,h2⟩
 |fn f l=>
  cases l with
  |nil=>
   obtain⟨vs,h1,h2⟩:=h;cases h2;exact⟨[],h1,.nil⟩
  |cons y l=>cases hk
 |bool b=>exact h
 |int k n=>exact h
 |sym k e=>exact h
 |HB=>exact h
 |_=>cases hk
theorem Aru{n:Nat}{v:AV}{x:Value}(hk:okA n v=true)(h:Bb J U v x):Bb (trn J n) U v x:=by
 cases v with
 |agg l=>cases hk
 |Dh l=>cases hk
 |one a=>exact Alp hk h
theorem AgM{id:Nat}{c:T A}:∀{n:Nat},AnQ id c n=true->∀i a,i<n->T.get c i=some a->okC id a=true:=by
 intro n
 induction n with
 |zero=>intro _ i a hi;omega
 |succ n ih=>
  intro h i a hi hg;have h':@Bool.rec (fun _=>Bool) false (AnQ id c n) (@Option.rec A (fun _=>Bool) true (fun a=>okC id a) (T.get c n))=true:=h;cases hp:(@Option.rec A (fun _=>Bool) true (fun a=>okC id a) (T.get c n)) with
  |false=>rw[hp]at h';cases h'
  |true=>
   rw[hp]at h'
   by_cases e:i=n
   ·subst e;rw[hg]at hp;exact hp
   ·exact ih h' i a (by omega) hg
theorem Arv{id:Nat}{b:Aj}{o:Obj}{S:Nat}(hk:okB id b=true)(h:BR J U C b o S):BR (trn J id) U C b o S:=by
 cases b with
 |cells c n f s=>
  cases s with
  |none=>
   obtain⟨cs,e,h1,h2,h3,h4,h5⟩:=h;refine⟨cs,e,h1,h2,h3,h4,?_⟩;intro i a hi hg;obtain⟨v,h6,h7⟩:=h5 i a hi hg;exact⟨v,h6,Alp (AgM hk i a hi hg) h7⟩
  |some x=>cases hk
 |_=>cases hk
theorem AdJ{n:Nat}:∀{l:List AV},Acb n l=true->∀v∈l,okA n v=true:=by
 intro l
 induction l with
 |nil=>intro _ v hv;cases hv
 |cons a l ih=>
  intro h v hv;have h':@Bool.rec (fun _=>Bool) false (Acb n l) (okA n a)=true:=h;cases ha:okA n a with
  |false=>rw[ha]at h';cases h'
  |true=>
   rw[ha]at h';rcases BL.1 hv with e|e
   ·subst e;exact ha
   ·exact ih h' v e
theorem AhX{pt:T AV}{tl:TL}:∀{l:List Od} {us:List AV},M6 pt tl l=some us->∀x∈l,∃u,x.val pt tl=some u/\u∈us:=by
 intro l
 induction l with
 |nil=>intro us _ x hx;cases hx
 |cons y l ih=>
  intro us h x hx;simp only[M6]at h;split at h
  ·rename_i v vs hv EU;cases h;rcases BL.1 hx with e|e
   ·subst e;exact⟨v,hv,by simp⟩
   ·obtain⟨u,h1,h2⟩:=ih EU x e;exact⟨u,h1,Gq _ h2⟩
  ·cases h
theorem Aca:∀l:List Operand,OT nl l=l.map (od nl)
 | []=>rfl
 |x::l=>by rw[List.map_cons,<-Aca l];rfl
theorem AgS{o:Op}{pt:T AV}{tl:TL}{us:List AV}{n:Nat}{e:Operand->Value}(hus:M6 pt tl (OT nl o.operands.toList)=some us)(Iy:Acb n us=true)(h:Gp J U nl o pt tl e):Gp (trn J n) U nl o pt tl e:=by
 intro x hx u hu;obtain⟨u',h1,h2⟩:=AhX hus (od nl x) (by rw[Aca];exact List.mem_map.2 ⟨x,by simpa using hx,rfl⟩);rw[hu]at h1;cases h1;exact Aru (AdJ Iy u h2) (h x hx u hu)
theorem Amq{j:Nat}{b:Frame}{a:Act}{Dd:Nat}{v:AV}{v':Value}{h':H}{AE:Aj}{w w':World}(Ib:J Dd=none)(hns:AqV Dd v=true)(Iy:okB (Nat.succ Dd) AE=true)(OC:T.get h'.1 Dd=some AE)
 {rest:List Nat} {k:List Item} {cs:List Frame} (hs:Ga P ops j b rest k cs a w v' w') (hv:Bb J' U v v') (hr:Rel J' U C h' w') (he:Ext U (trn J Dd) J' ⟨.nil,Dd⟩ h' w w'):
 ∃w' r obj v' S,Ga P ops j b rest k cs a w v' w'/\Ma w w' r obj/\BR (GG J Dd (r,S)) U C AE obj S/\Bb (GG J Dd (r,S)) U v v':=by
 have hnl:∀b0,¬Live ⟨.nil,Dd⟩ b0:=fun b0 ⟨y,hy,_⟩=>nomatch (show (none:Option Aj)=some y from hy)
 have hm:∃r S,J' Dd=some (r,S):=by
  cases v with
  |agg l=>cases hns
  |Dh l=>cases hns
  |one a=>
   cases a with
   |slice b o l c=>
    obtain⟨r,S,h1,_⟩:=hv;rw[beq_eq (show Nat.beq b Dd=true from hns)]at h1;exact⟨r,S,h1⟩
   |_=>cases hns
 obtain⟨r,S,hm⟩:=hm;obtain⟨obj,h1,h2⟩:=hr.AE Dd r S hm;have K8:w.heap.size<=r:=by
  rcases he.new Dd r S (Nat.le_refl _) hm with h|⟨b0,S0,_,hl⟩
  ·exact h
  ·exact absurd hl (hnl b0)
 have DU:Sub (trn J' (Dd+1)) (GG J Dd (r,S)):=by
  intro c y hc;obtain⟨h3,hq⟩:=Of hc;clear hc
  by_cases e:c=Dd
  ·rw[e]at hq ⊢;rw[hm]at hq;cases hq;exact Ay _ _ _
  ·have h4:c<Dd:=by omega
   have h5:=he.CW c h4;rw[AaZ h4]at h5;rw[A6 J _ e,<-h5];exact hq
 have hv2:Bb (trn J' (Dd+1)) U v v':=by
  cases v with
  |agg l=>cases hns
  |Dh l=>cases hns
  |one a=>
   cases a with
   |slice b o l c=>
    obtain⟨r,S,h1,h2⟩:=hv;have hb:=beq_eq (show Nat.beq b Dd=true from hns);exact⟨r,S,by rw[AaZ (by omega)];exact h1,h2⟩
   |_=>cases hns
 exact⟨w',r,obj,v',S,hs,⟨K8,h1,fun x hx=>he.frame x hx (fun b0 S0 _=>hnl b0) (fun⟨b,t,hg,_⟩=>nomatch (show (none:Option Aj)=some (.Am t) from hg)),he.size,he.os,he.tape,he.output,he.fz⟩,(Arv Iy (h2 AE OC)).mono DU,hv2.mono DU⟩
theorem AdO{marks:List Nat}{lim:Nat}(hX:X.nt=nt/\X.nl=nl)(hc:A4 P C U)(K7:CY C P U rec):∀(l:List Oper) (j:Nat),ops.toList.drop j=l->j<=ops.size->∀(EV:Nat->Row) {ms:T Nat} {B8:List Pn} {Dd:Nat} {pt:T AV} {tl:TL} {h:H} {r:Rs},
 Tp ops ms->(∀q∈B8,Ae3 C nl q)->
 AgV rec X marks lim (ZN C nt nl ops.toList l j ms) (De EV j) B8 Dd pt tl h=some r->
 ∃row,(∀i,i<j->row i=EV i)/\Rest C P U nt nl ops rec X marks lim row j B8 Dd pt tl h r:=by
 intro l
 induction l with
 |nil=>
  intro j hl hjs EV ms B8 Dd pt tl h r _ hq hk;have hj:j=ops.size:=by
   have:=congrArg List.length hl;simp at this;omega
  obtain⟨h1,h2⟩:=Acn hq (show Uy rec X B8 h (some (.code .norm ⟨pt,tl,marks⟩ h))=some r from hk);have hR:setRow EV j ⟨pt,tl,h,.Dh [],.r⟩ j=⟨pt,tl,h,.Dh [],.r⟩:=by simp[setRow]
  refine⟨setRow EV j ⟨pt,tl,h,.Dh [],.r⟩,fun i hi=>by simp[setRow,show i ≠ j by omega],⟨by rw[hR];exact⟨rfl,rfl,rfl⟩,?_,fun i h3 h4=>by omega,fun i h3 h4=>by omega,?_⟩⟩
  ·rw[<-hj,hR];cases h1;rfl
  ·intro q hq p h3 h4 _ _;have:p=j:=by omega
   subst this;rw[hR];exact h2 q hq
 |cons o l ih=>
  intro j hl hjs EV ms B8 Dd pt tl h r L4 hq hk;have Au:j<ops.size:=by
   rcases Nat.lt_or_ge j ops.size with h1|h1
   ·exact h1
   ·rw[List.drop_eq_nil_of_le (by simpa using h1)]at hl;cases hl
  have IP:ops[j]? =some o:=by
   have:(ops.toList.drop j)[0]? =some o:=by rw[hl];rfl
   simpa using this
  have Py:ops.toList.drop (j+1)=l:=by
   have:=congrArg (List.drop 1) hl;simpa [List.drop_drop] using this
  have fin:∀(R:Row) (pend':List Pn) (nid':Nat) (Lf:T AV) (Lr:TL) (h':H),R.pt=pt->R.tl=tl->R.h=h->
   AgV rec X marks lim (ZN C nt nl ops.toList l (j+1) (ms.set j (B4 ms o))) (De (setRow EV j R) (j+1)) pend' nid' Lf Lr h'=some r->
   (∀q∈pend',Ae3 C nl q)->
   (∀row,row j=R->(∀i,i<j->row i=EV i)->Rest C P U nt nl ops rec X marks lim row (j+1) pend' nid' Lf Lr h' r->Good C P U nt nl ops row j)->
   ((R.k ≠ .e/\∀q∈B8,q∈pend')\/(R.k=.e/\∀q∈B8,Sam rec X q h/\(¬UH ops j q.j->q∈pend')))->
   Dd<=nid'->(∀id AE,R.k=.a id AE->id=Dd/\Dd<nid'/\Dd<lim)->
   ∃row,(∀i,i<j->row i=EV i)/\Rest C P U nt nl ops rec X marks lim row j B8 Dd pt tl h r:=by
   intro R pend' nid' Lf Lr h' e1 e2 e3 Cs Fu LH Pz hnid Dg;obtain⟨row,ET,rs⟩:=ih (j+1) Py Au (setRow EV j R) (L4.set IP) Fu Cs;have CC:row j=R:=by rw[ET j (by omega)];simp[setRow]
   have OE:∀i,i<j->row i=EV i:=by
    intro i hi;rw[ET i (by omega)];simp[setRow,show i ≠ j by omega]
   refine⟨row,OE,⟨by rw[CC];exact⟨e1,e2,e3⟩,rs.res,?_,?_,?_⟩⟩
   ·intro i h1 h2
    by_cases e:i=j
    ·subst e;exact LH row CC OE rs
    ·exact rs.Du i (by omega) h2
   ·intro i h1 h2 id AE hka
    by_cases e:i=j
    ·subst e;rw[CC]at hka;obtain⟨g1,g2,g3⟩:=Dg id AE hka;refine⟨by omega,by omega,?_⟩;intro i' h3 h4 N8 Hu hka';have:=(rs.ids i' (by omega) h4 N8 Hu hka').1;omega
    ·obtain⟨g1,g2,g3⟩:=rs.ids i (by omega) h2 id AE hka;exact⟨by omega,g2,g3⟩
   ·intro q hqm p h1 h2 h3 h4;rcases Pz with ⟨Bs,hp⟩|⟨he,hp⟩
    ·have hpj:p ≠ j:=by
      intro e;subst e;rcases h3 with h3|h3
      ·omega
      ·rw[CC]at h3;exact Bs h3
     exact rs.B8 q (hp q hqm) p (by omega) h2 h3 fun i h5 h6=>h4 i (by omega) h6
    ·obtain⟨g1,g2⟩:=hp q hqm
     by_cases e:p=j
     ·subst e;rw[CC,e3];exact g1
     ·exact rs.B8 q (g2 (h4 j (by omega) (by omega) (by rw[CC];exact he))) p (by omega) h2 h3 fun i h5 h6=>h4 i (by omega) h6
  have hdo:ZN C nt nl ops.toList (o::l) j ms=AiM C nt nl ops.toList j (B4 ms o) o::ZN C nt nl ops.toList l (j+1) (ms.set j (B4 ms o)):=rfl;rw[hdo]at hk;have B1:AlR rec X lim (AiM C nt nl ops.toList j (B4 ms o) o) (AgV rec X marks lim (ZN C nt nl ops.toList l (j+1) (ms.set j (B4 ms o)))) (De EV j) B8 Dd pt tl h=some r:=hk;clear hk;generalize hgo:AgV rec X marks lim (ZN C nt nl ops.toList l (j+1) (ms.set j (B4 ms o)))=go at B1 fin;unfold AiM at B1;cases A8:Ox C nt nl ops.toList o with
  |bad=>rw[A8]at B1;cases B1
  |mk g d op=>
   rw[A8]at B1;obtain⟨rfl,rfl,hgrd⟩:=Ano IP A8;have past0:∀R:Row,R.k ≠ .e->De (setRow EV j R) (j+1)=De EV j:=by
    intro R Bs;have e1:setRow EV j R j=R:=by simp[setRow]
    simp only[De];rw[e1,NM (row:=setRow EV j R) (row':=EV) j fun i hi=>by simp[setRow,show i ≠ j by omega]];split
    ·rename_i he;exact absurd he Bs
    ·rfl
   have past1:∀R:Row,R.k=.e->De (setRow EV j R) (j+1)=(j,R.h)::De EV j:=by
    intro R hke;have e1:setRow EV j R j=R:=by simp[setRow]
    simp only[De];rw[e1,hke,NM (row:=setRow EV j R) (row':=EV) j fun i hi=>by simp[setRow,show i ≠ j by omega]]
   have Su:∀{row:Nat->Row} {v:AV} {Lf:T AV} {Lr:TL},(row j).pt=pt->(row j).tl=tl->(row j).v=v->(row (j+1)).pt=Lf->(row (j+1)).tl=Lr->
    (∀t u,(Dn nl t).val Lf Lr=some u->(o.dst=some t/\u=v)\/(o.dst ≠ some t/\(Dn nl t).val pt tl=some u))->
    ∀t u,(row (j+1)).look nl t=some u->(Dv ops j t/\u=(row j).v)\/(¬Dv ops j t/\(row j).look nl t=some u):=by
    intro row v Lf Lr e1 e2 e3 e4 e5 HR t u hu;unfold Row.look at hu ⊢;rw[e4,e5]at hu;rw[e1,e2,e3,EH IP];exact HR t u hu
   have off:Kc (Jd nt nl o.dst) (go (De EV j) B8 Dd) pt tl (.Dh []) h=some r->
    (∀(J:A1) (U:An) (R:Row) (a:Act),R.pt=pt->R.tl=tl->Env ops J U nt nl j R a->Region.wanted o (yielded ops a.tmps)=false)->
    ∃row,(∀i,i<j->row i=EV i)/\Rest C P U nt nl ops rec X marks lim row j B8 Dd pt tl h r:=by
    intro AW hw;obtain⟨Lf,Lr,B9,hd,HR⟩:=FD AW;refine fin ⟨pt,tl,h,.Dh [],.r⟩ B8 Dd Lf Lr h rfl rfl rfl (by rw[past0 _ (by simp)];exact B9) hq ?_ (.inl ⟨by simp,fun q hq=>hq⟩) (Nat.le_refl _) (fun id AE h=>nomatch h);intro row CC _ rs;refine⟨by rw[CC];exact (fun h=>nomatch h),by rw[CC];exact (fun _ _ h=>nomatch h),fun t ht=>hd t ((EH IP).1 ht),Su (by rw[CC]) (by rw[CC]) (by rw[CC]) rs.here.1 rs.here.2.1 HR,?_,by rw[CC];exact (fun _ _ h=>nomatch h),by rw[CC];exact (fun h=>nomatch h)⟩;intro _;refine⟨by rw[CC];exact rs.here.2.2,?_⟩;intro p _ _ _ _;exact AgL IP (fun J a Gz=>hw J U (row j) a (by rw[CC]) (by rw[CC]) Gz) (by rw[CC])
   cases hpa:Ant C o.op with
   |true=>
    have hcC:Mj C o.op=.a:=by unfold Mj;rw[hpa];rfl
    have hdc:Rg C nl o.op j (B4 ms o)=.b (OT nl o.op.operands.toList):=by unfold Rg;rw[hpa];rfl
    rw[hdc]at B1;rcases hgrd (show RD g pt tl _ _=some r from B1) with ⟨AW,hw⟩|⟨AW,hw⟩
    ·obtain⟨hlim,B9⟩:=Ap AW;obtain⟨us,hus,Eb⟩:=Jk B9;obtain⟨Iy,I7⟩:=Ap Eb;obtain⟨v,h',KX,h2⟩:=AgR (C:=C) (nl:=nl) o rec X _ pt tl ⟨.nil,Dd⟩ r I7;obtain⟨hns,N4⟩:=Ap KX;obtain⟨hnx,N5⟩:=Ap N4;obtain⟨AE,OC,hk8b⟩:=Ar N5;obtain⟨hokb,hk9⟩:=Ap hk8b;obtain⟨Lf,Lr,hk10,hd,HR⟩:=FD hk9;refine fin ⟨pt,tl,h,v,.a Dd AE⟩ B8 (Dd+1) Lf Lr (h.put Dd AE) rfl rfl rfl (by rw[past0 _ (by simp)];exact hk10) hq ?_ (.inl ⟨by simp,fun q hq=>hq⟩) (by omega) ?_
     ·intro row CC _ rs;refine⟨by rw[CC];exact (fun h=>nomatch h),(fun _ _ _=>⟨o,IP,hcC⟩),fun t ht=>hd t ((EH IP).1 ht),Su (by rw[CC]) (by rw[CC]) (by rw[CC]) rs.here.1 rs.here.2.1 HR,by rw[CC];exact (fun h=>nomatch h),?_,by rw[CC];exact (fun h=>nomatch h)⟩;intro id Hu hka;rw[CC]at hka;cases hka;have hnb:∀t,AE ≠ .Am t:=fun t e=>by rw[e]at hokb;cases hokb
      refine⟨by rw[CC];exact rs.here.2.2,hnb,?_⟩;intro J w a b rest k cs hh hrel Ib Gz;have ho:=Gz.opd IP;rw[CC]at ho ⊢;obtain⟨v',w',⟨J',h4,h5,h6⟩,h3⟩:=M4 IP (h2 P U (trn J Dd) w a b hc K7 (hrel.trn Dd) (AgS hus Iy ho)) (hw J U (row j) a (by rw[CC]) (by rw[CC]) Gz) rest k cs;exact Amq Ib hns hokb OC h3 h4 h5 h6
     ·intro id Hu hka;cases hka;exact⟨rfl,by omega,Nat.le_of_ble_eq_true hlim⟩
    ·exact off AW hw
   |false=>
   have hcC:Mj C o.op=MU o.op:=by unfold Mj;rw[hpa];rfl
   cases FF:MU o.op with
   |p=>
    have hdc:Rg C nl o.op j (B4 ms o)=.p:=by unfold Rg;rw[hpa,FF];rfl
    rw[hdc]at B1;rcases hgrd (show RD g pt tl _ _=some r from B1) with ⟨AW,hw⟩|⟨AW,hw⟩
    ·obtain⟨v,h1,h2⟩:=Ap5 (C:=C) (nl:=nl) FF rec X _ pt tl h r AW;rw[h1]at AW;obtain⟨Lf,Lr,B9,hd,HR⟩:=FD AW;refine fin ⟨pt,tl,h,v,.r⟩ B8 Dd Lf Lr h rfl rfl rfl (by rw[past0 _ (by simp)];exact B9) hq ?_ (.inl ⟨by simp,fun q hq=>hq⟩) (Nat.le_refl _) (fun id AE h=>nomatch h);intro row CC _ rs;refine⟨by rw[CC];exact (fun h=>nomatch h),by rw[CC];exact (fun _ _ h=>nomatch h),fun t ht=>hd t ((EH IP).1 ht),Su (by rw[CC]) (by rw[CC]) (by rw[CC]) rs.here.1 rs.here.2.1 HR,?_,by rw[CC];exact (fun _ _ h=>nomatch h),by rw[CC];exact (fun h=>nomatch h)⟩;intro _;refine⟨by rw[CC];exact rs.here.2.2,?_⟩;intro p _ _ _ _ J w a b rest k cs hr Gz;have ho:=Gz.opd IP;rw[CC]at ho ⊢;obtain⟨v',h3,h4⟩:=h2 P U J a.eval w hc ho;exact⟨v',M5 IP (Mv FF (by simp)) h3 (hw J U (row j) a (by rw[CC]) (by rw[CC]) Gz),h4⟩
    ·exact off AW hw
   |r=>
    have hdc:Rg C nl o.op j (B4 ms o)=.r j (B4 ms o):=by unfold Rg;rw[hpa,FF];rfl
    rw[hdc]at B1;rcases hgrd (show RD g pt tl _ _=some r from B1) with ⟨AW,hw⟩|⟨AW,hw⟩
    ·have hR:=AkM (C:=C) (nl:=nl) FF;obtain⟨v,h1,h2⟩:=hR rec X _ pt tl h r AW;rw[h1]at AW;obtain⟨B9,hback⟩:=Ai9 hR j AW;obtain⟨Lf,Lr,Eb,hd,HR⟩:=FD B9;refine fin ⟨pt,tl,h,v,.r⟩ (⟨j,ZG C nl o.op,pt,tl,v⟩::B8) Dd Lf Lr h rfl rfl rfl (by rw[past0 _ (by simp)];exact Eb) ?_ ?_ (.inl ⟨by simp,fun q hq=>Gq _ hq⟩) (Nat.le_refl _) (fun id AE h=>nomatch h)
     ·intro q hqm;rcases BL.1 hqm with e|e
      ·subst e;exact⟨o,hR⟩
      ·exact hq q e
     intro row CC OE rs;refine⟨by rw[CC];exact (fun h=>nomatch h),by rw[CC];exact (fun _ _ h=>nomatch h),fun t ht=>hd t ((EH IP).1 ht),Su (by rw[CC]) (by rw[CC]) (by rw[CC]) rs.here.1 rs.here.2.1 HR,?_,by rw[CC];exact (fun _ _ h=>nomatch h),by rw[CC];exact (fun h=>nomatch h)⟩;intro _;refine⟨by rw[CC];exact rs.here.2.2,?_⟩;intro p hp BN DN MA;refine Ahy (rec:=rec) (X:=X) hc IP FF (fun J a Gz=>hw J U (row j) a (by rw[CC]) (by rw[CC]) Gz) ?_;rw[CC];rcases Nat.lt_or_ge j p with hjp|hjp
     ·exact rs.B8 _ (by simp) p hjp hp BN fun i h3 h4 h5=>MA i h4 h5
     ·have hpj:p<j:=by
       rcases Nat.lt_or_ge p j with h3|h3
       ·exact h3
       ·have:p=j:=by omega
        subst this;rcases BN with h4|h4
        ·omega
        ·rw[CC]at h4;cases h4
      have hpe:(row p).k=.e:=by
       rcases BN with h4|h4
       ·omega
       ·exact h4
      rw[OE p hpj]at hpe ⊢;refine hback p hpj hpe ?_;intro i h3 h4 h5;cases hbit:AU (B4 ms o) i with
      |false=>rfl
      |true=>
       have hbf:=FU L4 IP hbit;have:=DN i (by omega) (by rw[OE i h4];exact h5) hbf;omega
    ·exact off AW hw
   |a=>
    have hdc:Rg C nl o.op j (B4 ms o)=.a:=by unfold Rg;rw[hpa,FF];rfl
    rw[hdc]at B1;rcases hgrd (show RD g pt tl _ _=some r from B1) with ⟨AW,hw⟩|⟨AW,hw⟩
    ·obtain⟨hlim,B9⟩:=Ap AW;obtain⟨mk,AE,h1,hnb,h2⟩:=Ap4 (C:=C) (nl:=nl) FF rec X _ pt tl ⟨h.1,Dd⟩ r B9;rw[h1]at B9;have Eb:Kc (Jd nt nl o.dst) (go (De EV j) B8 (Dd+1)) pt tl (mk Dd) (h.put Dd AE)=some r:=B9;obtain⟨Lf,Lr,I7,hd,HR⟩:=FD Eb;refine fin ⟨pt,tl,h,mk Dd,.a Dd AE⟩ B8 (Dd+1) Lf Lr (h.put Dd AE) rfl rfl rfl (by rw[past0 _ (by simp)];exact I7) hq ?_ (.inl ⟨by simp,fun q hq=>hq⟩) (by omega) ?_
     ·intro row CC _ rs;refine⟨by rw[CC];exact (fun h=>nomatch h),(fun _ _ _=>⟨o,IP,hcC.trans FF⟩),fun t ht=>hd t ((EH IP).1 ht),Su (by rw[CC]) (by rw[CC]) (by rw[CC]) rs.here.1 rs.here.2.1 HR,by rw[CC];exact (fun h=>nomatch h),?_,by rw[CC];exact (fun h=>nomatch h)⟩;intro id Hu hka;rw[CC]at hka;cases hka;refine⟨by rw[CC];exact rs.here.2.2,hnb,?_⟩;intro J w a b rest k cs hh hrel Ib Gz;have ho:=Gz.opd IP;rw[CC]at ho ⊢;obtain⟨obj,v',S,h3,hz,h4,h5⟩:=h2 P U J a.eval w hc ho;have DU:=PD Ib (w.heap.size,S);exact⟨_,_,obj,v',S,M5 IP (Mv FF (by simp)) h3 (hw J U (row j) a (by rw[CC]) (by rw[CC]) Gz),Ma.push w hz,h4.mono DU,h5 _ Dd DU (Ay _ _ _)⟩
     ·intro id Hu hka;cases hka;exact⟨rfl,by omega,Nat.le_of_ble_eq_true hlim⟩
    ·exact off AW hw
   |e=>
    have hdc:Rg C nl o.op j (B4 ms o)=.e j (B4 ms o):=by unfold Rg;rw[hpa,FF];rfl
    rw[hdc]at B1;obtain⟨AW,hpd⟩:=Acn hq (show Uy rec X B8 h _=some r from B1);have hdrop:∀q∈B8,Sam rec X q h/\(¬UH ops j q.j->q∈LB (B4 ms o) B8):=by
     intro q hqm;refine⟨hpd q hqm,?_⟩;intro hn;refine O8.2 hqm ?_;cases hbit:AU (B4 ms o) q.j with
     |false=>rfl
     |true=>exact absurd (FU L4 IP hbit) hn
    rcases hgrd AW with ⟨B9,hw⟩|⟨B9,hw⟩
    ·obtain⟨v,h',h1,h2⟩:=AgR (C:=C) (nl:=nl) o rec X _ pt tl h r B9;obtain⟨Lf,Lr,Eb,hd,HR⟩:=FD h1;refine fin ⟨pt,tl,h,v,.e⟩ (LB (B4 ms o) B8) Dd Lf Lr h' rfl rfl rfl (by rw[past1 _ rfl];exact Eb) (fun q hqm=>hq q (O8.1 hqm)) ?_ (.inr ⟨rfl,hdrop⟩) (Nat.le_refl _) (fun id AE h=>nomatch h);intro row CC _ rs;refine⟨(fun _=>⟨o,IP,hcC.trans FF⟩),by rw[CC];exact (fun _ _ h=>nomatch h),fun t ht=>hd t ((EH IP).1 ht),Su (by rw[CC]) (by rw[CC]) (by rw[CC]) rs.here.1 rs.here.2.1 HR,by rw[CC];exact (fun h=>nomatch h),by rw[CC];exact (fun _ _ h=>nomatch h),?_⟩;intro _ J w a b rest k cs hr Gz;have ho:=Gz.opd IP;rw[CC]at ho hr ⊢;rw[rs.here.2.2];obtain⟨v',w',⟨J',h4⟩,h3⟩:=M4 IP (h2 P U J w a b hc K7 hr ho) (hw J U (row j) a (by rw[CC]) (by rw[CC]) Gz) rest k cs;exact⟨v',w',J',h3,h4⟩
    ·obtain⟨Lf,Lr,Eb,hd,HR⟩:=FD B9;refine fin ⟨pt,tl,h,.Dh [],.e⟩ (LB (B4 ms o) B8) Dd Lf Lr h rfl rfl rfl (by rw[past1 _ rfl];exact Eb) (fun q hqm=>hq q (O8.1 hqm)) ?_ (.inr ⟨rfl,hdrop⟩) (Nat.le_refl _) (fun id AE h=>nomatch h);intro row CC _ rs;refine⟨(fun _=>⟨o,IP,hcC.trans FF⟩),by rw[CC];exact (fun _ _ h=>nomatch h),fun t ht=>hd t ((EH IP).1 ht),Su (by rw[CC]) (by rw[CC]) (by rw[CC]) rs.here.1 rs.here.2.1 HR,by rw[CC];exact (fun h=>nomatch h),by rw[CC];exact (fun _ _ h=>nomatch h),?_⟩;intro _ J w a b rest k cs hr Gz;rw[rs.here.2.2];rw[CC]at hr ⊢;exact⟨undef,w,J,SS IP (hw J U (row j) a (by rw[CC]) (by rw[CC]) Gz),⟨[],rfl,.nil⟩,hr,Ext.refl J h w hr⟩
theorem AcR{h:H}{k:OR}{r:Rs}:∀{n id:Nat},UY h n id k=some r->k=some r/\∀i,id<=i->i<id+n->h.get i=none:=by
 intro n
 induction n with
 |zero=>intro id hk;exact⟨hk,fun i h1 h2=>by omega⟩
 |succ n ih=>
  intro id hk;have Cs:@Option.rec Aj (fun _=>OR) (UY h n (id+1) k) (fun _=>none) (h.get id)=some r:=hk;cases hg:h.get id with
  |some x=>rw[hg]at Cs;cases Cs
  |none=>
   rw[hg]at Cs;obtain⟨h1,h2⟩:=ih Cs;refine⟨h1,?_⟩;intro i h3 h4
   by_cases e:i=id
   ·subst e;exact hg
   ·exact h2 i (by omega) (by omega)
theorem AmD(hc:A4 P C U)(K7:CY C P U rec){fr DM:FR}{h h':H}{o:Out}(hk:AaT C rec X ops.toList fr h=some (.code o DM h')):
 o=.norm/\∀J w (a:Act) (b:Frame) t,Rel J U C h w->IX J U X.nt X.nl fr a->
  ∀k cs,∃a' w' J',Steps P (lone (b.atR a (.inRegion ops (Region.linearise .any ops t)::k)) cs w) (lone (b.atR a' k) cs w')/\IX J' U X.nt X.nl DM a'/\Rel J' U C h' w'/\Ext U J J' h h' w w':=by
 obtain⟨hchk,B1⟩:=Ap hk;obtain⟨AW,habs⟩:=AcR B1;have st:Static C ops 0:=AiL ops.toList 0 rfl ⟨Tp.nil,fun i hi=>by omega,fun i hi=>by omega,fun i o hi=>by omega⟩ hchk
 let R0:Row:=⟨.nil,.nil,h,.Dh [],.r⟩
 obtain⟨row,_,rs⟩:=AdO (ops:=ops) (nt:=X.nt) (nl:=X.nl) ⟨rfl,rfl⟩ hc K7 ops.toList 0 rfl (Nat.zero_le _) (fun _=>R0) Tp.nil (fun q hq=>by cases hq) AW;have hres:=rs.res;cases hres;refine⟨rfl,?_⟩;have hn0:(row 0).h.next=h.next+O4 C ops.toList:=by rw[rs.here.2.2];rfl
 have pl:Oo C P U X.nt X.nl ops row (UH ops) h.next:=by
  refine⟨fun j o ho=>st.fwd j o ho (Nat.zero_le _),fun j i hb=>hb.clo,?_,fun i j t h1 h2=>st.nam i j t h1 (Nat.zero_le _) h2,fun i j t h1 h2=>st.AjK i j t h1 (Nat.zero_le _) h2,
   fun j hj=>(rs.Du j (Nat.zero_le _) hj).put,?_,?_,fun j hj hkr=>(rs.Du j (Nat.zero_le _) hj).kR hkr,?_,fun j hj=>(rs.Du j (Nat.zero_le _) hj).kE,?_,?_⟩
  ·intro j t hd;obtain⟨o,ho,_⟩:=id hd;exact (rs.Du j (Nat.zero_le _) (Ht.1 ho).1).dst t hd
  ·intro i j h1 h2 h3 h4;exact st.chain i j h1 (Nat.zero_le _) ((rs.Du i (Nat.zero_le _) (by omega)).cE h3) ((rs.Du j (Nat.zero_le _) h2).cE h4)
  ·intro i j h1 h2 id AE h3 h4;exact st.alloc i j h1 (Nat.zero_le _) ((rs.Du i (Nat.zero_le _) (by omega)).cA id AE h3) ((rs.Du j (Nat.zero_le _) h2).cE h4)
  ·intro j hj id AE hka;obtain⟨g1,g2,_⟩:=rs.ids j (Nat.zero_le _) hj id AE hka;obtain⟨g3,g4⟩:=(rs.Du j (Nat.zero_le _) hj).kA id AE hka;exact⟨g3,g1,by rw[hn0];exact g2,g4.1,g4.2⟩
  ·intro i j h1 h2 id AE N8 Hu h3 h4;have:=(rs.ids i (Nat.zero_le _) (by omega) id AE h3).2.2 j h1 h2 N8 Hu h4;omega
  ·intro id h1 h2 ⟨x,hx,_⟩;rw[rs.here.2.2]at hx;have h3:h.get id=some x:=hx;rw[habs id h1 (by rw[hn0]at h2;exact h2)]at h3;cases h3
 intro J w a b t hr hf k cs;have ET:Rel J U C (row 0).h w:=by
  rw[rs.here.2.2];exact⟨fun b r S hb=>by have:=hr.lt b r S hb;show b<h.next+O4 C ops.toList;omega,hr.AE,hr.inj,hr.kept,⟨hr.Am.rep,hr.Am.free,hr.Am.Vs⟩⟩
 have hext:Ext U J J h (row 0).h w w:=by
  rw[rs.here.2.2];exact⟨by show h.next<=h.next+O4 C ops.toList;omega,fun _ _=>rfl,fun b r S hb he=>by rw[hr.EY hb]at he;simp at he,Nat.le_refl _,fun _ _ h=>h,fun _ _ _ _=>rfl,fun _ h=>.inr h,rfl,rfl,rfl,fun _ _=>rfl⟩
 obtain⟨J',a',w',N0,Fh⟩:=Afk pl (Nat.le_refl _) hr ET hext hf.size (fun u x hu=>by
  unfold Row.look at hu;rw[rs.here.1,rs.here.2.1]at hu;exact Up hf.pt (fun t v _ hv=>by cases hv) hu) b t k cs
 refine⟨a',w',J',Fh,⟨N0.size,?_,?_,?_⟩,N0.rel,N0.ext⟩
 ·intro u x hu hx;refine N0.tmp u x ?_;unfold Row.look Dn;rw[show Nat.blt u X.nl=true from Js hu];exact hx
 ·intro u x hu hx;refine N0.tmp u x ?_;unfold Row.look Dn;cases hb:Nat.blt u X.nl with
  |true=>have:u<X.nl:=Nat.le_of_ble_eq_true hb;omega
  |false=>exact hx
 ·rw[N0.defers];exact (hf.mono (N0.ext.sub hr)).marks
end Eng
namespace Eng
open Go
variable {J J':A1} {U:An} {C:AB} {P:Program} {o:Oper}
inductive Mb:Code->List Item->List Item->Prop
 |code {c k}:Mb c (.code c::k) k
 |loop {b k}:Mb (.loop b) (.inLoop b::k) k
def Tl(P:Program)(m:Machine)(b:Frame)(k:List Item)(cs:List Frame)(o:Out)(a:Act)(w:World):Prop:=
 match o with
 |.norm=>Steps P m (lone (b.atR a k) cs w)
 |.exit id=>∃k0,exitTo id k0=exitTo id k/\Steps P m (lone (b.atR a (.code (.exit id)::k0)) cs w)
 |.ret=>∃k0,Steps P m (lone (b.atR a (.code .ret::k0)) cs w)
theorem Tl.of_steps{m m1:Machine}{b:Frame}{k:List Item}{cs:List Frame}{o:Out}{a:Act}{w:World}(h:Steps P m m1)(h':Tl P m1 b k cs o a w):Tl P m b k cs o a w:=by
 cases o with
 |norm=>exact h.trans h'
 |exit id=>obtain⟨k0,h1,h2⟩:=h';exact⟨k0,h1,h.trans h2⟩
 |ret=>obtain⟨k0,h2⟩:=h';exact⟨k0,h.trans h2⟩
def El(P:Program)(c:Code)(b:Frame)(a:Act)(w:World)(o:Out)(Q:Act->World->Prop):Prop:=
 ∀todo k cs,Mb c todo k->∃a' w',Q a' w'/\Tl P (lone (b.atR a todo) cs w) b k cs o a' w'
def AcN(C:AB)(U:An)(J:A1)(nt nl:Nat)(h h':H)(w:World)(DM:FR)(a':Act)(w':World):Prop:=∃J',IX J' U nt nl DM a'/\Rel J' U C h' w'/\Ext U J J' h h' w w'
def QL(C:AB)(P:Program)(U:An)(rec:Rec):Prop:=∀X c fr h o DM h',rec X (.code c fr) h=some (.code o DM h')->
 ∀J w a b,LV C J X b->Rel J U C h w->IX J U X.nt X.nl fr a->El P c b a w o (AcN C U J X.nt X.nl h h' w DM)
def Io(C:AB)(P:Program)(U:An)(X:Ctx)(c:Code)(fr:FR)(h:H)(o:Out)(DM:FR)(h':H):Prop:=
 ∀J w a b,LV C J X b->Rel J U C h w->IX J U X.nt X.nl fr a->El P c b a w o (AcN C U J X.nt X.nl h h' w DM)
theorem FC{x:OR}{k:Out->FR->H->OR}{r:Rs}(h:Xh x k=some r):∃o fr hh,x=some (.code o fr hh)/\k o fr hh=some r:=by
 cases x with
 |none=>cases h
 |some y=>cases y with
  |code o fr hh=>exact⟨o,fr,hh,rfl,h⟩
  |val v hh=>cases h
theorem DE{c:Code}(hc:∀b,c ≠ .loop b){b:Frame}{a:Act}{w:World}{o:Out}{Q:Act->World->Prop}
 (h:∀k cs,∃a' w',Q a' w'/\Tl P (lone (b.atR a (.code c::k)) cs w) b k cs o a' w'):El P c b a w o Q:=by
 intro todo k cs hs;cases hs with
 |code=>exact h k cs
 |loop=>exact absurd rfl (hc _)
theorem stay{X:Ctx}{c:Code}{fr:FR}{h:H}{o:Out}(hc:∀b,c ≠ .loop b)(hs:∀(b:Frame) a w k cs,Tl P (lone (b.atR a (.code c::k)) cs w) b k cs o a w):Io C P U X c fr h o fr h:=by
 intro J w a b _ hr hf;exact DE hc fun k cs=>⟨a,w,⟨J,hf,hr,Ext.refl J h w hr⟩,hs b a w k cs⟩
theorem Ah3{rec:Rec}(N7:QL C P U rec){X:Ctx}{c1 c2 c:Code}{fr:FR}{h:H}{o:Out}{DM:FR}{h':H}
 (hk:GY (rec X (.code c1 fr) h) (fun fr h=>rec X (.code c2 fr) h)=some (.code o DM h'))
 (BN:∀(b:Frame) a todo k cs,Mb c todo k->∃todo2,Mb c2 todo2 k/\(∀id,exitTo id todo2=exitTo id k)/\∀w,Steps P (lone (b.atR a todo) cs w) (lone (b.atR a (.code c1::todo2)) cs w)):
 Io C P U X c fr h o DM h':=by
 obtain⟨o1,fr1,h1,he1,B1⟩:=FC hk;intro J w a b hx hr hf todo k cs hs;obtain⟨todo2,s1,s2,s3⟩:=BN b a todo k cs hs;obtain⟨a1,w1,⟨Jq1,hf1,Ic,Qa⟩,OD⟩:=N7 X c1 fr h o1 fr1 h1 he1 J w a b hx hr hf _ todo2 cs .code;cases o1 with
 |norm=>
  obtain⟨a2,w2,⟨Jq2,hf2,hr2,hx2⟩,hc2⟩:=N7 X c2 fr1 h1 o DM h' B1 Jq1 w1 a1 b (hx.mono (Qa.sub hr)) Ic hf1 todo2 k cs s1;exact⟨a2,w2,⟨Jq2,hf2,hr2,Qa.trans hr Ic hx2⟩,.of_steps ((s3 w).trans OD) hc2⟩
 |exit id=>
  cases B1;obtain⟨k0,g1,g2⟩:=OD;exact⟨a1,w1,⟨Jq1,hf1,Ic,Qa⟩,k0,g1.trans (s2 id),(s3 w).trans g2⟩
 |ret=>
  cases B1;obtain⟨k0,g2⟩:=OD;exact⟨a1,w1,⟨Jq1,hf1,Ic,Qa⟩,k0,(s3 w).trans g2⟩
theorem AeN{rec:Rec}(N7:QL C P U rec){X:Ctx}{id:Nat}{c1:Code}{fr:FR}{h:H}{o:Out}{DM:FR}{h':H}(hk:Ac8 id (rec X (.code c1 fr) h)=some (.code o DM h')):
 Io C P U X (.block id c1) fr h o DM h':=by
 obtain⟨o1,fr1,h1,he1,B1⟩:=FC hk;intro J w a b hx hr hf;refine DE (by simp) fun k cs=>?_
 obtain⟨a1,w1,⟨Jq1,hf1,Ic,Qa⟩,OD⟩:=N7 X c1 fr h o1 fr1 h1 he1 J w a b hx hr hf _ (.inBlock id::k) cs .code;cases o1 with
 |norm=>
  cases B1;exact⟨a1,w1,⟨Jq1,hf1,Ic,Qa⟩,.head stepR_block (Steps.trans OD (.one stepR_inBlock))⟩
 |exit N8=>
  have AW:@Bool.rec (fun _=>OR) (some (.code (.exit N8) fr1 h1)) (some (.code .norm fr1 h1)) (Nat.beq id N8)=some (.code o DM h'):=B1;cases hb:Nat.beq id N8 with
  |true=>
   rw[hb]at AW;cases AW;have:=beq_eq hb;subst this;obtain⟨k0,g1,g2⟩:=OD;exact⟨a1,w1,⟨Jq1,hf1,Ic,Qa⟩,.head stepR_block (g2.trans (.one (stepR_exit (g1.trans (by simp[exitTo])))))⟩
  |false=>
   rw[hb]at AW;cases AW;obtain⟨k0,g1,g2⟩:=OD;refine⟨a1,w1,⟨Jq1,hf1,Ic,Qa⟩,k0,g1.trans ?_,.head stepR_block g2⟩;have:=B5 hb;simp[exitTo,this]
 |ret=>
  cases B1;obtain⟨k0,g2⟩:=OD;exact⟨a1,w1,⟨Jq1,hf1,Ic,Qa⟩,k0,.head stepR_block g2⟩
theorem KQ{c:Code}{b:Frame}{a:Act}{k:List Item}{cs:List Frame}{w:World}:step P (lone (b.atR a (.code (.scope c)::k)) cs w)=.next (lone (b.atR a (.code c::.inScope c::k)) cs w):=
 step_lone_go (by simp[stepG,stepG.exec,Frame.atR])
theorem T6{c:Code}{b:Frame}{a:Act}{k:List Item}{cs:List Frame}{w:World}:step P (lone (b.atR a (.inScope c::k)) cs w)=.next (lone (b.atR a k) cs w):=
 step_lone_go (by simp[stepG,stepG.exec,Frame.atR])
theorem Ah2{rec:Rec}(N7:QL C P U rec){X:Ctx}{c1:Code}{fr:FR}{h:H}{o:Out}{DM:FR}{h':H}(hk:rec X (.code c1 fr) h=some (.code o DM h')):
 Io C P U X (.scope c1) fr h o DM h':=by
 intro J w a b hx hr hf;refine DE (by simp) fun k cs=>?_
 obtain⟨a1,w1,hq,h1⟩:=N7 X c1 fr h o DM h' hk J w a b hx hr hf _ (.inScope c1::k) cs .code;refine⟨a1,w1,hq,?_⟩;cases o with
 |norm=>exact .head KQ (Steps.trans h1 (.one T6))
 |exit id=>obtain⟨k0,g1,g2⟩:=h1;exact⟨k0,g1,.head KQ g2⟩
 |ret=>obtain⟨k0,g2⟩:=h1;exact⟨k0,.head KQ g2⟩
theorem AiK{rec:Rec}(N7:QL C P U rec){X:Ctx}{c:Operand}{c1 c2:Code}{fr:FR}{h:H}{o:Out}{DM:FR}{h':H}
 (hk:ev (od X.nl c) fr.pt fr.tl (AhB rec X c1 c2 fr h)=some (.code o DM h')):Io C P U X (.cond c c1 c2) fr h o DM h':=by
 obtain⟨u,hu,B1⟩:=Aq hk;obtain⟨t,rfl,AW⟩:=QX B1;intro J w a b hx hr hf;have ht:a.eval c=.bool t:=AaA hf.pt hf.tl hu;refine DE (by simp) fun k cs=>?_
 cases t with
 |true=>
  obtain⟨a1,w1,hq,OD⟩:=N7 X c1 fr h o DM h' AW J w a b hx hr hf _ k cs .code;exact⟨a1,w1,hq,.of_steps (.one (by have:=stepR_cond (P:=P) (b:=b) (k:=k) (cs:=cs) (w:=w) (x:=c1) (y:=c2) ht;simpa using this)) OD⟩
 |false=>
  obtain⟨a1,w1,hq,OD⟩:=N7 X c2 fr h o DM h' AW J w a b hx hr hf _ k cs .code;exact⟨a1,w1,hq,.of_steps (.one (by have:=stepR_cond (P:=P) (b:=b) (k:=k) (cs:=cs) (w:=w) (x:=c1) (y:=c2) ht;simpa using this)) OD⟩
theorem AdW(hc:A4 P C U){rec:Rec}(K7:CY C P U rec){X:Ctx}{id:Nat}{ops:Array Oper}{fr:FR}{h:H}{o:Out}{DM:FR}{h':H}
 (hk:opsL rec X fr.marks (Adb C X.nt X.nl ops.toList ops.toList) fr.pt .nil h=some (.code o DM h')):Io C P U X (.region id ops false) fr h o DM h':=by
 obtain⟨fr1,h1,he,D8⟩:=AjU ops.toList 0 rfl hk;cases he;intro J w a b hx hr hf;refine DE (by simp) fun k cs=>?_
 obtain⟨a',w',J',hs,hf',IQ,GJ⟩:=D8 P U J w a b hc K7 hr ⟨hf.size,hf.pt,(fun t v _ hv=>by cases hv),hf.marks⟩ k cs;refine⟨a',w',⟨J',hf',IQ,GJ⟩,.head stepR_region ?_⟩;rw[List.range_eq_range'];exact hs
theorem AiT(hc:A4 P C U){rec:Rec}(K7:CY C P U rec){X:Ctx}{id:Nat}{ops:Array Oper}{fr:FR}{h:H}{o:Out}{DM:FR}{h':H}
 (hk:AaT C rec X ops.toList fr h=some (.code o DM h')):Io C P U X (.region id ops true) fr h o DM h':=by
 obtain⟨rfl,D8⟩:=AmD hc K7 hk;intro J w a b hx hr hf;refine DE (by simp) fun k cs=>?_
 obtain⟨a',w',J',hs,hf',IQ,GJ⟩:=D8 J {w with drawn:=w.drawn+1} a b (w.tape w.drawn (.order b.fn id)) (hr.drew _) hf k cs;refine⟨a',w',⟨J',hf',IQ,(Ext.drew hr _).trans hr (hr.drew _) GJ⟩,.head stepR_region_draw ?_⟩;rw[hc.mixed];exact hs
end Eng
end
