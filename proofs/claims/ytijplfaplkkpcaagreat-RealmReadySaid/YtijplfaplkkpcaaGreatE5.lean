/- Append and calls are evaluated right. No conditions beside those in its theorems. -/
import Derived.Lib.AppendZeros
import Derived.Test.YtijplfaplkkpcaaGreatE4
import Derived.AtR
import Derived.RangeFuncRecord
set_option linter.unusedVariables false
set_option linter.unusedSimpArgs false
set_option linter.unusedSectionVars false
set_option linter.constructorNameAsVariable false
set_option maxRecDepth 100000
noncomputable section
namespace Eng
open Go
variable {J J':A1} {U:An} {C:AB} {P:Program} {nl:Nat} {o:Oper}
theorem Adz(w:World)(BA CW:Nat)(e:TypeId):BA<=grownCap w BA CW e:=by
 unfold grownCap Question.cut;simp
theorem Rel.QE{h:H}{w:World}(hr:Rel J U C h w)(X:Aj)(hXb:∀t,X ≠ .Am t:=by exact fun _ e=>Aj.noConfusion e):Rel J U C (h.new X) w/\Ext U J J h (h.new X) w w:=by
 have live:∀i,i ≠ h.next->Live (h.new X) i->Live h i:=by
  rintro i hi ⟨y,hy,hd⟩
  rcases H.CJ hy with ⟨e,_⟩|⟨_,e⟩
  ·exact absurd e hi
  ·exact⟨y,e,hd⟩
 have ES:=hr.Am.step (J':=J) (h':=h.new X) (w':=w) (Ql hXb) (fun _ _=>rfl) fun b r S hb=>.inl ⟨b,S,hb⟩
 refine⟨⟨?_,?_,?_,hr.kept,ES.1⟩,⟨Nat.le_succ _,fun _ _=>rfl,?_,Nat.le_refl _,?_,fun _ _ _ _=>rfl,ES.2 _,rfl,rfl,rfl,fun _ _=>rfl⟩⟩
 ·intro b r S hb;have:=hr.lt b r S hb;show b<h.next+1;omega
 ·intro b r S hb;obtain⟨o,ho,hx⟩:=hr.AE b r S hb;refine⟨o,ho,fun y hy=>?_⟩;rcases H.CJ hy with ⟨e,_⟩|⟨_,e⟩
  ·have:=hr.lt b r S hb;omega
  ·exact hx y e
 ·intro b b' r S S' hb AS hl Py;have h1:=hr.lt b r S hb;have h2:=hr.lt b' r S' AS;rcases hr.inj b b' r S S' hb AS (live b (by omega) hl) (live b' (by omega) Py) with e|⟨c,n,f,e⟩
  ·exact .inl e
  ·obtain⟨y,hy,hd⟩:=hl;rcases H.CJ hy with ⟨e2,_⟩|⟨_,e2⟩
   ·omega
   ·rw[e]at e2;cases e2;exact .inr ⟨c,n,f,hy⟩
 ·intro b r S hb he;rw[hr.EY hb]at he;cases he
 ·intro b hb hl;exact live b (by omega) hl
theorem NX{j c:Nat}:∀{sp:List (E×Nat×A)},(∀p∈sp,p.1.den U ≠ (j:Int))->Ao U j c sp=none:=by
 intro sp
 induction sp with
 |nil=>intro _;rfl
 |cons p l ih=>
  intro h;show (if p.1.den U=(j:Int)/\p.2.1=c then some p.2.2 else Ao U j c l)=none;rw[if_neg (fun x=>h p (by simp) x.1)];exact ih fun q hq=>h q (by simp[hq])
theorem Rl{size:Nat}{n:E}{sp Kj:List (E×Nat×A)}{l:List A}{m i:Nat}(h:TT C size n sp l (m+1) i=some Kj):∃e q,SV C n (.lit (.ofNat i))=some e/\TT C size n sp l m (i+1)=some q/\Kj=HF e (PE (Ri (Nat.mul i size) l) size) q 0:=by
 have h':(match SV C n (.lit (.ofNat i)),TT C size n sp l m (i+1) with |some e,some q=>some (HF e (PE (Ri (Nat.mul i size) l) size) q 0)|_,_=>none)=some Kj:=h;split at h'
 ·rename_i e q h1 h2;exact⟨e,q,h1,h2,(Option.some.inj h').symm⟩
 ·cases h'
theorem ZP(hc:A4 P C U){size:Nat}{n:E}{N:Nat}(hN:(N:Int)=n.den U){sp:List (E×Nat×A)}{l:List A}{j c:Nat}:∀{m i:Nat} {Kj:List (E×Nat×A)},TT C size n sp l m i=some Kj->(i+m)*size<=l.length->
 (j<N+i\/N+i+m<=j->Ao U j c Kj=Ao U j c sp)/\(∀d,d<m->j=N+i+d->c<size->Ao U j c Kj=l[(i+d)*size+c]?):=by
 intro m
 induction m with
 |zero=>intro i Kj h _;cases h;exact⟨fun _=>rfl,fun d hd=>absurd hd (Nat.not_lt_zero _)⟩
 |succ m ih=>
  intro i Kj h hl;obtain⟨e,q,h1,h2,rfl⟩:=Rl h;obtain⟨g1,g2⟩:=ih h2 (by rw[show i+1+m=i+(m+1) by omega];exact hl);have he:=JG hc h1;have GJ:e.den U=((N+i:Nat):Int):=by rw[he,<-hN];show (N:Int)+(i:Int)=_;omega
  have hlen:(PE (Ri (Nat.mul i size) l) size).length=size:=by
   have h3:(i+1)*size<=(i+(m+1))*size:=Nat.mul_le_mul_right _ (by omega);rw[Nat.succ_mul]at h3;rw[SX,Rj,List.length_take,List.length_drop];show min size (l.length-i*size)=size;omega
  rw[Hl,hlen];refine⟨fun hj=>?_,fun d hd hj Ix=>?_⟩
  ·rw[if_neg (fun x=>by have:=x.1;rw[GJ]at this;omega)];exact g1 (by omega)
  ·cases d with
   |zero=>
    rw[if_pos ⟨by rw[GJ,hj];rfl,by omega,by omega⟩,SX,Rj,List.getElem?_take_of_lt (by omega),List.getElem?_drop]
    congr 1
   |succ d=>
    rw[if_neg (fun x=>by have:=x.1;rw[GJ]at this;omega)];rw[g2 d (by omega) (by omega) Ix,show i+1+d=i+(d+1) by omega]
theorem Afq(hc:A4 P C U){size:Nat}{n n':E}{N:Nat}(hN:(N:Int)=n.den U){sp:List (E×Nat×A)}{l:List A}(Ol:∀p∈sp,p.1.den U<n'.den U):∀{m i:Nat} {Kj:List (E×Nat×A)},TT C size n sp l m i=some Kj->((N+i+m:Nat):Int)<=n'.den U->∀p∈Kj,p.1.den U<n'.den U:=by
 intro m
 induction m with
 |zero=>intro i Kj h _;cases h;exact Ol
 |succ m ih=>
  intro i Kj h hle;obtain⟨e,q,h1,h2,rfl⟩:=Rl h;have he:=JG hc h1;have GJ:e.den U=((N+i:Nat):Int):=by rw[he,<-hN];show (N:Int)+(i:Int)=_;omega
  exact U0 (by rw[GJ];omega) (ih h2 (by rw[show N+(i+1)+m=N+i+(m+1) by omega];exact hle))
theorem T8{z:Array Value}(hz:∀(i:Nat) (u:Value),z[i]? =some u->u.oneCell'=true)(hp:1<=z.size)(n:Nat):∀(i:Nat) (u:Value),(Builtin.zeroCells z n)[i]? =some u->u.oneCell'=true:=by
 intro i u hu;simp only[Builtin.zeroCells,Array.getElem?_map,Option.map_eq_some_iff]at hu;obtain⟨j,_,rfl⟩:=hu;have Au:j % z.size<z.size:=Nat.mod_lt _ (by omega);exact hz (j % z.size) _ (by rw[Array.getElem?_eq_getElem Au,getElem!_pos z _ Au])
theorem U4{t t' es:Nat}{n':E}{sp Kj:List (E×Nat×A)}{cs:Array Value}{ty:TypeId}{S N M:Nat}{Q:Nat->Nat->Value->Prop}(hS:cs.size=S)(hN':((N+M:Nat):Int)=n'.den U)(Eu:(N+M)*es<=S)
 (h1:∀(i:Nat) (u:Value),i<(N+M)*es->cs[i]? =some u->u.oneCell'=true) (Ol:∀p∈Kj,p.1.den U<n'.den U)
 (hold:∀j c,j<N->c<es->∃u,cs[j*es+c]? =some u/\B3 J U t sp j c u) (C7:∀j c,j<M->c<es->∃u,cs[(N+j)*es+c]? =some u/\Q j c u)
 (ho:∀j c u,j<N->c<es->B3 J U t sp j c u->B3 J U t' Kj j c u) (hn:∀j c u,j<M->c<es->Q j c u->B3 J U t' Kj (N+j) c u):BR J U C (.row t' es n' Kj) (.cells cs ty (0,0)) S:=by
 refine⟨cs,ty,N+M,rfl,hS,hN',Eu,h1,Ol,?_⟩;intro j c hj hc
 by_cases e:j<N
 ·obtain⟨u,q1,q2⟩:=hold j c e hc;exact⟨u,q1,ho j c u e hc q2⟩
 ·obtain⟨d,rfl⟩:∃d,j=N+d:=⟨j-N,by omega⟩
  obtain⟨u,q1,q2⟩:=C7 d c (by omega) hc;exact⟨u,q1,hn d c u (by omega) hc q2⟩
theorem Z6{c:Call}{t t2 el:TypeId}{s x:Operand}(Cb:c.callee=.builtin .append)(ho:o.op=.call c)(LI:c.argTypes.toList=[t,t2])(FG:c.args.toList=[s,x])
 {i:TypeInfo} {z:Value} (g1:P.underlying t=some (.slice el)) (g3:P.info? el=some i) (g4:i.zero=some z) (OG:1<=i.size) (hz:z.cells.size=i.size) (hz1:∀(j:Nat) (u:Value),z.cells[j]? =some u->u.oneCell'=true) (hby:i.bytes<=65536)
 {e:Operand->Value} {w:World} {p:Option Addr} {N K M:Nat} (hs:e s=.slice p N K) (hNK:N<=K) {news:List Value} (D9:Src P i.size t2 (e x) M news w) (h64:N+M<=1073741824)
 {Ek:List Value} (holds:Ek.length=N*i.size) (hold1:∀u∈Ek,u.oneCell'=true) (AM:(Builtin.firstCells i.size N (e s)).run P w.drew=.ok Ek.toArray w.drew):
 (N+M<=K/\∀w',(∀ad,p=some ad->(storeCells (ad.add (N*i.size)) news).run P w=.ok () w')->(p=none->w'=w)->Fk P e o w (.slice p (N+M) K) w')\/
 (∃(K' dn:Nat) (cs:Array Value),N+M<=K'/\cs.size=K'*i.size/\(∀(j:Nat) (u:Value),cs[j]? =some u->u.oneCell'=true)/\(∀j,j<(N+M)*i.size->cs[j]? =(Ek++news)[j]?)/\
  Fk P e o w (.slice (some ⟨w.heap.size,0,none⟩) (N+M) K') (push {w with drawn:=dn} (.cells cs el (0,0)))):=by
 have I6:∀{w':World} {v:Value},(Builtin.append_ #[t,t2] o.type #[e s,e x]).run P w=.ok v w'->Fk P e o w v w':=by
  intro w' v h;left;rw[FE ho Cb];have:Array.map e c.args= #[e s,e x]:=by rw[Ir FG];simp
  simp only[builtin,this,Ir LI,Sem.run_bind,h,Result.andThen_ok,Sem.run_pure]
 by_cases Eu:N+M<=K
 ·refine .inl ⟨Eu,fun w' BN Km=>I6 ?_⟩;rw[hs];cases p with
  |none=>
   have:=Km rfl;subst this;rcases D9.kind with ⟨e',hk⟩|hk<;>simp[Builtin.append_,run_underlying g1,run_underlying hk,Go.sizeOf,typeInfo,g3,D9.len,Eu,D9.cells]
  |some ad=>
   have BN:=BN ad rfl;rcases D9.kind with ⟨e',hk⟩|hk<;>simp[Builtin.append_,run_underlying g1,run_underlying hk,Go.sizeOf,typeInfo,g3,D9.len,Eu,D9.cells,BN]
 ·right;have hfit:Builtin.nextslicecap (N+M) K*i.bytes<=281474976710656:=by
   have h1:=Room.nextslicecap_le' (show K<N+M by omega);have h2:Builtin.nextslicecap (N+M) K*i.bytes<=2147483648*65536:=Nat.mul_le_mul (by omega) hby;omega
  have hr2:=run_append_grow_src (P:=P) w t t2 o.type el i z g1 g3 g4 p N K Ek (by rw[<-hs];exact AM) (e x) M news D9 (by omega) (by omega) hfit;rw[<-hs]at hr2;have K8:=Adz w (N+M) K el;have Dr:((Ek++news).toArray++Builtin.zeroCells z.cells (grownCap w (N+M) K el-(N+M))).size=grownCap w (N+M) K el*i.size:=by
   have h1:(Builtin.zeroCells z.cells (grownCap w (N+M) K el-(N+M))).size=(grownCap w (N+M) K el-(N+M))*i.size:=by simp[Builtin.zeroCells,hz]
   rw[Array.size_append,h1];simp only[List.size_toArray,List.length_append,holds,D9.newsLen];have h2:(N+M)*i.size<=grownCap w (N+M) K el*i.size:=Nat.mul_le_mul_right _ K8;rw[Nat.sub_mul];rw[Nat.add_mul]at h2 ⊢;omega
  have hl2:(Ek++news).length=(N+M)*i.size:=by rw[List.length_append,holds,D9.newsLen,Nat.add_mul]
  refine⟨grownCap w (N+M) K el,w.drawn+1,_,K8,Dr,?_,?_,I6 hr2⟩
  ·intro j u hu;rw[Array.getElem?_append]at hu;split at hu
   ·have hm:u∈Ek++news:=Oj (by simpa using hu);rcases List.mem_append.1 hm with q|q
    ·exact hold1 u q
    ·exact D9.one u q
   ·exact T8 hz1 (by omega) _ _ u hu
  ·intro j hj;rw[Array.getElem?_append_left (by simpa [hl2] using hj)];simp
end Eng
namespace Eng
open Go
variable {J J':A1} {U:An} {C:AB} {P:Program} {nl:Nat} {o:Oper}
theorem Rel.U2{h:H}{w:World}(hr:Rel J U C h w){b r S:Nat}(hb:J b=some (r,S)){X0 X:Aj}(hg:h.get b=some X0)(hX:∀c n f s,X0 ≠ .cells c n f (some s))(hXd:X0 ≠ .dead){ob:Obj}(hB:BR J U C X ob S)(hd:X ≠ .dead):
 Rel (GG J h.next (r,S)) U C ((h.put b .dead).new X) (putObj w r ob)/\Ext U J (GG J h.next (r,S)) h ((h.put b .dead).new X) w (putObj w r ob):=by
 have hs:=hr.Gn (r,S);have Au:=hr.lt b r S hb;have Dk:Live h b:=⟨_,hg,hXd⟩;have getn:∀i y,((h.put b .dead).new X).get i=some y->(i=h.next/\y=X)\/(i ≠ h.next/\i=b/\y=.dead)\/(i ≠ h.next/\i ≠ b/\h.get i=some y):=by
  intro i y hy;rcases H.CJ hy with ⟨e1,e2⟩|⟨e1,e2⟩
  ·exact .inl ⟨e1,e2⟩
  ·rcases H.By e2 with ⟨e3,e4⟩|⟨e3,e4⟩
   ·exact .inr (.inl ⟨e1,e3,e4⟩)
   ·exact .inr (.inr ⟨e1,e3,e4⟩)
 have live:∀i,i ≠ h.next->Live ((h.put b .dead).new X) i->i ≠ b/\Live h i:=by
  rintro i hi ⟨y,hy,hd⟩
  rcases getn i y hy with ⟨e,_⟩|⟨_,_,e⟩|⟨_,e,e2⟩
  ·exact absurd e hi
  ·exact absurd e hd
  ·exact⟨e,y,e2,hd⟩
 have one:=hr.one hb hg hX hXd;have ES:=hr.Am.step (J':=GG J h.next (r,S)) (h':=(h.put b .dead).new X) (w':=putObj w r ob) (fun i t hy=>Jb (fun _ e=>Aj.noConfusion e) i t (Ql hB.Fw i t hy)) (fun r' hf=>BM w ob fun e=>hr.Am.ours hb (e▸hf)) (AcH hb S);refine⟨⟨?_,?_,?_,fun r' o' hk=>⟨hr.Ale hb hk ob,hr.Alf hb hk⟩,ES.1⟩,⟨Nat.le_succ _,?_,?_,?_,?_,?_,ES.2 _,rfl,rfl,rfl,fun a _=>hr.Ge hb Dk (hB.GX hd) a⟩⟩
 ·intro i r' S' hi;show i<h.next+1
  by_cases e:i=h.next
  ·omega
  ·rw[A6 J _ e]at hi;have:=hr.lt i r' S' hi;omega
 ·intro i r' S' hi
  by_cases e:i=h.next
  ·subst e;rw[Ay]at hi;cases hi;refine⟨ob,Cf w ob (hr.lt_size hb),fun y hy=>?_⟩;rcases getn _ y hy with ⟨_,e⟩|⟨e,_⟩|⟨e,_⟩
   ·subst e;exact hB.mono hs
   ·exact absurd rfl e
   ·exact absurd rfl e
  ·rw[A6 J _ e]at hi;obtain⟨o,ho,hx⟩:=hr.AE i r' S' hi
   by_cases er:r'=r
   ·subst er;refine⟨ob,Cf w ob (hr.lt_size hb),fun y hy=>?_⟩
    by_cases KY:y=.dead
    ·subst KY;trivial
    ·obtain⟨q1,q2⟩:=live i e ⟨y,hy,KY⟩;exact absurd q2 (one i S' q1 hi)
   ·refine⟨o,(BM w ob er).trans ho,fun y hy=>?_⟩;rcases getn i y hy with ⟨e2,_⟩|⟨_,_,e2⟩|⟨_,_,e2⟩
    ·exact absurd e2 e
    ·subst e2;trivial
    ·exact (hx y e2).mono hs
 ·intro i j r' S1 S2 hi hj hli hlj
  by_cases e:i=h.next<;>by_cases e':j=h.next
  ·exact .inl (e.trans e'.symm)
  ·subst e;rw[Ay]at hi;rw[A6 J _ e']at hj;cases hi;obtain⟨q1,q2⟩:=live j e' hlj;exact absurd q2 (one j S2 q1 hj)
  ·subst e';rw[Ay]at hj;rw[A6 J _ e]at hi;cases hj;obtain⟨q1,q2⟩:=live i e hli;exact absurd q2 (one i S1 q1 hi)
  ·rw[A6 J _ e]at hi;rw[A6 J _ e']at hj;rcases hr.inj i j r' S1 S2 hi hj (live i e hli).2 (live j e' hlj).2 with q|⟨c,n,f,q⟩
   ·exact .inl q
   ·obtain⟨y,hy,hd⟩:=hli;rcases getn i y hy with ⟨e2,_⟩|⟨_,_,e2⟩|⟨_,_,e2⟩
    ·exact absurd e2 e
    ·exact absurd e2 hd
    ·rw[q]at e2;cases e2;exact .inr ⟨c,n,f,hy⟩
 ·intro i hi;exact A6 J _ (by omega)
 ·intro i r' S' hi he
  by_cases e:i=h.next
  ·subst e;rw[Ay]at he;cases he;exact .inr ⟨b,S,hb,Dk⟩
  ·rw[A6 J _ e,hr.EY hi]at he;cases he
 ·show _<=(w.heap.setIfInBounds r ob).size;simp
 ·intro i hi hl;exact (live i (by omega) hl).2
 ·intro r' IQ hn _
  by_cases e:r'=r
  ·subst e;exact absurd Dk (hn b S hb)
  ·exact BM w ob e
def Air(C:AB)(h:H)(size:Nat)(s:A)(t:Nat)(n:E)(sp:List (E×Nat×A))(h':H):Prop:=
 (s=.B7/\n=.lit 0/\sp=[]/\h'=h)\/((∀q∈sp,W9 C q.1 n=true)/\∃b,s=.C2 b size n/\h.get b=some (.row t size n sp)/\h'=h.put b .dead)
theorem Uv{h:H}{size:Nat}{s:A}{k:Nat->E->List (E×Nat×A)->H->OR}{r0:OR}{x:Rs}(hk:AnY C h size s k r0=some x):(∃t n sp h',k t n sp h'=some x/\Air C h size s t n sp h')\/r0=some x:=by
 cases s with
 |B7=>exact .inl ⟨0,.lit 0,[],h,hk,.inl ⟨rfl,rfl,rfl,rfl⟩⟩
 |C2 b es n=>
  obtain⟨t,JP,n',sp,hg,B1⟩:=Li (show CO h b _=some x from hk);obtain⟨hb,AW⟩:=Ap B1;simp only[Ah]at hb;obtain⟨b1,b2,b3,b4⟩:=hb;have e1:=beq_eq b1;have e2:=beq_eq b2;have e3:=Eng.Ac b3;subst e1;subst e2;subst e3;exact .inl ⟨t,n,sp,_,AW,.inr ⟨fun q hq=>Bf.1 b4 q hq,b,rfl,hg,rfl⟩⟩
 |_=>exact .inr hk
theorem Air.Ek{h h':H}{size:Nat}{s:A}{t:Nat}{n:E}{sp:List (E×Nat×A)}(hs:Air C h size s t n sp h')(hc:A4 P C U){w:World}(hr:Rel J U C h w){v:Value}(hv:AR J U s v):
 ∃(p:Option Addr) (N K:Nat) (Ek:List Value),v=.slice p N K/\N<=K/\(N:Int)=n.den U/\Ek.length=N*size/\(∀u∈Ek,u.oneCell'=true)/\
  (∀dn,(Builtin.firstCells size N v).run P {w with drawn:=dn}=.ok Ek.toArray {w with drawn:=dn})/\(∀j c,j<N->c<size->∃u,Ek[j*size+c]? =some u/\B3 J U t sp j c u)/\(∀q∈sp,q.1.den U<n.den U)/\
  ((p=none/\N=0/\K=0)\/∃b r S cs ty,s=.C2 b size n/\h.get b=some (.row t size n sp)/\h'=h.put b .dead/\J b=some (r,S)/\p=some ⟨r,0,none⟩/\K*size=S/\w.heap[r]? =some (.cells cs ty (0,0))/\cs.size=S/\
   (∀(i:Nat) (u:Value),i<N*size->cs[i]? =some u->u.oneCell'=true)/\Ek=cs.toList.take (N*size)):=by
 rcases hs with ⟨rfl,rfl,rfl,rfl⟩|⟨Au,b,rfl,hg,rfl⟩
 ·have hv:v=.slice none 0 0:=hv;subst hv;exact⟨none,0,0,[],rfl,Nat.le_refl _,rfl,by simp,by simp,fun dn=>rfl,fun j c hj=>absurd hj (Nat.not_lt_zero _),by simp,.inl ⟨rfl,rfl,rfl⟩⟩
 ·obtain⟨p,N,K,rfl,hN,hor⟩:=hv;rcases hor with ⟨rfl,rfl,rfl⟩|⟨r,S,hb,rfl,hK,hle⟩
  ·refine⟨none,0,0,[],rfl,Nat.le_refl _,hN,by simp,by simp,fun dn=>rfl,fun j c hj=>absurd hj (Nat.not_lt_zero _),fun q hq=>Ju hc (Au q hq),.inl ⟨rfl,rfl,rfl⟩⟩
  ·obtain⟨cs,ty,N',hw,h1,h2,h3,h4,Ol,h5⟩:=hr.row hb hg;have hNN:N'=N:=by rw[<-hN]at h2;omega
   subst hNN;have hlen:(cs.toList.take (N'*size)).length=N'*size:=by simp;omega
   have Bl:∀i,i<N'*size->(cs.toList.take (N'*size))[i]? =cs[i]? :=fun i hi=>by rw[List.getElem?_take_of_lt hi];simp
   refine⟨_,N',K,cs.toList.take (N'*size),rfl,hle,h2,hlen,?_,?_,?_,Ol,.inr ⟨b,r,S,cs,ty,rfl,hg,rfl,hb,rfl,hK,hw,h1,h4,rfl⟩⟩
   ·intro u hu;obtain⟨i,hi⟩:=List.getElem?_of_mem hu;have Au:=(Oq.1 hi).1;rw[hlen]at Au;rw[Bl i Au]at hi;exact h4 i u Au hi
   ·intro dn;have h6:=run_loadCells_list (P:=P) (w:={w with drawn:=dn}) ⟨r,0,none⟩ (cs.toList.take (N'*size)) (fun i u hi=>by
     have Au:=(Oq.1 hi).1;rw[hlen]at Au;rw[Bl i Au]at hi;rw[Bg,Nat.zero_add];exact (cell_of (w:={w with drawn:=dn}) hw).trans hi)
    rw[hlen]at h6;exact h6
   ·intro j c hj Ix;obtain⟨u,q1,q2⟩:=h5 j c hj Ix;refine⟨u,?_,q2⟩;rw[Bl]
    ·exact q1
    ·have:(j+1)*size<=N'*size:=Nat.mul_le_mul_right _ hj;rw[Nat.succ_mul]at this;omega
theorem SD{size:Nat}(p:Option Addr)(k:Nat)(w:World):(Builtin.firstCells size 0 (.slice p 0 k)).run P w=.ok ([]:List Value).toArray w:=by
 cases p with
 |none=>rfl
 |some a=>
  have h:=run_loadCells_list (P:=P) (w:=w) a [] (by simp);have h2:(loadCells a 0).run P w=.ok ([]:List Value).toArray w:=h;simp only[Builtin.firstCells,Nat.zero_mul];exact h2
theorem QV{c:Call}{t t2 el e2:TypeId}{s x:Operand}{ti ei ti2:TI}(ho:o.op=.call c)(Cb:c.callee=.builtin .append)(LI:c.argTypes.toList=[t,t2])(FG:c.args.toList=[s,x])
 (ht:C.ty t=some ti) (CV:ti.CR=.slice el) (hei:C.ty el=some ei) (ht2:C.ty t2=some ti2) (Ko:ti2.CR=.slice e2) (hby:ei.bytes<=65536) (OG:1<=ei.size)
 {pt:T AV} {tl:TL} {sa xa:A} (hu:(od nl s).val pt tl=some (.one sa)) (CT:(od nl x).val pt tl=some (.one xa)) {h:H} {k:K} {r0:OR} {r:Rs} (hk:TD C ei.size h sa xa k r0=some r):
 (∃v h',k v h'=some r/\∀P U J e w,A4 P C U->Rel J U C h w->Gp J U nl o.op pt tl e->∃v' w' J',Fk P e o w v' w'/\Bb J' U v v'/\Rel J' U C h' w'/\Ext U J J' h h' w w')\/r0=some r:=by
 have Cu:s∈o.op.operands/\x∈o.op.operands:=by simp[ho,Op.operands,Call.operands,Cb,Ir FG]
 have core:∀{t0:Nat} {n:E} {sp:List (E×Nat×A)} {h1:H} (t1:Nat) (n':E) (Kj:List (E×Nat×A)),Air C h ei.size sa t0 n sp h1->∀P U J e w,A4 P C U->Rel J U C h w->Gp J U nl o.op pt tl e->
  ∀(M:Nat) (news:List Value) (Q:Nat->Nat->Value->Prop),Src P ei.size t2 (e x) M news w->(∀j c,j<M->c<ei.size->∃u,news[j*ei.size+c]? =some u/\Q j c u)->
  n'.den U=n.den U+M->n'.den U<=1073741824->((∀q∈sp,q.1.den U<n.den U)->∀q∈Kj,q.1.den U<n'.den U)->
  (∀(J':A1) (N:Nat),Sub J J'->(N:Int)=n.den U->(∀j c u,j<N->c<ei.size->B3 J' U t0 sp j c u->B3 J' U t1 Kj j c u)/\(∀j c u,j<M->c<ei.size->Q j c u->B3 J' U t1 Kj (N+j) c u))->
  ∃v' w' J',Fk P e o w v' w'/\Bb J' U (.one (.C2 h.next ei.size n')) v'/\Rel J' U C (h1.new (.row t1 ei.size n' Kj)) w'/\Ext U J J' h (h1.new (.row t1 ei.size n' Kj)) w w':=by
  intro t0 n sp h1 t1 n' Kj Kg P U J e w hc hr A8 M news Q D9 hQ hn' h64 hsplt ET;have hs:=A8 s Cu.1 _ hu;obtain⟨p,N,K,Ek,he,hNK,hN,holds,hold1,hruns,Da,Ol,hor⟩:=Kg.Ek (P:=P) hc hr hs;obtain⟨i,q1,q2,q3,z,q4,zs,q5,q6,q7,_⟩:=(hc.ty el ei hei).info;have g1:P.underlying t=some (.slice el):=by rw[<-CV];exact (hc.ty t ti ht).CR
  have hz:z.cells.size=ei.size:=by rw[q5,<-q7,(q6 J U).length];simp
  have hz1:∀(j:Nat) (u:Value),z.cells[j]? =some u->u.oneCell'=true:=by
   intro j u hju;rw[q5]at hju;exact (q6 J U).AjR u (Oj (by simpa using hju))
  have hNM:((N+M:Nat):Int)=n'.den U:=by rw[hn',<-hN];omega
  have h64':N+M<=1073741824:=by omega
  have hsp':=hsplt Ol;have Qa:h1.next=h.next:=by
   rcases Kg with ⟨_,_,_,rfl⟩|⟨_,b,_,_,rfl⟩
   ·rfl
   ·rfl
  rw[<-q2]at D9 hz OG;rcases Z6 Cb ho LI FG g1 q1 q4 OG hz hz1 (by rw[q3];exact hby) he hNK D9 h64' (by rw[q2];exact holds) hold1 (by rw[q2];exact hruns (w.drawn+1)) with ⟨Eu,hex⟩|⟨K',dn,cs,hK',Ix,hcs1,Bl,hex⟩
  ·rcases hor with ⟨rfl,rfl,rfl⟩|⟨b,r,S,cs,ty,rfl,hg,rfl,hb,rfl,hK,hw,hS,OD,rfl⟩
   ·have hM:M=0:=by omega
    subst hM;have hex':=hex w (fun ad h=>by cases h) (fun _=>rfl);have hd:Rel J U C h1 w/\Ext U J J h h1 w w:=by
     rcases Kg with ⟨_,_,_,rfl⟩|⟨_,b,_,_,rfl⟩
     ·exact⟨hr,Ext.refl J h1 w hr⟩
     ·exact⟨hr.die b,Ext.die hr b⟩
    obtain⟨r1,x1⟩:=hd.1.QE (.row t1 ei.size n' Kj);exact⟨_,w,J,hex',⟨none,0,0,rfl,hNM,.inl ⟨rfl,rfl,rfl⟩⟩,r1,hd.2.trans hr hd.1 x1⟩
   ·have hroomS:N*ei.size+news.length<=cs.size:=by
     rw[D9.newsLen,q2,hS,<-hK,<-Nat.add_mul];exact Nat.mul_le_mul_right _ Eu
    have AM:=run_storeCells_at (P:=P) r (N*ei.size) ty news 0 cs w hw (by omega) D9.one;rw[Ew w r cs _ ty hw]at AM;have hex':=hex _ (fun ad had=>by
     cases had;rw[Bg,Nat.zero_add,q2];exact AM) (fun h=>by cases h)
    have hov:=Y8 cs news (N*ei.size) hroomS;have hB:BR J U C (.row t1 ei.size n' Kj) (.cells (cs.toList.take (N*ei.size+0)++news++cs.toList.drop (N*ei.size+0+news.length)).toArray ty (0,0)) S:=by
     obtain⟨Ic,hr2⟩:=ET J N (Sub.refl J) hN;refine U4 (N:=N) (M:=M) (t:=t0) (sp:=sp) (Q:=Q) ?_ hNM ?_ ?_ hsp' ?_ ?_ Ic hr2
     ·simp;omega
     ·rw[<-hK];exact Nat.mul_le_mul_right _ Eu
     ·intro j u hjl hju;rw[Nat.add_zero,hov]at hju;split at hju
      ·exact D9.one u (Oj hju)
      ·have hl:news.length=M*ei.size:=by rw[D9.newsLen,q2]
       rw[Nat.add_mul]at hjl;exact OD j u (by omega) hju
     ·intro j c hj PW;obtain⟨u,g2,g3⟩:=Da j c hj PW;refine⟨u,?_,g3⟩;have Au:j*ei.size+c<N*ei.size:=by
       have:(j+1)*ei.size<=N*ei.size:=Nat.mul_le_mul_right _ hj;rw[Nat.succ_mul]at this;omega
      rw[Nat.add_zero,hov,if_neg (by omega)];rw[List.getElem?_take_of_lt Au]at g2;simpa using g2
     ·intro j c hj PW;obtain⟨u,g2,g3⟩:=hQ j c hj PW;refine⟨u,?_,g3⟩;have Au:=(Oq.1 g2).1;rw[Nat.add_zero,hov,Nat.add_mul,if_pos ⟨by omega,by omega⟩,show N*ei.size+j*ei.size+c-N*ei.size=j*ei.size+c by omega];exact g2
    obtain⟨r1,x1⟩:=hr.U2 hb hg (by simp) (by simp) hB (by simp);exact⟨_,_,_,hex',⟨_,N+M,K,rfl,hNM,.inr ⟨r,S,Ay _ _ _,rfl,hK,Eu⟩⟩,r1,x1⟩
  ·have hd:Rel J U C h1 w/\Ext U J J h h1 w w:=by
    rcases Kg with ⟨_,_,_,rfl⟩|⟨_,b,_,_,rfl⟩
    ·exact⟨hr,Ext.refl J h1 w hr⟩
    ·exact⟨hr.die b,Ext.die hr b⟩
   have Ic:=hd.1.drew dn;have hs1:=hd.1.Gn (w.heap.size,K'*ei.size);rw[q2]at Ix Bl;have hB:BR (GG J h1.next (w.heap.size,K'*ei.size)) U C (.row t1 ei.size n' Kj) (.cells cs el (0,0)) (K'*ei.size):=by
    obtain⟨hr2,hr3⟩:=ET _ N hs1 hN;refine U4 (N:=N) (M:=M) (t:=t0) (sp:=sp) (Q:=Q) Ix hNM (Nat.mul_le_mul_right _ hK') (fun j u _=>hcs1 j u) hsp' ?_ ?_ hr2 hr3
    ·intro j c hj PW;obtain⟨u,g2,g3⟩:=Da j c hj PW;refine⟨u,?_,g3.mono hs1⟩;have Au:=(Oq.1 g2).1;rw[Bl _ (by rw[Nat.add_mul];omega),List.getElem?_append_left Au];exact g2
    ·intro j c hj PW;obtain⟨u,g2,g3⟩:=hQ j c hj PW;refine⟨u,?_,g3⟩;have Au:=(Oq.1 g2).1;have hl:news.length=M*ei.size:=by rw[D9.newsLen,q2]
     rw[Bl _ (by rw[Nat.add_mul,Nat.add_mul];omega),List.getElem?_append_right (by rw[holds,Nat.add_mul];omega),holds,Nat.add_mul,show N*ei.size+j*ei.size+c-N*ei.size=j*ei.size+c by omega];exact g2
   obtain⟨r1,x1⟩:=Ic.new (.row t1 ei.size n' Kj) (.cells cs el (0,0)) (K'*ei.size) hB;refine⟨_,_,_,hex,⟨_,N+M,K',rfl,hNM,.inr ⟨w.heap.size,K'*ei.size,?_,rfl,rfl,hK'⟩⟩,r1,(hd.2.trans hr hd.1 (Ext.drew hd.1 dn)).trans hr Ic x1⟩;rw[<-Qa];exact Ay _ _ _
 rcases Lj hk with ⟨b2,es2,lo,m,heq,Gy,B1⟩|⟨B1,Km⟩
 ·rcases Uv B1 with ⟨t0,n,sp,h1,AW,Kg⟩|AW
  ·left;obtain⟨tt2,JP,n2,sp2,hg2,B9⟩:=Li AW;obtain⟨hb,Eb⟩:=Ap B9;obtain⟨e3,he3,I7⟩:=Ar Eb;obtain⟨hle3,KX⟩:=Ap I7;obtain⟨t1,ht1,N4⟩:=Ar KX;obtain⟨n',hn',N5⟩:=Ar N4;obtain⟨h64,hk9⟩:=Ap N5;simp only[Ah]at hb;obtain⟨c1,c2⟩:=hb;have c1:=beq_eq c1;have c2:=beq_eq c2;subst c1;subst c2;simp only[Ah]at hle3;obtain⟨hout,hle3⟩:=hle3;refine⟨_,_,hk9,?_⟩;intro P U J e w hc hr A8;obtain⟨px,M,kx,hv,hMk,hM,hor⟩:=Gy J U (e x) (A8 x Cu.2 _ CT);have s1:=JG hc he3;have s2:=ON hc hle3;have s3:=JG hc hn';have s4:=ON hc h64;have hkind:P.underlying t2=some (.slice e2):=by rw[<-Ko];exact (hc.ty t2 ti2 ht2).CR
   have I9:∃(L:Nat) (news:List Value),(M=0\/(L:Int)=lo.den U)/\Src P ei.size t2 (e x) M news w/\∀j c,j<M->c<ei.size->∃u,news[j*ei.size+c]? =some u/\u=U.r tt2 (L+j) c:=by
    rcases hor with rfl|⟨r2,S2,L,MA,rfl,hL⟩
    ·refine⟨0,[],.inl rfl,⟨.inl ⟨e2,hkind⟩,fun w'=>by rw[hv];rfl,?_,?_,by simp,by simp⟩,fun j c hj=>absurd hj (Nat.not_lt_zero _)⟩
     ·rw[hv];exact SD px kx w
     ·rw[hv];exact SD px kx w.drew
    ·obtain⟨cs,ty,N2,hw,g1,g2,g3,g4,gsp,g5⟩:=hr.row MA hg2;have hLM:L+M<=N2:=by rw[s1,<-hL,<-hM,<-g2]at s2;omega
     have Eu:L*ei.size+M*ei.size<=cs.size:=by
      have:(L+M)*ei.size<=N2*ei.size:=Nat.mul_le_mul_right _ hLM;rw[Nat.add_mul]at this;omega
     have hlen:((cs.toList.drop (L*ei.size)).take (M*ei.size)).length=M*ei.size:=by simp;omega
     have Bl:∀i,i<M*ei.size->((cs.toList.drop (L*ei.size)).take (M*ei.size))[i]? =cs[L*ei.size+i]? :=fun i hi=>by rw[List.getElem?_take_of_lt hi,List.getElem?_drop];simp
     have AM:∀dn,(Builtin.firstCells ei.size M (e x)).run P {w with drawn:=dn}=.ok ((cs.toList.drop (L*ei.size)).take (M*ei.size)).toArray {w with drawn:=dn}:=by
      intro dn;rw[hv];have h6:=run_loadCells_list (P:=P) (w:={w with drawn:=dn}) ⟨r2,L*ei.size,none⟩ ((cs.toList.drop (L*ei.size)).take (M*ei.size)) (fun i u hi=>by
       have Au:=(Oq.1 hi).1;rw[hlen]at Au;rw[Bl i Au]at hi;rw[Bg];exact (cell_of (w:={w with drawn:=dn}) hw).trans hi)
      rw[hlen]at h6;exact h6
     refine⟨L,_,.inr hL,⟨.inl ⟨e2,hkind⟩,fun w'=>by rw[hv];rfl,AM w.drawn,AM (w.drawn+1),hlen,?_⟩,?_⟩
     ·intro u Ko;obtain⟨i,hi⟩:=List.getElem?_of_mem Ko;have Au:=(Oq.1 hi).1;rw[hlen]at Au;rw[Bl i Au]at hi;exact g4 (L*ei.size+i) u (by
       have:(L+M)*ei.size<=N2*ei.size:=Nat.mul_le_mul_right _ hLM;rw[Nat.add_mul]at this;omega) hi
     ·intro j c hj PW;have Au:j*ei.size+c<M*ei.size:=by
       have:(j+1)*ei.size<=M*ei.size:=Nat.mul_le_mul_right _ hj;rw[Nat.succ_mul]at this;omega
      obtain⟨u,q1,q2⟩:=g5 (L+j) c (by omega) PW;have Km:Ao U (L+j) c sp2=none:=NX fun p hp=>by
       have:=Bf.1 hout p hp;rw[Bool.or_eq_true]at this;rcases this with h0|h0
       ·have:=Ju hc h0;omega
       ·have:=ON hc h0;rw[s1]at this;omega
      unfold B3 at q2;rw[Km]at q2;refine⟨u,?_,q2⟩;rw[Bl _ Au,<-q1,Nat.add_mul,Nat.add_assoc]
   obtain⟨L,news,hL,D9,hQ⟩:=I9;refine core t1 n' sp Kg P U J e w hc hr A8 M news (fun j c u=>u=U.r tt2 (L+j) c) D9 hQ (by rw[s3,<-hM]) s4 (fun Ol q hq=>by have:=Ol q hq;rw[s3,<-hM];omega) ?_;intro J' N hs hN;have Ib:∀j c,N<=j->(∀q∈sp,q.1.den U<n.den U)->Ao U j c sp=none:=fun j c hj Ol=>NX fun p hp=>by have:=Ol p hp;rw[<-hN]at this;omega
   have hspn:∀q∈sp,q.1.den U<n.den U:=by
    rcases Kg with ⟨_,_,rfl,_⟩|⟨Au,_⟩
    ·simp
    ·exact fun q hq=>Ju hc (Au q hq)
   have hcat:=hc.cat _ _ _ _ _ _ ht1 N M hN hM;refine⟨fun j c u hj PW hR=>?_,fun j c u hj PW hR=>?_⟩
   ·unfold B3 at hR ⊢;split
    ·rename_i a ha;rw[ha]at hR;exact hR
    ·rename_i ha;rw[ha]at hR;rw[hcat j c (by omega),if_pos hj];exact hR
   ·have hL:=hL.resolve_left (by omega);unfold B3;rw[Ib (N+j) c (by omega) hspn];show u=U.r t1 (N+j) c;rw[hcat (N+j) c (by omega),if_neg (by omega),show N+j-N=j by omega,<-hL];exact hR
  ·exact .inr AW
 ·cases hos:Alc sa with
  |false=>rw[hos]at B1;exact .inr B1
  |true=>
   rw[hos]at B1;simp only[cond_true]at B1;rcases Uv B1 with ⟨t0,n,sp,h1,AW,Kg⟩|AW
   ·left;obtain⟨m,B9,_,hlen⟩:=OO AW;obtain⟨new,Eb,hnl,hfirst⟩:=Pt (C:=C) B9;obtain⟨Kj,hsp',I7⟩:=Ar Eb;obtain⟨n',hn',KX⟩:=Ar I7;obtain⟨h64,N4⟩:=Ap KX;rw[Ah]at h64;refine⟨_,_,N4,?_⟩;intro P U J e w hc hr A8;have hx:=A8 x Cu.2 _ CT;obtain⟨base,cp,hxv⟩:=hlen J U _ hx;obtain⟨news,hf,AM⟩:=hfirst P U J w _ hr hx;have s3:=JG hc hn';have s4:=ON hc h64.1;have s3':n'.den U=n.den U+(m:Int):=s3;have hkind:P.underlying t2=some (.slice e2):=by rw[<-Ko];exact (hc.ty t2 ti2 ht2).CR
    have D9:Src P ei.size t2 (e x) m news w:=⟨.inl ⟨e2,hkind⟩,fun w'=>by rw[hxv];rfl,AM w.drawn,AM (w.drawn+1),by rw[<-hf.length,hnl],hf.AjR⟩;have hspn:∀q∈sp,q.1.den U<n.den U:=by
     rcases Kg with ⟨_,_,rfl,_⟩|⟨Au,_⟩
     ·simp
     ·exact fun q hq=>Ju hc (Au q hq)
    have hNex:∃N:Nat,(N:Int)=n.den U:=by
     obtain⟨_,N,_,_,_,_,hN,_⟩:=Kg.Ek (P:=P) hc hr (A8 s Cu.1 _ hu);exact⟨N,hN⟩
    refine core t0 n' Kj Kg P U J e w hc hr A8 m news (fun j c u=>∃a,new[j*ei.size+c]? =some a/\AR J U a u) D9 ?_ s3' s4 ?_ ?_
    ·intro j c hj PW;have Au:j*ei.size+c<m*ei.size:=by
      have:(j+1)*ei.size<=m*ei.size:=Nat.mul_le_mul_right _ hj;rw[Nat.succ_mul]at this;omega
     obtain⟨a,ha⟩:∃a,new[j*ei.size+c]? =some a:=⟨_,List.getElem?_eq_getElem (by rw[hnl];exact Au)⟩
     obtain⟨u,hu3,Gy⟩:=hf.get ha;exact⟨u,hu3,a,ha,Gy⟩
    ·intro Ol;obtain⟨N,hN⟩:=hNex;exact Afq hc hN (fun q hq=>by have:=Ol q hq;omega) hsp' (by rw[s3',<-hN];omega)
    ·intro J' N hs hN;have hlook:=fun j c=>ZP hc hN (j:=j) (c:=c) hsp' (by rw[hnl,Nat.zero_add];exact Nat.le_refl _)
     refine⟨fun j c u hj PW hR=>?_,fun j c u hj PW hR=>?_⟩
     ·unfold B3 at hR ⊢;rw[(hlook j c).1 (.inl (by omega))];exact hR
     ·obtain⟨a,ha,Gy⟩:=hR;unfold B3;rw[(hlook (N+j) c).2 j hj (by omega) PW,Nat.zero_add,ha];exact Gy.mono hs
   ·exact .inr AW
end Eng
namespace Eng
open Go
variable {J J':A1} {U:An} {C:AB} {P:Program} {nl:Nat} {o:Oper}
theorem X5(w:World)(BA CW:Nat)(e:TypeId):BA<=grownCap w BA CW e:=by
 unfold grownCap Question.cut;simp
theorem Rel.grow{h:H}{w:World}(hr:Rel J U C h w){cs:List A}{vs:List Value}(hf:F2 (AR J U) cs vs){size BA cap:Nat}(hlen:cs.length=BA*size)(Fm:BA<=cap){z:Array Value}(hz:z.size=size)(e:TypeId)(Th:Option Nat)(dn:Nat):
 BR (GG J h.next (w.heap.size,cap*size)) U C (.cells (T.ofList cs) (Nat.mul BA size) false Th) (.cells (vs.toArray++Builtin.zeroCells z (cap-BA)) e (0,0)) (cap*size)/\
 Rel (GG J h.next (w.heap.size,cap*size)) U C (h.new (.cells (T.ofList cs) (Nat.mul BA size) false Th)) (push {w with drawn:=dn} (.cells (vs.toArray++Builtin.zeroCells z (cap-BA)) e (0,0)))/\
 Ext U J (GG J h.next (w.heap.size,cap*size)) h (h.new (.cells (T.ofList cs) (Nat.mul BA size) false Th)) w (push {w with drawn:=dn} (.cells (vs.toArray++Builtin.zeroCells z (cap-BA)) e (0,0))):=by
 have Ic:=hr.drew dn;have hs:=hr.Gn (w.heap.size,cap*size);have hmul:BA*size<=cap*size:=Nat.mul_le_mul_right _ Fm;have hsize:(vs.toArray++Builtin.zeroCells z (cap-BA)).size=cap*size:=by
  have h1:(Builtin.zeroCells z (cap-BA)).size=(cap-BA)*size:=by simp[Builtin.zeroCells,hz]
  rw[Array.size_append,h1];have h2:=hf.length;simp;rw[<-h2,hlen,Nat.sub_mul];omega
 have hB:BR (GG J h.next (w.heap.size,cap*size)) U C (.cells (T.ofList cs) (Nat.mul BA size) false Th) (.cells (vs.toArray++Builtin.zeroCells z (cap-BA)) e (0,0)) (cap*size):=by
  refine⟨_,e,rfl,hsize,hmul,by simp,?_⟩;intro i a hi ha;obtain⟨v,hv,Gy⟩:=hf.get (T.CZ ha);refine⟨v,?_,Gy.mono hs⟩;have Au:=(Oq.1 hv).1;rw[Array.getElem?_append_left (by simpa using Au)];simpa using hv
 obtain⟨r1,x1⟩:=Ic.new (.cells (T.ofList cs) (Nat.mul BA size) false Th) (.cells (vs.toArray++Builtin.zeroCells z (cap-BA)) e (0,0)) (cap*size) hB;exact⟨hB,r1,(Ext.drew hr dn).trans hr Ic x1⟩
theorem C8{h:H}{b:Nat}{X Yzz:Aj}{Th:Option Nat}{i:Nat}{y:Aj}(hg:(CP ((h.new X).put b Yzz) Th).get i=some y)(hd:y ≠ .dead):
 Th ≠ some i/\((i=b/\y=Yzz)\/(i ≠ b/\i=h.next/\y=X)\/(i ≠ b/\i ≠ h.next/\h.get i=some y)):=by
 obtain⟨h1,h2⟩:=Rz hg hd;refine⟨h1,?_⟩;rcases H.By h2 with ⟨e1,e2⟩|⟨e1,e2⟩
 ·exact .inl ⟨e1,e2⟩
 ·rcases H.CJ e2 with ⟨e3,e4⟩|⟨e3,e4⟩
  ·exact .inr (.inl ⟨e1,e3,e4⟩)
  ·exact .inr (.inr ⟨e1,e3,e4⟩)
theorem Rel.AnF{h:H}{w:World}(hr:Rel J U C h w){b r S:Nat}(hb:J b=some (r,S)){c:T A}{m:Nat}{f:Bool}{s:Option Nat}(hg:h.get b=some (.cells c m f s)){X Yzz:Aj}{ob:Obj}{S1 dn:Nat}
 (hX:BR (GG J h.next (w.heap.size,S1)) U C X ob S1) (hY:Yzz=.dead\/Yzz=.cells c m f (some h.next)) (hXd:X ≠ .dead:=by simp):
 Rel (GG J h.next (w.heap.size,S1)) U C (CP ((h.new X).put b Yzz) s) (push {w with drawn:=dn} ob)/\
 Ext U J (GG J h.next (w.heap.size,S1)) h (CP ((h.new X).put b Yzz) s) w (push {w with drawn:=dn} ob):=by
 have hs:=hr.Gn (w.heap.size,S1);have Au:=hr.lt b r S hb;have hnext:(CP ((h.new X).put b Yzz) s).next=h.next+1:=by rw[KO];rfl
 have GA:∀i,i ≠ h.next->Live (CP ((h.new X).put b Yzz) s) i->Live h i:=by
  rintro i hi ⟨y,hy,hd⟩
  obtain⟨_,h1⟩:=C8 hy hd;rcases h1 with ⟨rfl,rfl⟩|⟨_,e,_⟩|⟨_,_,e⟩
  ·exact⟨_,hg,by simp⟩
  ·exact absurd e hi
  ·exact⟨y,e,hd⟩
 have ES:=hr.Am.step (J':=GG J h.next (w.heap.size,S1)) (h':=CP ((h.new X).put b Yzz) s) (w':=push {w with drawn:=dn} ob) (fun i t hy=>by
  rcases (C8 hy (fun e=>Aj.noConfusion e)).2 with ⟨_,e⟩|⟨_,_,e⟩|⟨_,_,e⟩
  ·rcases hY with hY|hY<;>(rw[hY]at e;cases e)
  ·exact absurd e.symm (hX.Fw t)
  ·exact e) (fun r' hf=>C9 {w with drawn:=dn} ob (hr.Am.lt hf)) (QI w.heap.size S1)
 refine⟨⟨?_,?_,?_,fun r' o' hk=>⟨(C9 {w with drawn:=dn} ob (hr.Yf hk)).trans (hr.kept r' o' hk).1,hr.Age (Nat.le_refl _) hk⟩,ES.1⟩,⟨?_,?_,?_,?_,?_,?_,ES.2 _,rfl,rfl,rfl,fun a _=>K4 {w with drawn:=dn} (hX.GX hXd) a⟩⟩
 ·intro i r' S' hi;rw[hnext]
  by_cases e:i=h.next
  ·omega
  ·rw[A6 J _ e]at hi;have:=hr.lt i r' S' hi;omega
 ·intro i r' S' hi
  by_cases e:i=h.next
  ·subst e;rw[Ay]at hi;cases hi;refine⟨ob,Hi {w with drawn:=dn} ob,?_⟩;intro y hy
   by_cases hd:y=.dead
   ·subst hd;trivial
   ·obtain⟨_,h1⟩:=C8 hy hd;rcases h1 with ⟨e,_⟩|⟨_,_,rfl⟩|⟨_,e,_⟩
    ·omega
    ·exact hX
    ·exact absurd rfl e
  ·rw[A6 J _ e]at hi;obtain⟨o',ho,hx⟩:=hr.AE i r' S' hi;refine⟨o',by rw[C9 {w with drawn:=dn} ob (hr.lt_size hi)];exact ho,?_⟩;intro y hy
   by_cases hd:y=.dead
   ·subst hd;trivial
   ·obtain⟨_,h1⟩:=C8 hy hd;rcases h1 with ⟨rfl,rfl⟩|⟨_,e2,_⟩|⟨_,_,e2⟩
    ·rcases hY with hY|hY
     ·exact absurd hY hd
     ·subst hY;exact (BR.mono hs (hx _ hg):BR _ U C (.cells c m f s) o' S')
    ·exact absurd e2 e
    ·exact (hx y e2).mono hs
 ·intro i j r' S1' S2' hi hj hli hlj
  by_cases e:i=h.next
  ·by_cases e':j=h.next
   ·exact .inl (e.trans e'.symm)
   ·subst e;rw[Ay]at hi;rw[A6 J _ e']at hj;cases hi;have:=hr.lt_size hj;omega
  ·by_cases e':j=h.next
   ·subst e';rw[Ay]at hj;rw[A6 J _ e]at hi;cases hj;have:=hr.lt_size hi;omega
   ·rw[A6 J _ e]at hi;rw[A6 J _ e']at hj;rcases hr.inj i j r' S1' S2' hi hj (GA i e hli) (GA j e' hlj) with h1|⟨c1,n1,f1,h1⟩
    ·exact .inl h1
    ·obtain⟨y,hy,hd⟩:=hli;obtain⟨_,h2⟩:=C8 hy hd;rcases h2 with ⟨rfl,rfl⟩|⟨_,e2,_⟩|⟨_,_,e2⟩
     ·rw[hg]at h1;cases h1;obtain⟨y',FH,hd'⟩:=hlj;exact absurd rfl (C8 FH hd').1
     ·exact absurd e2 e
     ·rw[h1]at e2;cases e2;exact .inr ⟨c1,n1,f1,hy⟩
 ·rw[hnext];omega
 ·intro i hi;exact A6 J _ (by omega)
 ·intro i r' S' hi he
  by_cases e:i=h.next
  ·subst e;rw[Ay]at he;cases he;exact .inl (Nat.le_refl _)
  ·rw[A6 J _ e,hr.EY hi]at he;simp at he
 ·show _<=(w.heap.push ob).size;simp
 ·intro i hi hl;exact GA i (by omega) hl
 ·intro r' IQ _ _;exact C9 {w with drawn:=dn} ob IQ
theorem Rel.AnG{h:H}{w:World}(hr:Rel J U C h w){b r S:Nat}(hb:J b=some (r,S)){c:T A}{m:Nat}{f:Bool}{s:Option Nat}(hg:h.get b=some (.cells c m f s)){c':T A}{n':Nat}{AL:Bool}{ob:Obj}
 (hX:BR J U C (.cells c' n' false (bif AL then some b else none)) ob S) (hY:AL=true->BR J U C (.cells c m f (some h.next)) ob S):
 Rel (GG J h.next (r,S)) U C (CP ((h.new (.cells c' n' false (bif AL then some b else none))).put b (bif AL then .cells c m f (some h.next) else .dead)) s) (putObj w r ob)/\
 Ext U J (GG J h.next (r,S)) h (CP ((h.new (.cells c' n' false (bif AL then some b else none))).put b (bif AL then .cells c m f (some h.next) else .dead)) s) w (putObj w r ob):=by
 have hs:=hr.Gn (r,S);have Au:=hr.lt b r S hb;have Dk:Live h b:=⟨_,hg,by simp⟩;generalize hXe:Aj.cells c' n' false (bif AL then some b else none)=X at hX;generalize hYe:(bif AL then Aj.cells c m f (some h.next) else .dead)=Yzz;have hnext:(CP ((h.new X).put b Yzz) s).next=h.next+1:=by rw[KO];rfl
 have GA:∀i,i ≠ h.next->Live (CP ((h.new X).put b Yzz) s) i->Live h i:=by
  rintro i hi ⟨y,hy,hd⟩
  obtain⟨_,h1⟩:=C8 hy hd;rcases h1 with ⟨rfl,rfl⟩|⟨_,e,_⟩|⟨_,_,e⟩
  ·exact⟨_,hg,by simp⟩
  ·exact absurd e hi
  ·exact⟨y,e,hd⟩
 have at_r:∀i S',i ≠ h.next->J i=some (r,S')->Live (CP ((h.new X).put b Yzz) s) i->i=b/\AL=true:=by
  intro i S' hi hir hl;rcases hr.shares hb hg hir (GA i hi hl) with e|e
  ·refine⟨e,?_⟩;subst e;cases hk:AL with
   |true=>rfl
   |false=>
    rw[hk]at hYe;obtain⟨y,hy,hd⟩:=hl;rcases (C8 hy hd).2 with ⟨_,rfl⟩|⟨e2,_⟩|⟨e2,_⟩
    ·exact absurd hYe.symm hd
    ·exact absurd rfl e2
    ·exact absurd rfl e2
  ·obtain⟨y,hy,hd⟩:=hl;exact absurd e (C8 hy hd).1
 have ES:=hr.Am.step (J':=GG J h.next (r,S)) (h':=CP ((h.new X).put b Yzz) s) (w':=putObj w r ob) (fun i t hy=>by
  rcases (C8 hy (fun e=>Aj.noConfusion e)).2 with ⟨_,e⟩|⟨_,_,e⟩|⟨_,_,e⟩
  ·cases AL with
   |true=>rw[<-hYe]at e;cases e
   |false=>rw[<-hYe]at e;cases e
  ·rw[<-hXe]at e;cases e
  ·exact e) (fun r' hf=>BM w ob fun e=>hr.Am.ours hb (e▸hf)) (AcH hb S)
 refine⟨⟨?_,?_,?_,fun r' o' hk=>⟨hr.Ale hb hk ob,hr.Alf hb hk⟩,ES.1⟩,⟨?_,?_,?_,?_,?_,?_,ES.2 _,rfl,rfl,rfl,fun a _=>hr.Ge hb Dk (hX.GX (by rw[<-hXe];simp)) a⟩⟩
 ·intro i r' S' hi;rw[hnext]
  by_cases e:i=h.next
  ·omega
  ·rw[A6 J _ e]at hi;have:=hr.lt i r' S' hi;omega
 ·intro i r' S' hi
  by_cases e:i=h.next
  ·subst e;rw[Ay]at hi;cases hi;refine⟨ob,Cf w ob (hr.lt_size hb),?_⟩;intro y hy
   by_cases hd:y=.dead
   ·subst hd;trivial
   ·obtain⟨_,h1⟩:=C8 hy hd;rcases h1 with ⟨e,_⟩|⟨_,_,rfl⟩|⟨_,e,_⟩
    ·omega
    ·exact hX.mono hs
    ·exact absurd rfl e
  ·rw[A6 J _ e]at hi
   by_cases er:r'=r
   ·subst er;refine⟨ob,Cf w ob (hr.lt_size hb),?_⟩;intro y hy
    by_cases hd:y=.dead
    ·subst hd;trivial
    ·obtain⟨rfl,hk⟩:=at_r i S' e hi ⟨y,hy,hd⟩;rw[hb]at hi;cases hi;rcases (C8 hy hd).2 with ⟨_,rfl⟩|⟨e2,_⟩|⟨e2,_⟩
     ·rw[<-hYe,hk];exact (hY hk).mono hs
     ·exact absurd rfl e2
     ·exact absurd rfl e2
   ·obtain⟨o',ho,hx⟩:=hr.AE i r' S' hi;refine⟨o',by rw[BM w ob er];exact ho,?_⟩;intro y hy
    by_cases hd:y=.dead
    ·subst hd;trivial
    ·obtain⟨_,h1⟩:=C8 hy hd;rcases h1 with ⟨rfl,_⟩|⟨_,e2,_⟩|⟨_,_,e2⟩
     ·rw[hb]at hi;cases hi;exact absurd rfl er
     ·exact absurd e2 e
     ·exact (hx y e2).mono hs
 ·intro i j r' S1' S2' hi hj hli hlj
  by_cases e:i=h.next
  ·by_cases e':j=h.next
   ·exact .inl (e.trans e'.symm)
   ·subst e;rw[Ay]at hi;rw[A6 J _ e']at hj;cases hi;obtain⟨rfl,hk⟩:=at_r j _ e' hj hlj;obtain⟨y,hy,hd⟩:=hli;rcases (C8 hy hd).2 with ⟨e2,_⟩|⟨_,_,rfl⟩|⟨_,e2,_⟩
    ·omega
    ·rw[hk]at hXe;exact .inr ⟨c',n',false,hy.trans (congrArg some hXe.symm)⟩
    ·exact absurd rfl e2
  ·by_cases e':j=h.next
   ·subst e';rw[Ay]at hj;rw[A6 J _ e]at hi;cases hj;obtain⟨rfl,hk⟩:=at_r i _ e hi hli;obtain⟨y,hy,hd⟩:=hli;rcases (C8 hy hd).2 with ⟨_,rfl⟩|⟨e2,_⟩|⟨e2,_⟩
    ·rw[hk]at hYe;exact .inr ⟨c,m,f,hy.trans (congrArg some hYe.symm)⟩
    ·exact absurd rfl e2
    ·exact absurd rfl e2
   ·rw[A6 J _ e]at hi;rw[A6 J _ e']at hj;rcases hr.inj i j r' S1' S2' hi hj (GA i e hli) (GA j e' hlj) with h1|⟨c1,n1,f1,h1⟩
    ·exact .inl h1
    ·obtain⟨y,hy,hd⟩:=hli;obtain⟨_,h2⟩:=C8 hy hd;rcases h2 with ⟨rfl,_⟩|⟨_,e2,_⟩|⟨_,_,e2⟩
     ·rw[hg]at h1;cases h1;obtain⟨y',FH,hd'⟩:=hlj;exact absurd rfl (C8 FH hd').1
     ·exact absurd e2 e
     ·rw[h1]at e2;cases e2;exact .inr ⟨c1,n1,f1,hy⟩
 ·rw[hnext];omega
 ·intro i hi;exact A6 J _ (by omega)
 ·intro i r' S' hi he
  by_cases e:i=h.next
  ·subst e;rw[Ay]at he;cases he;exact .inr ⟨b,S,hb,Dk⟩
  ·rw[A6 J _ e,hr.EY hi]at he;simp at he
 ·show _<=(w.heap.setIfInBounds r ob).size;simp
 ·intro i hi hl;exact GA i (by omega) hl
 ·intro r' IQ hn _
  by_cases e:r'=r
  ·subst e;exact absurd Dk (hn b S hb)
  ·exact BM w ob e
theorem Qw{t el:TypeId}(hc:A4 P C U){ti:TI}(ht:C.ty t=some ti)(hu:ti.CR=.slice el):P.underlying t=some (.slice el):=by rw[<-hu];exact (hc.ty t ti ht).CR
theorem Pm{t t2 ty el e2:TypeId}{i:TypeInfo}(ht:P.underlying t=some (.slice el))(h2:P.underlying t2=some (.slice e2))(hi:P.info? el=some i){base:Option Addr}{sLen sCap n:Nat}{x:Value}{news:List Value}{w:World}
 (hl:(Builtin.lenOf x).run P w=.ok n w) (FF:(Builtin.firstCells i.size n x).run P w=.ok news.toArray w) (Eu:sLen+n<=sCap):
 (Builtin.append_ #[t,t2] ty #[.slice base sLen sCap,x]).run P w=(match base with |some a=>(storeCells (a.add (sLen*i.size)) news).run P w|none=>.ok () w).andThen fun _ w'=>.ok (.slice base (sLen+n) sCap) w':=by
 cases base with
 |none=>simp[Builtin.append_,run_underlying ht,run_underlying h2,Go.sizeOf,typeInfo,hi,hl,Eu,FF]
 |some a=>
  simp[Builtin.append_,run_underlying ht,run_underlying h2,Go.sizeOf,typeInfo,hi,hl,Eu,FF]
theorem Z5{c:Call}{t t2 el e2:TypeId}{s x:Operand}{ti ei ti2:TI}(ho:o.op=.call c)(Cb:c.callee=.builtin .append)(LI:c.argTypes.toList=[t,t2])(FG:c.args.toList=[s,x])
 (ht:C.ty t=some ti) (CV:ti.CR=.slice el) (hei:C.ty el=some ei) (ht2:C.ty t2=some ti2) (Ko:ti2.CR=.slice e2) (hby:ei.bytes<=65536) (OG:1<=ei.size):Ks C nl o (A5 (.n2 (Y1 C ei.size) (od nl s) (od nl x))):=by
 intro rec X k pt tl h r hk;obtain⟨u,hu,B1⟩:=Aq (show ev (od nl s) pt tl _=some r from hk);obtain⟨sa,rfl,AW⟩:=AY B1;obtain⟨u',CT,B9⟩:=Aq (show ev (od nl x) pt tl _=some r from AW);obtain⟨xa,rfl,Eb⟩:=AY B9;rcases QV ho Cb LI FG ht CV hei ht2 Ko hby OG hu CT Eb with hdone|Eb
 ·exact hdone
 obtain⟨n,I7,_,hn⟩:=OO (show AdC xa _=some r from Eb);obtain⟨new,KX,hnl,hfirst⟩:=Pt (C:=C) I7;have Cu:s∈o.op.operands/\x∈o.op.operands:=by simp[ho,Op.operands,Call.operands,Cb,Ir FG]
 have I6:∀{P:Program} {e:Operand->Value} {w w':World} {v:Value},(Builtin.append_ #[t,t2] o.type #[e s,e x]).run P w=.ok v w'->Fk P e o w v w':=by
  intro P e w w' v h;left;rw[FE ho Cb];have:Array.map e c.args= #[e s,e x]:=by rw[Ir FG];simp
  simp only[builtin,this,Ir LI,Sem.run_bind,h,Result.andThen_ok,Sem.run_pure]
 have src:∀(P:Program) (U:An) (J:A1) (e:Operand->Value) (w:World),A4 P C U->Rel J U C h w->Gp J U nl o.op pt tl e->
  ∃(i:TypeInfo) (z:Value) (news:List Value),P.underlying t=some (.slice el)/\P.underlying t2=some (.slice e2)/\P.info? el=some i/\i.zero=some z/\i.size=ei.size/\i.bytes=ei.bytes/\z.cells.size=ei.size/\
   F2 (AR J U) new news/\Src P i.size t2 (e x) n news w:=by
  intro P U J e w hc hr A8;obtain⟨i,h1,h2,h3,z,h4,zs,h5,h6,h7,_⟩:=(hc.ty el ei hei).info;have hx:=A8 x Cu.2 _ CT;obtain⟨base,cp,hxv⟩:=hn J U _ hx;obtain⟨news,hf,AM⟩:=hfirst P U J w _ hr hx;refine⟨i,z,news,Qw hc ht CV,Qw hc ht2 Ko,h1,h4,h2,h3,by rw[h5,<-h7,(h6 J U).length];simp,hf,⟨.inl ⟨e2,Qw hc ht2 Ko⟩,fun w'=>by rw[hxv];rfl,?_,?_,?_,hf.one⟩⟩
  ·rw[h2];exact AM w.drawn
  ·rw[h2];exact AM (w.drawn+1)
  ·rw[<-hf.length,hnl,h2]
 have grow:∀(P:Program) (U:An) (J:A1) (e:Operand->Value) (w:World) (base:Option Addr) (ln cap:Nat) (CW:List A) (Ek:List Value) (Th:Option Nat),A4 P C U->Rel J U C h w->Gp J U nl o.op pt tl e->
  e s=.slice base ln cap->cap<ln+n->ln+n<=65536->F2 (AR J U) CW Ek->CW.length=ln*ei.size->(∀dn,(Builtin.firstCells ei.size ln (e s)).run P {w with drawn:=dn}=.ok Ek.toArray {w with drawn:=dn})->
  ∃v' ob S1 dn,Fk P e o w v' (push {w with drawn:=dn} ob)/\AR (GG J h.next (w.heap.size,S1)) U (.KW h.next 0 (Nat.add ln n) ei.size) v'/\
   BR (GG J h.next (w.heap.size,S1)) U C (.cells (T.ofList (app CW new)) (Nat.mul (Nat.add ln n) ei.size) false Th) ob S1/\
   Rel (GG J h.next (w.heap.size,S1)) U C (h.new (.cells (T.ofList (app CW new)) (Nat.mul (Nat.add ln n) ei.size) false Th)) (push {w with drawn:=dn} ob)/\
   Ext U J (GG J h.next (w.heap.size,S1)) h (h.new (.cells (T.ofList (app CW new)) (Nat.mul (Nat.add ln n) ei.size) false Th)) w (push {w with drawn:=dn} ob):=by
  intro P U J e w base ln cap CW Ek Th hc hr A8 hes Fm h64 hfo hol hfirsts;obtain⟨i,z,news,g1,g2,g3,g4,g5,g6,g7,hfn,D9⟩:=src P U J e w hc hr A8;have hfit:Builtin.nextslicecap (ln+n) cap*i.bytes<=281474976710656:=by
   have h1:=Room.nextslicecap_le' Fm;have h2:Builtin.nextslicecap (ln+n) cap*i.bytes<=131072*65536:=Nat.mul_le_mul (by omega) (by rw[g6];exact hby);omega
  have AM:=run_append_grow_src (P:=P) w t t2 o.type el i z g1 g3 g4 base ln cap Ek (by rw[g5,<-hes];exact hfirsts (w.drawn+1)) (e x) n news D9 Fm (by omega) hfit;rw[<-hes]at AM;have hF:F2 (AR J U) (app CW new) (Ek++news):=by rw[Me];exact hfo.append hfn
  have K8:=X5 w (ln+n) cap el;obtain⟨hB,r1,x1⟩:=hr.grow hF (size:=ei.size) (BA:=ln+n) (cap:=grownCap w (ln+n) cap el) (by rw[Me,List.length_append,hol,hnl,Nat.add_mul]) K8 g7 el Th (w.drawn+1);have Dg:GG J h.next (w.heap.size,grownCap w (ln+n) cap el*ei.size) h.next=some (w.heap.size,grownCap w (ln+n) cap el*ei.size):=Ay _ _ _
  exact⟨_,_,grownCap w (ln+n) cap el*ei.size,w.drawn+1,I6 AM,⟨_,_,_,Dg,rfl,by omega⟩,hB,r1,x1⟩
 have room:∀(P:Program) (U:An) (J:A1) (e:Operand->Value) (w:World) (ad:Addr) (ln cap:Nat),A4 P C U->Rel J U C h w->Gp J U nl o.op pt tl e->
  e s=.slice (some ad) ln cap->ln+n<=cap->∃news:List Value,F2 (AR J U) new news/\∀w',(storeCells (ad.add (ln*ei.size)) news).run P w=.ok () w'->Fk P e o w (.slice (some ad) (ln+n) cap) w':=by
  intro P U J e w ad ln cap hc hr A8 hes Fm;obtain⟨i,z,news,g1,g2,g3,g4,g5,g6,g7,hfn,D9⟩:=src P U J e w hc hr A8;refine⟨news,hfn,fun w' BN=>I6 ?_⟩;have:=Pm (P:=P) (ty:=o.type) g1 g2 g3 (base:=some ad) (D9.len w) D9.cells Fm;rw[<-hes]at this;rw[this];simp only[g5];rw[BN];rfl
 cases sa with
 |B7=>
  have N4:@Bool.rec (fun _=>OR) (X3 h ei.size n new k) (k (.one .B7) h) (Nat.beq n 0)=some r:=KX;rcases Ca N4 with ⟨hb,N5⟩|⟨hb,N5⟩
  ·have hn0:=B5 hb;obtain⟨h64,hk9⟩:=Ap (show Dy (Nat.ble n 65536) _=some r from N5);refine⟨_,_,hk9,?_⟩;intro P U J e w hc hr A8;have hs:e s=.slice none 0 0:=A8 s Cu.1 _ hu;obtain⟨v',ob,S1,dn,h1,h2,h3,h4,h5⟩:=grow P U J e w none 0 0 [] [] none hc hr A8 hs (by omega) (by have:=AN h64;omega) .nil (by simp) (fun dn=>by rw[hs];rfl);rw[show Nat.add 0 n=n from Nat.zero_add n]at h2 h3 h4 h5;exact⟨v',_,_,h1,h2,h4,h5⟩
  ·have:=beq_eq hb;subst this;refine⟨_,_,N5,?_⟩;intro P U J e w hc hr A8;have hs:e s=.slice none 0 0:=A8 s Cu.1 _ hu;obtain⟨i,z,news,g1,g2,g3,g4,g5,g6,g7,hfn,D9⟩:=src P U J e w hc hr A8;have:=Pm (P:=P) (ty:=o.type) g1 g2 g3 (base:=none) (sLen:=0) (sCap:=0) (D9.len w) D9.cells (by omega);rw[<-hs]at this;exact⟨_,w,J,I6 this,hs,hr,Ext.refl J h w hr⟩
 |slice b off ln cap=>
  have N4:@Bool.rec (fun _=>OR) (h.KK b off (Nat.mul ln ei.size) fun CW=>X3 h ei.size (Nat.add ln n) (app CW new) k)
   (h.write b (Nat.add off (Nat.mul ln ei.size)) new fun h=>k (.one (.slice b off (Nat.add ln n) cap)) h) (Nat.ble (Nat.add ln n) cap)=some r:=KX
  rcases Ca N4 with ⟨hb,N5⟩|⟨hb,N5⟩
  ·have Fm:=TH hb;obtain⟨cc,m,f,sb,CW,hg,hle,hold,hk9⟩:=HJ N5;obtain⟨h64,hk10⟩:=Ap (show Dy (Nat.ble (Nat.add ln n) 65536) _=some r from hk9);refine⟨_,_,hk10,?_⟩;intro P U J e w hc hr A8;obtain⟨rr,S,hbm,hs⟩:=A8 s Cu.1 _ hu;obtain⟨Ek,hfo,holen,Da⟩:=hr.cells hbm hg hle hold;obtain⟨v',ob,S1,dn,h1,h2,h3,h4,h5⟩:=grow P U J e w _ ln cap CW Ek none hc hr A8 hs Fm (AN h64) hfo (T.Ll _ _ _ _ hold).1 (fun dn=>by
    rw[hs];have h3:=run_loadCells_list (P:=P) (w:={w with drawn:=dn}) ⟨rr,off,none⟩ Ek Da;rw[holen]at h3;exact h3)
   exact⟨v',_,_,h1,h2,h4,h5⟩
  ·obtain⟨cc,m,f,sb,hg,hle,hk9⟩:=M7 N5;refine⟨_,_,hk9,?_⟩;intro P U J e w hc hr A8;obtain⟨rr,S,hbm,hs⟩:=A8 s Cu.1 _ hu;obtain⟨news,hfn,hex⟩:=room P U J e w _ ln cap hc hr A8 hs (AN hb);obtain⟨w',h3,h4,h5⟩:=hr.write (P:=P) hbm hg hle hfn;refine⟨_,w',J,hex w' ?_,⟨rr,S,hbm,rfl⟩,h4,h5⟩;rw[Bg];exact h3
 |KW b off ln es=>
  obtain⟨hes,N4⟩:=Ap (show Dy (Nat.beq es ei.size) _=some r from KX);have hes':=beq_eq hes;subst hes';obtain⟨AE,hgb,N5⟩:=Ar N4;obtain⟨cc,m,f,sb,rfl,hk9⟩:=Gs N5;rcases Ca hk9 with ⟨hb,hk10⟩|⟨hb,hk10⟩
  ·have hnot:=TH hb;obtain⟨hoff,hk11⟩:=Ap hk10;have:=beq_eq hoff;subst this;obtain⟨cc2,m2,f2,sb2,CW,hg2,hle,hold,hk12⟩:=HJ hk11;rw[hgb]at hg2;cases hg2;obtain⟨h64,hk13⟩:=Ap (show Dy (Nat.ble (Nat.add ln n) 65536) _=some r from hk12);refine⟨_,_,hk13,?_⟩;intro P U J e w hc hr A8;obtain⟨rr,S,cap,hbm,hs,hS⟩:=A8 s Cu.1 _ hu;obtain⟨Ek,hfo,holen,Da⟩:=hr.cells hbm hgb hle hold;have hol:=(T.Ll _ _ _ _ hold).1;have hloads:∀dn,(Builtin.firstCells ei.size ln (e s)).run P {w with drawn:=dn}=.ok Ek.toArray {w with drawn:=dn}:=fun dn=>by
    rw[hs];have h3:=run_loadCells_list (P:=P) (w:={w with drawn:=dn}) ⟨rr,0,none⟩ Ek Da;rw[holen]at h3;exact h3
   by_cases Fm:ln+n<=cap
   ·obtain⟨news,hfn,hex⟩:=room P U J e w _ ln cap hc hr A8 hs Fm;obtain⟨obj,hw,hx⟩:=hr.AE b rr S hbm;obtain⟨cs,et,rfl,i1,i2,i3,i4⟩:=hx _ hgb;have hnn:=hfn.length;have hmul:(ln+n)*ei.size<=cap*ei.size:=Nat.mul_le_mul_right _ Fm;have hadd:(ln+n)*ei.size=ln*ei.size+n*ei.size:=Nat.add_mul _ _ _;have AM:=run_storeCells_at (P:=P) rr (ln*ei.size) et news 0 cs w hw (by omega) hfn.one;rw[Ew w rr cs _ et hw]at AM;have Bl:∀i,i<ln*ei.size->(cs.toList.take (ln*ei.size+0)++news++cs.toList.drop (ln*ei.size+0+news.length)).toArray[i]? =cs[i]? :=by
     intro i hi;simp only[Nat.add_zero,List.getElem?_toArray];rw[List.append_assoc,List.getElem?_append_left (by simp;omega),List.getElem?_take_of_lt hi];simp
    have hsize:(cs.toList.take (ln*ei.size+0)++news++cs.toList.drop (ln*ei.size+0+news.length)).toArray.size=S:=by simp;omega
    have hX:BR J U C (.cells (T.ofList (app CW new)) (Nat.mul (Nat.add ln n) ei.size) false (bif Nat.beq (Nat.mul ln ei.size) m then some b else none))
     (.cells (cs.toList.take (ln*ei.size+0)++news++cs.toList.drop (ln*ei.size+0+news.length)).toArray et (0,0)) S:=by
     refine⟨_,et,rfl,hsize,by show (ln+n)*ei.size<=S;omega,by simp,?_⟩;intro i a hi ha;have hF:F2 (AR J U) (app CW new) (Ek++news):=by rw[Me];exact hfo.append hfn
     obtain⟨v,hv,Gy⟩:=hF.get (T.CZ ha);refine⟨v,?_,Gy⟩
     by_cases hi2:i<ln*ei.size
     ·rw[Bl i hi2];rw[List.getElem?_append_left (by rw[holen];exact hi2)]at hv;have:=Da i v hv;rw[Bg,Nat.zero_add]at this;rw[cell_of hw]at this;exact this
     ·rw[List.getElem?_append_right (by rw[holen];exact Nat.le_of_not_lt hi2)]at hv;simp only[Nat.add_zero,List.getElem?_toArray];have Au:=(Oq.1 hv).1;have e1:Ek.length=ln*ei.size:=holen;have e2:(cs.toList.take (ln*ei.size)).length=ln*ei.size:=by simp;omega
      rw[List.append_assoc,List.getElem?_append_right (by omega),List.getElem?_append_left (by omega),<-hv,e1,e2]
    have hY:Nat.beq (Nat.mul ln ei.size) m=true->BR J U C (.cells cc m f (some h.next)) (.cells (cs.toList.take (ln*ei.size+0)++news++cs.toList.drop (ln*ei.size+0+news.length)).toArray et (0,0)) S:=by
     intro hkeep;have hm:=beq_eq hkeep;have K9:ln*ei.size=m:=hm;refine⟨_,et,rfl,hsize,i2,i3,?_⟩;intro i a hi ha;obtain⟨v,hv,Gy⟩:=i4 i a hi ha;exact⟨v,by rw[Bl i (by omega)];exact hv,Gy⟩
    obtain⟨r1,x1⟩:=hr.AnG hbm hgb hX hY;refine⟨_,_,_,hex _ ?_,⟨rr,S,cap,Ay _ _ _,rfl,hS⟩,r1,x1⟩;rw[Bg,Nat.zero_add];exact AM
   ·obtain⟨v',ob,S1,dn,h1,h2,h3,h4,h5⟩:=grow P U J e w _ ln cap CW Ek (bif Nat.beq (Nat.mul ln ei.size) m then some b else none) hc hr A8 hs (by omega) (AN h64) hfo hol hloads;obtain⟨r1,x1⟩:=hr.AnF hbm hgb (dn:=dn) h3 (Yzz:=bif Nat.beq (Nat.mul ln ei.size) m then .cells cc m f (some h.next) else .dead) (by cases Nat.beq (Nat.mul ln ei.size) m<;>simp);exact⟨v',_,_,h1,h2,r1,x1⟩
  ·have PX:off+(ln+n)*ei.size<=m:=AN hb;obtain⟨cc2,m2,f2,sb2,hg2,hle,hk11⟩:=M7 hk10;rw[hgb]at hg2;cases hg2;refine⟨_,_,hk11,?_⟩;intro P U J e w hc hr A8;obtain⟨rr,S,cap,hbm,hs,hS⟩:=A8 s Cu.1 _ hu;have Fm:ln+n<=cap:=by
    obtain⟨obj,hw,hx⟩:=hr.AE b rr S hbm;obtain⟨cs,et,_,_,i2,_⟩:=hx _ hgb;have h1:(ln+n)*ei.size<=cap*ei.size:=by omega
    exact Nat.le_of_mul_le_mul_right h1 (by omega)
   obtain⟨news,hfn,hex⟩:=room P U J e w _ ln cap hc hr A8 hs Fm;obtain⟨w',h3,h4,h5⟩:=hr.write (P:=P) hbm hgb hle hfn;refine⟨_,w',J,hex w' ?_,⟨rr,S,cap,hbm,rfl,hS⟩,h4,h5⟩;rw[Bg];exact h3
 |_=>cases KX
theorem W5(z:Array Value)(n:Nat):Builtin.zeroCells z n=((List.range (n*z.size)).map fun i=>z[i % z.size]!).toArray:=by
 unfold Builtin.zeroCells;apply Array.ext';simp
theorem WQ{c:Call}{t t2 el:TypeId}{kn:IntKind}{s x:Operand}{ti ei ti2:TI}(ho:o.op=.call c)(Cb:c.callee=.builtin .append)(LI:c.argTypes.toList=[t,t2])(FG:c.args.toList=[s,x])
 (ht:C.ty t=some ti) (CV:ti.CR=.slice el) (hei:C.ty el=some ei) (ht2:C.ty t2=some ti2) (Ko:ti2.CR=.int kn) (hby:ei.bytes<=65536) (OG:1<=ei.size):Ks C nl o (A5 (.n2 (Uq ei.zero ei.size) (od nl s) (od nl x))):=by
 intro rec X k pt tl h r hk;obtain⟨u,hu,B1⟩:=Aq (show ev (od nl s) pt tl _=some r from hk);obtain⟨sa,rfl,AW⟩:=AY B1;have Cu:s∈o.op.operands/\x∈o.op.operands:=by simp[ho,Op.operands,Call.operands,Cb,Ir FG]
 cases sa with
 |B7=>
  obtain⟨u',CT,B9⟩:=Aq (show ev (od nl x) pt tl _=some r from AW);obtain⟨q,n,rfl,Eb⟩:=EL B9;obtain⟨h1n,I7⟩:=Ap Eb;obtain⟨h64,hk9⟩:=Ap (show Dy (Nat.ble n 65536) _=some r from I7);refine⟨_,_,hk9,?_⟩;intro P U J e w hc hr A8;have hs:e s=.slice none 0 0:=A8 s Cu.1 _ hu;have hx:e x=.int q (n:Int):=A8 x Cu.2 _ CT;have h1:=AN h1n;have h2:=AN h64;obtain⟨i,g1,g2,g3,z,g4,zs,g5,g6,g7,_⟩:=(hc.ty el ei hei).info;have hprod:n*i.bytes<=65536*65536:=Nat.mul_le_mul h2 (by rw[g3];exact hby);have htn:P.underlying t2=some (.int kn):=by rw[<-Ko];exact (hc.ty t2 ti2 ht2).CR
  have hzs:z.cells.size=ei.size:=by rw[g5,<-g7,(g6 J U).length];simp
  have AM:=Lib.run_append_nil_zeros (P:=P) w t t2 o.type el i z q kn (Qw hc ht CV) htn g1 g4 n (by omega) (by rw[g2];omega) (by omega) (by omega);have hF:F2 (AR J U) (C0 ei.zero n) ((List.range (n*ei.size)).map fun i=>zs.toArray[i % zs.toArray.size]!):=Lh (g6 J U) n (n*ei.size) (by rw[g7]);have K8:=X5 w n 0 el;obtain⟨hB,r1,x1⟩:=hr.grow hF (size:=ei.size) (BA:=n) (cap:=grownCap w n 0 el) (by rw[Cg,g7]) K8 hzs el none (w.drawn+1);have Dg:GG J h.next (w.heap.size,grownCap w n 0 el*ei.size) h.next=some (w.heap.size,grownCap w n 0 el*ei.size):=Ay _ _ _
  have hz1:Builtin.zeroCells z.cells n=((List.range (n*ei.size)).map fun i=>zs.toArray[i % zs.toArray.size]!).toArray:=by
   have e2:zs.toArray.size=ei.size:=by rw[<-g5];exact hzs
   rw[W5,g5,e2]
  rw[hz1]at AM;refine⟨_,_,_,?_,⟨_,_,grownCap w n 0 el,Dg,rfl,by omega⟩,r1,x1⟩;left;rw[FE ho Cb];have Fg:Array.map e c.args= #[e s,e x]:=by rw[Ir FG];simp
  simp only[builtin,Fg,Ir LI,Sem.run_bind,hs,hx,AM,Result.andThen_ok,Sem.run_pure];rfl
 |_=>cases AW
end Eng
namespace Eng
open Go
variable {J J':A1} {U:An} {C:AB} {P:Program} {nl:Nat} {o:Oper}
def Enters(P:Program)(f:FuncId):Prop:=∀args w,(callFunc f args).run P w=.ok (.enter f args) w
def Ci(P:Program)(f:FuncId)(args:Array Value)(w:World)(Q:Value->World->Prop):Prop:=
 Enters P f/\∀cs,∃v w' fr,Q v w'/\Steps P (lone (Frame.enter P f args .normal) cs w) (lone fr cs w')/\fr.fn=f/\fr.leaving P w' (.returned v)
def Z1(P:Program)(l:Nat)(args:Array Value)(w:World)(Q:Value->World->Prop):Prop:=
 ∃tmps assign body fn,(Instr.yield l args).run P w=.ok (.round l fn tmps assign body) w/\
  ∀c cs,∃v w',Q v w'/\Steps P (lone (Frame.round l fn tmps assign body .normal) (c::cs) w) (lone (c.finish v) cs w')
def UW(C:AB)(U:An)(J:A1)(h h':H)(w:World)(v:AV)(v':Value)(w':World):Prop:=∃J',Bb J' U v v'/\Rel J' U C h' w'/\Ext U J J' h h' w w'
theorem Ci.mono{f:FuncId}{args:Array Value}{w:World}{Q Q':Value->World->Prop}(h:Ci P f args w Q)(hq:∀v w',Q v w'->Q' v w'):Ci P f args w Q':=
 ⟨h.1,fun cs=>let ⟨v,w',fr,q,r⟩:=h.2 cs;⟨v,w',fr,hq v w' q,r⟩⟩
structure CY(C:AB)(P:Program)(U:An)(rec:Rec):Prop where
 call:∀X f args h v h',rec X (.call f args) h=some (.val v h')->∀J w vs,Rel J U C h w->F2 (Bb J U) args vs->
  Ci P f vs.toArray w (UW C U J h h' w v)
 Qe:∀X l args h v h',rec X (.Qe l args) h=some (.val v h')->∀J w vs r S,J l=some (r,S)->Rel J U C h w->F2 (Bb J U) args vs->
  Z1 P r vs.toArray w (UW C U J h h' w v)
def Aew(P:Program)(o:Oper)(b:Frame)(a:Act)(w:World)(Q:Value->World->Prop):Prop:=
 ∀ops i rest k cs,ops[i]? =some o->Region.wanted o (yielded ops a.tmps)=true->
  ∃v w',Q v w'/\Steps P (lone (b.atR a (.inRegion ops (i::rest)::k)) cs w) (lone (b.atR (a.put o.dst v) (.inRegion ops rest::k)) cs w')
theorem Nb{b:Frame}{a:Act}{w w':World}{v:Value}{Q:Value->World->Prop}(hd:∀c,o.op ≠ .defer c)(h:Fk P a.eval o w v w')(q:Q v w'):Aew P o b a w Q:=by
 intro ops i rest k cs ho hw;have hg:=stepGR_op (P:=P) (b:=b) (k:=k) (cs:=cs) (w:=w) (rest:=rest) ho hw;rw[Oper.semAt_eq _ _ _ hd]at hg;have N0:∀v,(b.atR a (.inRegion ops (i::rest)::k)).finish v=b.atR (a.put o.dst v) (.inRegion ops rest::k):=by
  intro v;rw[Frame.finish_atR,ho];rfl
 refine⟨v,w',q,?_⟩;rcases h with h|⟨rfl,h⟩
 ·refine .one (step_lone_go ?_);rw[hg,<-N0];simp[stepG.apply,h]
 ·refine .one (step_lone_go ?_);rw[hg,<-N0];simp[stepG.apply,h]
theorem LA{b:Frame}{a:Act}{w:World}{f:FuncId}{args:Array Value}{Q:Value->World->Prop}(hd:∀c,o.op ≠ .defer c)(hx:(execOp a.eval o).run P w=.ok (.enter f args) w)(h:Ci P f args w Q):Aew P o b a w Q:=by
 intro ops i rest k cs ho hw;have hg:=stepGR_op (P:=P) (b:=b) (k:=k) (cs:=cs) (w:=w) (rest:=rest) ho hw;rw[Oper.semAt_eq _ _ _ hd]at hg;have N0:∀v,(b.atR a (.inRegion ops (i::rest)::k)).finish v=b.atR (a.put o.dst v) (.inRegion ops rest::k):=by
  intro v;rw[Frame.finish_atR,ho];rfl
 obtain⟨v,w',fr,q,hs,_,hl⟩:=h.2 (b.atR a (.inRegion ops (i::rest)::k)::cs);have Mn:step P (lone (b.atR a (.inRegion ops (i::rest)::k)) cs w)=
  .next (lone (Frame.enter P f args .normal) (b.atR a (.inRegion ops (i::rest)::k)::cs) w):=
  step_lone_go (by rw[hg];simp[stepG.apply,hx,Frame.atR])
 refine⟨v,w',q,.head Mn (hs.trans (.one ?_))⟩;rw[<-N0];exact step_leave_returned hl
theorem Tv{b:Frame}{a:Act}{w:World}{l:Nat}{args:Array Value}{Q:Value->World->Prop}(hd:∀c,o.op ≠ .defer c)(hx:(execOp a.eval o).run P w=(Instr.yield l args).run P w)(h:Z1 P l args w Q):Aew P o b a w Q:=by
 intro ops i rest k cs ho hw;have hg:=stepGR_op (P:=P) (b:=b) (k:=k) (cs:=cs) (w:=w) (rest:=rest) ho hw;rw[Oper.semAt_eq _ _ _ hd]at hg;have N0:∀v,(b.atR a (.inRegion ops (i::rest)::k)).finish v=b.atR (a.put o.dst v) (.inRegion ops rest::k):=by
  intro v;rw[Frame.finish_atR,ho];rfl
 obtain⟨tmps,assign,body,fn,hy,hs⟩:=h;rw[hy]at hx;have Mn:step P (lone (b.atR a (.inRegion ops (i::rest)::k)) cs w)=
  .next (lone (Frame.round l fn tmps assign body .normal) (b.atR a (.inRegion ops (i::rest)::k)::cs) w):=
  step_lone_go (by rw[hg];simp[stepG.apply,hx,Frame.atR])
 obtain⟨v,w',q,hs⟩:=hs (b.atR a (.inRegion ops (i::rest)::k)) cs;refine⟨v,w',q,.head Mn ?_⟩;rw[<-N0];exact hs
def AcL(C:AB)(nl:Nat)(o:Oper)(f:Fx):Prop:=∀rec X k pt tl h r,f rec X k pt tl h=some r->∃v h',k v h'=some r/\
 ∀P U J w (a:Act) (b:Frame),A4 P C U->CY C P U rec->Rel J U C h w->Gp J U nl o.op pt tl a.eval->
  Aew P o b a w (UW C U J h h' w v)
theorem Ks.ok{f:Fx}(hd:∀c,o.op ≠ .defer c)(h:Ks C nl o f):AcL C nl o f:=by
 intro rec X k pt tl hh r hk;obtain⟨v,h',h1,h2⟩:=h rec X k pt tl hh r hk;refine⟨v,h',h1,?_⟩;intro P U J w a b hc _ hr A8;obtain⟨v',w',J',h3,h4⟩:=h2 P U J a.eval w hc hr A8;exact Nb hd h3 ⟨J',h4⟩
theorem Ja:AcL C nl o (A5 (.n0 A7)):=by intro rec X k pt tl h r hk;cases hk
theorem Lt{x:OR}{k:K}{r:Rs}(h:AhW x k=some r):∃v h',x=some (.val v h')/\k v h'=some r:=by
 cases x with
 |none=>cases h
 |some y=>cases y with
  |code o fr hh=>cases h
  |val v hh=>exact⟨v,hh,rfl,h⟩
theorem Z7{pt:T AV}{tl:TL}{e:Operand->Value}:∀{l:List Operand} {vs:List AV},(∀x∈l,∀u,(od nl x).val pt tl=some u->Bb J U u (e x))->M6 pt tl (OT nl l)=some vs->F2 (Bb J U) vs (l.map e):=by
 intro l
 induction l with
 |nil=>intro vs _ h;cases h;exact .nil
 |cons x l ih=>
  intro vs hx h;have h':M6 pt tl (od nl x::OT nl l)=some vs:=h;simp only[M6]at h';split at h'
  ·rename_i v us h1 h2;cases h';exact .cons (hx x (by simp) v h1) (ih (fun y hy=>hx y (Gq _ hy)) h2)
  ·cases h'
theorem AiG{c:Call}{f:FuncId}(ho:o.op=.call c)(Cb:c.callee=.value (.func f)):AcL C nl o (A5 (.nl (VT f) (OT nl c.args.toList))):=by
 intro rec X k pt tl h r hk;obtain⟨vs,EU,B1⟩:=Jk (show JQ (OT nl c.args.toList) pt tl _=some r from hk);obtain⟨v,h',hv,AW⟩:=Lt B1;refine⟨v,h',AW,?_⟩;intro P U J w a b hc K7 hr A8;have Fg:=Z7 (fun x hx u hu=>A8 x (by simp[ho,Op.operands,Call.operands];right;simpa using hx) u hu) EU;have h1:=K7.call X f vs h v h' hv J w _ hr Fg;refine LA (args:=(c.args.toList.map a.eval).toArray) (by intro c';rw[ho];simp) ?_ h1;have:=h1.1 (c.args.map a.eval) w;simp only[execOp,ho,resolve,Cb,Act.eval,Deferred.ofValue,Sem.run_bind,Sem.run_pure,Result.andThen_ok,invoke,Array.append_empty,Array.empty_append];rw[this];simp[<-Array.toList_map]
theorem AeU{c:Call}{g:Operand}(ho:o.op=.call c)(Cb:c.callee=.value g):AcL C nl o (A5 (.n1l VU (od nl g) (OT nl c.args.toList))):=by
 intro rec X k pt tl h r hk;obtain⟨u,hu,B1⟩:=Aq (show ev (od nl g) pt tl _=some r from hk);obtain⟨fv,rfl,AW⟩:=AY B1;obtain⟨vs,EU,B9⟩:=Jk (show JQ (OT nl c.args.toList) pt tl _=some r from AW);cases fv with
 |fn f DD=>
  obtain⟨v,h',hv,Eb⟩:=Lt B9;refine⟨v,h',Eb,?_⟩;intro P U J w a b hc K7 hr A8;have Fg:=Z7 (fun x hx u hu=>A8 x (by simp[ho,Op.operands,Call.operands];right;simpa using hx) u hu) EU;obtain⟨cvs,hg,Px⟩:=A8 g (by simp[ho,Op.operands,Call.operands,Cb]) _ hu;have D8:F2 (Bb J U) (app vs (Vj DD)) (c.args.toList.map a.eval++cvs):=by
   rw[Me];refine Fg.append ?_;clear B1 AW B9 hv hu hg
   induction Px with
   |nil=>exact .nil
   |cons hx _ ih=>exact .cons hx ih
  have h1:=K7.call X f _ h v h' hv J w _ hr D8;refine LA (by intro c';rw[ho];simp) ?_ h1;have:=h1.1 (c.args.map a.eval++cvs.toArray) w;simp only[execOp,ho,resolve,Cb,hg,Deferred.ofValue,Sem.run_bind,Sem.run_pure,Result.andThen_ok,invoke,Array.empty_append];rw[this];simp
 |Qe l=>
  obtain⟨v,h',hv,Eb⟩:=Lt B9;refine⟨v,h',Eb,?_⟩;intro P U J w a b hc K7 hr A8;have Fg:=Z7 (fun x hx u hu=>A8 x (by simp[ho,Op.operands,Call.operands];right;simpa using hx) u hu) EU;obtain⟨rr,S,hl,hg⟩:=A8 g (by simp[ho,Op.operands,Call.operands,Cb]) _ hu;have h1:=K7.Qe X l vs h v h' hv J w _ rr S hl hr Fg;refine Tv (by intro c';rw[ho];simp) ?_ h1;simp only[execOp,ho,resolve,Cb,hg,Deferred.ofValue,Sem.run_bind,Sem.run_pure,Result.andThen_ok,invoke,Array.empty_append];simp[<-Array.toList_map]
 |_=>cases B9
theorem AeK{op:BinOp}{t t':TypeId}{x y:Operand}(ho:o.op=.binOp op t x y t'):En C nl o (A5 (Amw C nl op t x y)):=by
 unfold Amw;cases ht:C.ty t with
 |none=>rw[AH ht];exact Bv
 |some ti=>
  rw[AI ht];have two:∀(f:Bool->Kk),(∀ne,op=NK ne->En C nl o (A5 (f ne)))->En C nl o (A5 (ZU op f)):=by
   intro f hf;cases op with
   |eql=>exact hf false rfl
   |neq=>exact hf true rfl
   |_=>exact Bv
  cases hu:ti.CR with
  |int q=>exact (AeL ho).read
  |bool=>exact two _ fun ne Bs=>(Xq (Bs▸ho) ht hu).read
  |pointer el=>
   show En C nl o (A5 (JH C el _ _));cases hel:C.ty el with
   |none=>rw[AH hel];exact Bv
   |some ei=>
    rw[AI hel];cases hz:Nat.beq ei.size 0 with
    |true=>exact Bv
    |false=>exact two _ fun ne Bs=>ZV (Bs▸ho) ht hu hel hz
  |slice e=>exact two _ fun ne Bs=>(Xt (Bs▸ho) ht ⟨_,hu⟩).read
  |map q e=>exact two _ fun ne Bs=>(Xs (Bs▸ho) ht ⟨_,_,hu⟩).read
  |func q e v=>exact two _ fun ne Bs=>(Xr (Bs▸ho) ht ⟨_,_,_,hu⟩).read
  |struct fs=>
   cases Ix:Tu C 8 t with
   |none=>exact Bv
   |some cs=>exact two (fun ne=>.n2 (QD C ne cs) (od nl x) (od nl y)) fun ne Bs=>(Ro (Bs▸ho) ht (.inl ⟨_,hu⟩) Ix).read
  |array n e=>
   cases Ix:Tu C 8 t with
   |none=>exact Bv
   |some cs=>exact two (fun ne=>.n2 (QD C ne cs) (od nl x) (od nl y)) fun ne Bs=>(Ro (Bs▸ho) ht (.inr ⟨_,_,hu⟩) Ix).read
  |_=>exact Bv
end Eng
namespace Eng
open Go
variable {J J':A1} {U:An} {C:AB} {P:Program} {nl nt:Nat} {o:Oper}
theorem Adp{t:TypeId}{k:TI->Kk}(M:Kk->Prop)(PU:M (.n0 A7))(h:∀ti el ei,C.ty t=some ti->ti.CR=.slice el->C.ty el=some ei->M (k ei)):M (TS C t k):=by
 unfold TS;cases ht:C.ty t with
 |none=>rw[AH ht];exact PU
 |some ti=>
  rw[AI ht];split
  ·rename_i el hu;cases he:C.ty el with
   |none=>rw[AH he];exact PU
   |some ei=>rw[AI he];exact h ti el ei ht hu he
  ·exact PU
theorem Aj9{c:Call}{t:TypeId}{ts:List TypeId}{x:Operand}(ho:o.op=.call c)(Cb:c.callee=.builtin .len)(LI:c.argTypes.toList=t::ts)(FG:c.args.toList=[x]):En C nl o (A5 (Amz C t (od nl x))):=by
 unfold Amz;cases ht:C.ty t with
 |none=>rw[AH ht];exact Bv
 |some ti=>
  rw[AI ht];split
  ·exact (Agy ho Cb LI FG ht (by assumption)).read
  ·rename_i n el hu;refine (Uj ho Cb LI FG ?_).read;intro P U w v hc;have h1:=(hc.ty t ti ht).Bu w;rw[hu]at h1;simp[Builtin.len_,Ts LI,h1]
  ·rename_i a hu;cases ha:C.ty a with
   |none=>rw[AH ha];exact Bv
   |some ai=>
    rw[AI ha];split
    ·rename_i n el Ko;refine (Uj ho Cb LI FG ?_).read;intro P U w v hc;have h1:=(hc.ty t ti ht).Bu w;have h2:=(hc.ty a ai ha).Bu w;rw[hu]at h1;rw[Ko]at h2;simp[Builtin.len_,Ts LI,h1,h2]
    ·exact Bv
  ·exact Yo ho Cb LI FG ht (by assumption)
  ·exact Bv
theorem Ad6{t:TypeId}(h:Ajv C t=true):∃ti e,C.ty t=some ti/\ti.CR=.slice e:=by
 unfold Ajv at h;split at h
 ·rename_i ti hti;split at h
  ·rename_i e he;exact⟨ti,e,hti,he⟩
  ·cases h
 ·cases h
theorem AjO{l:List Operand}{x:Od}(h:OT nl l=[x]):∃a,l=[a]/\x=od nl a:=by
 cases l with
 |nil=>cases h
 |cons a l=>cases l with
  |nil=>cases h;exact⟨a,rfl,rfl⟩
  |cons b l=>cases h
theorem QB{l:List Operand}{x y:Od}(h:OT nl l=[x,y]):∃a b,l=[a,b]/\x=od nl a/\y=od nl b:=by
 cases l with
 |nil=>cases h
 |cons a l=>cases l with
  |nil=>cases h
  |cons b l=>cases l with
   |nil=>cases h;exact⟨a,b,rfl,rfl,rfl⟩
   |cons c l=>cases h
theorem Yd{t:TypeId}(h:VA C t=true):∃ti k,C.ty t=some ti/\ti.CR=.int k:=by
 unfold VA at h;split at h
 ·rename_i ti ht;split at h
  ·rename_i k hk;exact⟨ti,k,ht,hk⟩
  ·cases h
 ·cases h
theorem ZC{c:Call}{b:Builtin}(ho:o.op=.call c)(Cb:c.callee=.builtin b):Ks C nl o (A5 (MM C b c.argTypes.toList (OT nl c.args.toList))):=by
 generalize LI:c.argTypes.toList=ts;generalize FG:OT nl c.args.toList=xs;unfold MM;split
 ·rename_i t t2 s x;obtain⟨a,b',h1,rfl,rfl⟩:=QB FG;refine Adp (fun q=>Ks C nl o (A5 q)) EZ ?_;intro ti el ei ht hu hei;cases hq:(Nat.ble ei.bytes 65536&&Nat.ble 1 ei.size&&Ajv C t2) with
  |false=>
   cases hq2:(Nat.ble ei.bytes 65536&&Nat.ble 1 ei.size&&VA C t2) with
   |false=>exact EZ
   |true=>
    simp only[Ah]at hq2;obtain⟨ti2,kn,ht2,Ko⟩:=Yd hq2.2;exact WQ ho Cb LI h1 ht hu hei ht2 Ko (AN hq2.1.1) (AN hq2.1.2)
  |true=>
   simp only[Ah]at hq;obtain⟨ti2,e2,ht2,Ko⟩:=Ad6 hq.2;exact Z5 ho Cb LI h1 ht hu hei ht2 Ko (AN hq.1.1) (AN hq.1.2)
 ·obtain⟨a,h1,rfl⟩:=AjO FG;exact (Aj9 ho Cb LI h1).Pq
 ·obtain⟨a,b',h1,rfl,rfl⟩:=QB FG;exact ZO ho Cb LI h1
 ·obtain⟨a,b',h1,rfl,rfl⟩:=QB FG;exact (P6 (mx:=true) ho Cb h1).read.Pq
 ·obtain⟨a,b',h1,rfl,rfl⟩:=QB FG;exact (P6 (mx:=false) ho Cb h1).read.Pq
 ·exact EZ
theorem AgR(o:Oper):AcL C nl o (A5 (ZG C nl o.op)):=by
 cases ho:o.op with
 |move x=>exact (NH (.inl ho)).read.Pq.ok (by simp[ho])
 |assign x=>exact (NH (.inr ho)).read.Pq.ok (by simp[ho])
 |pick c a b=>exact (Uz ho).read.Pq.ok (by simp[ho])
 |alloc t=>exact (Pk ho).Pq.ok (by simp[ho])
 |box t x=>exact (TK ho).Pq.ok (by simp[ho])
 |build t ps=>exact (QY ho).read.Pq.ok (by simp[ho])
 |buildSlice t ln ps=>exact (I3 ho).Pq.ok (by simp[ho])
 |load t a=>exact (Uk ho).Pq.ok (by simp[ho])
 |store t a x=>exact (Aen ho).ok (by simp[ho])
 |nilCheck x=>exact (Yu ho).read.Pq.ok (by simp[ho])
 |binOp op t x y t'=>exact (AeK ho).Pq.ok (by simp[ho])
 |unOp op t x=>exact (AcF ho).read.Pq.ok (by simp[ho])
 |convert src dst x=>
  refine Ks.ok (by simp[ho]) ?_;show Ks C nl o (A5 (JH C src (.n0 A7) _));cases hs:C.ty src with
  |none=>rw[AH hs];exact EZ
  |some ts=>
   rw[AI hs];cases hd:C.ty dst with
   |none=>rw[AH hd];exact EZ
   |some td=>
    rw[AI hd];split
    ·exact (TN ho hs hd (by assumption)).read.Pq
    ·exact EZ
 |makeFunc fn first DD=>
  refine Ks.ok (by simp[ho]) ?_;cases fn with
  |func f=>
   obtain⟨l⟩:=first
   cases l with
   |nil=>exact (LK ho).read.Pq
   |cons y l=>exact EZ
  |_=>exact EZ
 |makeMap t r=>
  cases r with
  |none=>exact (T1 ho).Pq.ok (by simp[ho])
  |some x=>exact Ja
 |makeSlice t l c=>exact (JW ho).Pq.ok (by simp[ho])
 |slice t x lo hi mx=>exact (SL ho).Pq.ok (by simp[ho])
 |fieldAddr s x f=>exact (Xx ho).read.Pq.ok (by simp[ho])
 |field s x f=>exact (Ru ho).read.Pq.ok (by simp[ho])
 |indexAddr t x i=>exact (N9 ho).read.Pq.ok (by simp[ho])
 |index t x i=>exact Ja
 |lookup t x q ok=>exact (P5 ho).Pq.ok (by simp[ho])
 |mapUpdate t m q x=>exact (RZ (.inl ho)).ok (by simp[ho])
 |insert t m q x=>exact (RZ (.inr ho)).ok (by simp[ho])
 |mapEntry t m q=>exact Ja
 |entryStore t m s x=>exact Ja
 |range t x=>exact Ja
 |next it isStr=>exact Ja
 |entry it=>exact Ja
 |extract x i=>exact (Nu ho).read.Pq.ok (by simp[ho])
 |call c=>
  show AcL C nl o (A5 (match c.callee with
   |.value (.func f)=>.nl (VT f) (OT nl c.args.toList)
   |.value f=>.n1l VU (od nl f) (OT nl c.args.toList)
   |.builtin b=>MM C b c.argTypes.toList (OT nl c.args.toList)
   |_=>(.n0 A7)))
  split
  ·exact AiG ho (by assumption)
  ·exact AeU ho (by assumption)
  ·exact (ZC ho (by assumption)).ok (by simp[ho])
  ·exact Ja
 |_=>exact Ja
def Sc(J:A1)(m:Nat)(d:Deferred):Prop:=∃r S,J m=some (r,S)/\d={target:=.collected r,args:= #[]}
structure IX(J:A1)(U:An)(nt nl:Nat)(fr:FR)(a:Act):Prop where
 size:nt<=a.tmps.size
 pt:Zr J U nl fr.pt a.tmps
 tl:TlR J U nl fr.tl a.tmps
 marks:F2 (Sc J) fr.marks a.defers
structure LV(C:AB)(J:A1)(X:Ctx)(b:Frame):Prop where
 fi:∃fi,C.fu X.fn=some fi/\fi.nt=X.nt/\fi.nl=X.nl
 fn:b.fn=X.fn
 kind:b.kind=.normal
 round:match X.round with |none=>b.roundOf=none|some l=>∃r S,J l=some (r,S)/\b.roundOf=some r
theorem IX.mono{fr:FR}{a:Act}(hs:Sub J J')(h:IX J U nt nl fr a):IX J' U nt nl fr a:=
 ⟨h.size,h.pt.mono hs,h.tl.mono hs,h.marks.mono fun _ _ ⟨r,S,h1,h2⟩=>⟨r,S,hs _ _ h1,h2⟩⟩
theorem LV.mono{X:Ctx}{b:Frame}(hs:Sub J J')(h:LV C J X b):LV C J' X b:=by
 refine⟨h.fi,h.fn,h.kind,?_⟩;have:=h.round;cases hr:X.round with
 |none=>rw[hr]at this;exact this
 |some l=>rw[hr]at this;obtain⟨r,S,h1,h2⟩:=this;exact⟨r,S,hs _ _ h1,h2⟩
theorem U8{v:Value}{a:A}(h:HK v=some a):AR J U a v:=by
 unfold HK at h;split at h<;>cases h<;>first|rfl|exact⟨[],rfl,.nil⟩
theorem AaM:∀{vs:List Value} {l:List A},Yp HK vs=some l->F2 (AR J U) l vs:=by
 intro vs
 induction vs with
 |nil=>intro l h;cases h;exact .nil
 |cons v vs ih=>
  intro l h;obtain⟨x,xs,h1,h2,rfl⟩:=Jh (show Pp (HK v) (Yp HK vs)=some l from h);exact .cons (U8 h1) (ih h2)
theorem UE{v:Value}{u:AV}(h:valueOf v=some u):Bb J U u v:=by
 unfold valueOf at h;split at h
 ·rename_i cs;split at h
  ·rename_i l hl;cases h;exact⟨cs.toList,by simp,AaM hl⟩
  ·cases h
 ·split at h
  ·rename_i a ha;cases h;exact U8 ha
  ·cases h
theorem La{pt:T AV}{tl:TL}{tmps:Array Value}(hp:Zr J U nl pt tmps)(ht:TlR J U nl tl tmps){t:Nat}{u:AV}(h:(Dn nl t).val pt tl=some u):Bb J U u (tmps.getD t undef):=by
 have key:∀v',tmps[t]? =some v'->tmps.getD t undef=v':=by
  intro v' hv;rw[Array.getD_eq_getD_getElem?,hv];rfl
 unfold Dn at h;cases hb:Nat.blt t nl with
 |true=>
  rw[hb]at h;have Au:t<nl:=Nat.le_of_ble_eq_true hb;obtain⟨v',h1,h2⟩:=hp t u Au h;rw[key v' h1];exact h2
 |false=>
  rw[hb]at h;have K8:nl<=t:=by
   rcases Nat.lt_or_ge t nl with h1|h1
   ·have:Nat.blt t nl=true:=Js h1;rw[this]at hb;cases hb
   ·exact h1
  obtain⟨v',h1,h2⟩:=ht t u K8 h;rw[key v' h1];exact h2
theorem AaA{pt:T AV}{tl:TL}{a:Act}(hp:Zr J U nl pt a.tmps)(ht:TlR J U nl tl a.tmps){x:Operand}{u:AV}(h:(od nl x).val pt tl=some u):Bb J U u (a.eval x):=by
 cases x with
 |tmp t=>exact La hp ht h
 |const v=>
  have h':(match valueOf v with |some v=>Od.c v|none=>.bad).val pt tl=some u:=h;split at h'
  ·rename_i w hw;cases h';exact UE hw
  ·cases h'
 |func f=>cases h;exact⟨[],rfl,.nil⟩
 |global g=>cases h
theorem TQ{nt:Nat}{d:Option Tmp}{go:PK}{pt:T AV}{tl:TL}{v:AV}{h:H}{r:Rs}(hk:Kc (Jd nt nl d) go pt tl v h=some r):
 ∃Lf Lr,go Lf Lr h=some r/\∀(J:A1) (U:An) (a:Act) (va:Value),nt<=a.tmps.size->Zr J U nl pt a.tmps->TlR J U nl tl a.tmps->Bb J U v va->
  Zr J U nl Lf (a.put d va).tmps/\TlR J U nl Lr (a.put d va).tmps/\nt<=(a.put d va).tmps.size/\(a.put d va).defers=a.defers:=by
 cases d with
 |none=>exact⟨pt,tl,hk,fun J U a va h1 h2 h3 _=>⟨h2,h3,h1,rfl⟩⟩
 |some d=>
  cases hb:Nat.blt d nt with
  |false=>
   have:Jd nt nl (some d)=.bad:=by show (bif Nat.blt d nt then _ else _)=_;rw[hb];rfl
   rw[this]at hk;cases hk
  |true=>
   have hdt:Nat.succ d<=nt:=Nat.le_of_ble_eq_true hb;cases hl:Nat.blt d nl with
   |true=>
    have:Jd nt nl (some d)=.lo d:=by show (bif Nat.blt d nt then (bif Nat.blt d nl then Zy.lo d else .tm d) else .bad)=_;rw[hb,hl];rfl
    rw[this]at hk;have hdl:Nat.succ d<=nl:=Nat.le_of_ble_eq_true hl;refine⟨T.set pt d v,tl,hk,?_⟩;intro J U a va h1 h2 h3 h4;refine⟨?_,?_,by simpa [Act.put] using h1,rfl⟩
    ·intro t u ht hu;simp only[Act.put];rcases T.DT hu with ⟨e1,e2⟩|⟨e1,e2⟩
     ·subst e1;subst e2;exact⟨va,by rw[Array.getElem?_setIfInBounds_self_of_lt (IM hdt h1)],h4⟩
     ·rw[Array.getElem?_setIfInBounds_ne (by omega)];exact h2 t u ht e2
    ·intro t u ht hu;simp only[Act.put];rw[Array.getElem?_setIfInBounds_ne (Nat.ne_of_lt (IM hdl ht))];exact h3 t u ht hu
   |false=>
    have:Jd nt nl (some d)=.tm d:=by show (bif Nat.blt d nt then (bif Nat.blt d nl then Zy.lo d else .tm d) else .bad)=_;rw[hb,hl];rfl
    rw[this]at hk;have hdl:nl<=d:=by
     rcases Nat.lt_or_ge d nl with h1|h1
     ·have:Nat.blt d nl=true:=Js h1;rw[this]at hl;cases hl
     ·exact h1
    refine⟨pt,.cons d v tl,hk,?_⟩;intro J U a va h1 h2 h3 h4;refine⟨?_,?_,by simpa [Act.put] using h1,rfl⟩
    ·intro t u ht hu;simp only[Act.put];rw[Array.getElem?_setIfInBounds_ne (fun e=>absurd (IM ht hdl) (by rw[e];exact Nat.lt_irrefl _))];exact h2 t u ht hu
    ·intro t u ht hu;simp only[Act.put]
     by_cases e:d=t
     ·subst e;simp[TL.find]at hu;subst hu;exact⟨va,by rw[Array.getElem?_setIfInBounds_self_of_lt (IM hdt h1)],h4⟩
     ·simp[TL.find,e]at hu;rw[Array.getElem?_setIfInBounds_ne e];exact h3 t u ht hu
theorem Ta{want:Bool}{v:AV}{va:Value}(h:Bb J U v va)(hb:Wx want v=true):va=.bool want:=by
 cases v with
 |one a=>
  cases a with
  |bool b=>
   have h1:va=.bool b:=h;have h2:C6 b want=true:=hb;rw[DB]at h2;rw[h1,eq_of_beq h2]
  |_=>cases hb
 |_=>cases hb
theorem Tc{want:Bool}{v:AV}{va:Value}(h:Bb J U v va)(hb:Wx want v=false)(hkn:Agn v=true):va ≠ .bool want:=by
 intro e;subst e;cases v with
 |one a=>
  cases a with
  |bool b=>
   have h1:Value.bool want=.bool b:=h;cases h1;have h2:C6 want want=false:=hb;rw[DB]at h2;simp at h2
  |sym q e=>simp[Bb,AR]at h
  |slice b off l c=>obtain⟨_,_,_,h⟩:=h;cases h
  |KW b off l c=>obtain⟨_,_,_,_,h,_⟩:=h;cases h
  |emp=>obtain⟨_,_,h⟩:=h;cases h
  |ptr b off=>obtain⟨_,_,_,h⟩:=h;cases h
  |map r=>obtain⟨_,_,_,h⟩:=h;cases h
  |fn f cs=>obtain⟨_,h,_⟩:=h;cases h
  |Qe l=>obtain⟨_,_,_,h⟩:=h;cases h
  |sb e=>cases hkn
  |rc t e c=>cases hkn
  |pt b e es c=>obtain⟨_,_,_,_,h,_⟩:=h;cases h
  |C2 b es n=>obtain⟨_,_,_,h,_⟩:=h;cases h
  |Wp b es lo n=>obtain⟨_,_,_,h,_⟩:=h;cases h
  |P3 t es n=>obtain⟨_,_,_,h,_⟩:=h;cases h
  |NB t e es c=>obtain⟨_,_,_,_,h,_⟩:=h;cases h
  |_=>simp[Bb,AR]at h
 |agg l=>obtain⟨_,h,_⟩:=h;cases h
 |Dh l=>obtain⟨_,h,_⟩:=h;cases h
theorem Up{pt:T AV}{tl:TL}{tmps:Array Value}(hp:Zr J U nl pt tmps)(ht:TlR J U nl tl tmps){t:Nat}{u:AV}(h:(Dn nl t).val pt tl=some u):∃v,tmps[t]? =some v/\Bb J U u v:=by
 unfold Dn at h;cases hb:Nat.blt t nl with
 |true=>
  rw[hb]at h;exact hp t u (Nat.le_of_ble_eq_true hb) h
 |false=>
  rw[hb]at h;refine ht t u ?_ h;rcases Nat.lt_or_ge t nl with h1|h1
  ·have:Nat.blt t nl=true:=Js h1;rw[this]at hb;cases hb
  ·exact h1
theorem AjU{ops:Array Oper}{rec:Rec}{X:Ctx}{marks:List Nat}:∀(l:List Oper) (i:Nat),ops.toList.drop i=l->∀{pt:T AV} {tl:TL} {h:H} {r:Rs},
 opsL rec X marks (Adb C X.nt X.nl ops.toList l) pt tl h=some r->∃DM h',r=.code .norm DM h'/\
 ∀P U J w (a:Act) (b:Frame),A4 P C U->CY C P U rec->Rel J U C h w->IX J U X.nt X.nl ⟨pt,tl,marks⟩ a->
  ∀k cs,∃a' w' J',Steps P (lone (b.atR a (.inRegion ops (List.range' i (ops.size-i))::k)) cs w) (lone (b.atR a' k) cs w')/\IX J' U X.nt X.nl DM a'/\Rel J' U C h' w'/\Ext U J J' h h' w w':=by
 intro l
 induction l with
 |nil=>
  intro i hl pt tl h r hk;cases hk;refine⟨_,_,rfl,?_⟩;intro P U J w a b hc K7 hr hf k cs;have:ops.size<=i:=by
   have:=congrArg List.length hl;simp at this;omega
  refine⟨a,w,J,?_,hf,hr,Ext.refl J h w hr⟩;rw[show ops.size-i=0 by omega];exact .one stepR_region_end
 |cons o l ih=>
  intro i hl pt tl h r hk;have Au:i<ops.size:=by
   rcases Nat.lt_or_ge i ops.size with h1|h1
   ·exact h1
   ·rw[List.drop_eq_nil_of_le (by simpa using h1)]at hl;cases hl
  have hoi:ops[i]? =some o:=by
   have:(ops.toList.drop i)[0]? =some o:=by rw[hl];rfl
   simpa using this
  have Py:ops.toList.drop (i+1)=l:=by
   have:=congrArg (List.drop 1) hl;simpa [List.drop_drop] using this
  have hrange:List.range' i (ops.size-i)=i::List.range' (i+1) (ops.size-(i+1)):=by
   rw[show ops.size-i=(ops.size-(i+1))+1 by omega,List.range'_succ]
  rw[hrange];have Cs:AlS rec X (Ox C X.nt X.nl ops.toList o) (opsL rec X marks (Adb C X.nt X.nl ops.toList l)) pt tl h=some r:=hk;clear hk;have run:∀(hk:A5 (ZG C X.nl o.op) rec X (Kc (Jd X.nt X.nl o.dst) (opsL rec X marks (Adb C X.nt X.nl ops.toList l)) pt tl) pt tl h=some r),
   ∃DM h',r=.code .norm DM h'/\
   ∀P U J w (a:Act) (b:Frame),A4 P C U->CY C P U rec->Rel J U C h w->IX J U X.nt X.nl ⟨pt,tl,marks⟩ a->Region.wanted o (yielded ops a.tmps)=true->
    ∀k cs,∃a' w' J',Steps P (lone (b.atR a (.inRegion ops (i::List.range' (i+1) (ops.size-(i+1)))::k)) cs w) (lone (b.atR a' k) cs w')/\IX J' U X.nt X.nl DM a'/\Rel J' U C h' w'/\Ext U J J' h h' w w':=by
   intro hk;obtain⟨v,h1,B1,AM⟩:=AgR (C:=C) (nl:=X.nl) o rec X _ pt tl h r hk;obtain⟨Lf,Lr,AW,HR⟩:=TQ B1;obtain⟨DM,h',IS,hrest⟩:=ih (i+1) Py AW;refine⟨DM,h',IS,?_⟩;intro P U J w a b hc K7 hr hf hw k cs;obtain⟨va,w1,⟨Jq1,hv,Ic,he1⟩,hdo⟩:=AM P U J w a b hc K7 hr (fun x _ u hu=>AaA hf.pt hf.tl hu) ops i (List.range' (i+1) (ops.size-(i+1))) k cs hoi hw;have hs:=he1.sub hr;obtain⟨p1,p2,p3,p4⟩:=HR Jq1 U a va hf.size (hf.pt.mono hs) (hf.tl.mono hs) hv;obtain⟨a',w',J',Fh,hf',IQ,GJ⟩:=hrest P U Jq1 w1 (a.put o.dst va) b hc K7 Ic ⟨p3,p1,p2,by rw[p4];exact (hf.mono hs).marks⟩ k cs;exact⟨a',w',J',hdo.trans Fh,hf',IQ,he1.trans hr Ic GJ⟩
  have skip:∀(hk:Kc (Jd X.nt X.nl o.dst) (opsL rec X marks (Adb C X.nt X.nl ops.toList l)) pt tl (.Dh []) h=some r),
   ∃DM h',r=.code .norm DM h'/\
   ∀P U J w (a:Act) (b:Frame),A4 P C U->CY C P U rec->Rel J U C h w->IX J U X.nt X.nl ⟨pt,tl,marks⟩ a->Region.wanted o (yielded ops a.tmps)=false->
    ∀k cs,∃a' w' J',Steps P (lone (b.atR a (.inRegion ops (i::List.range' (i+1) (ops.size-(i+1)))::k)) cs w) (lone (b.atR a' k) cs w')/\IX J' U X.nt X.nl DM a'/\Rel J' U C h' w'/\Ext U J J' h h' w w':=by
   intro hk;obtain⟨Lf,Lr,AW,HR⟩:=TQ hk;obtain⟨DM,h',IS,hrest⟩:=ih (i+1) Py AW;refine⟨DM,h',IS,?_⟩;intro P U J w a b hc K7 hr hf hw k cs;obtain⟨p1,p2,p3,p4⟩:=HR J U a undef hf.size hf.pt hf.tl ⟨[],rfl,.nil⟩;obtain⟨a',w',J',Fh,hf',IQ,GJ⟩:=hrest P U J w (a.put o.dst undef) b hc K7 hr ⟨p3,p1,p2,by rw[p4];exact hf.marks⟩ k cs;refine⟨a',w',J',.head ?_ Fh,hf',IQ,GJ⟩;have:=stepR_op_skip (P:=P) (b:=b) (a:=a) (k:=k) (cs:=cs) (w:=w) (ops:=ops) (i:=i) (rest:=List.range' (i+1) (ops.size-(i+1))) (by simp[hoi,hw]);rw[hoi]at this;exact this
  cases hg:o.guard with
  |none=>
   have:Ox C X.nt X.nl ops.toList o=.mk none (Jd X.nt X.nl o.dst) (ZG C X.nl o.op):=by unfold Ox;rw[hg]
   rw[this]at Cs;obtain⟨DM,h',IS,D8⟩:=run Cs;exact⟨DM,h',IS,fun P U J w a b hc K7 hr hf=>D8 P U J w a b hc K7 hr hf (by simp[Region.wanted,hg])⟩
  |some jw=>
   obtain⟨j,want⟩:=jw;have hcop:Ox C X.nt X.nl ops.toList o=(match nth ops.toList j with
    |some g=>match g.dst with
     |some d=>.mk (some ⟨Dn X.nl d,want⟩) (Jd X.nt X.nl o.dst) (ZG C X.nl o.op)
     |none=>.bad
    |none=>.bad):=by unfold Ox;rw[hg];rfl
   rw[hcop]at Cs;split at Cs
   ·rename_i g hgj;split at Cs
    ·rename_i d hgd;rw[HC]at hgj;have hgj':ops[j]? =some g:=by simpa using hgj
     obtain⟨u,hu,AW⟩:=Aq (show ev (Dn X.nl d) pt tl _=some r from Cs);have hyl:∀(U:An) (J:A1) (a:Act),IX J U X.nt X.nl ⟨pt,tl,marks⟩ a->∃va,Bb J U u va/\(yielded ops a.tmps j=some want↔va=.bool want):=by
      intro U J a hf;obtain⟨va,h1,h2⟩:=Up hf.pt hf.tl hu;refine⟨va,h2,?_⟩;simp only[yielded,hgj',Option.bind_some,hgd,h1];cases va<;>simp
     rcases Ca AW with ⟨hb,B9⟩|⟨hb,B9⟩
     ·obtain⟨hkn,B9⟩:=Ap B9;obtain⟨DM,h',IS,D8⟩:=skip B9;refine⟨DM,h',IS,fun P U J w a b hc K7 hr hf=>D8 P U J w a b hc K7 hr hf ?_⟩;obtain⟨va,h2,h3⟩:=hyl U J a hf;have:=Tc h2 hb hkn;simp only[Region.wanted,hg];cases hq:(yielded ops a.tmps j==some want) with
      |false=>rfl
      |true=>exact absurd (h3.1 (eq_of_beq hq)) this
     ·obtain⟨DM,h',IS,D8⟩:=run B9;refine⟨DM,h',IS,fun P U J w a b hc K7 hr hf=>D8 P U J w a b hc K7 hr hf ?_⟩;obtain⟨va,h2,h3⟩:=hyl U J a hf;have:=Ta h2 hb;simp only[Region.wanted,hg,h3.2 this];simp
    ·cases Cs
   ·cases Cs
end Eng
namespace Eng
open Go
theorem Ag{α:Type}{f:α->α->Bool}(hf:∀a b,f a b=true->a=b):∀{l m:List α},Av f l m=true->l=m:=by
 intro l
 induction l with
 |nil=>intro m h;cases m with |nil=>rfl|cons=>cases h
 |cons a l ih=>
  intro m h;cases m with
  |nil=>cases h
  |cons b m=>
   have h':@Bool.rec (fun _=>Bool) false (Av f l m) (f a b)=true:=h;cases hb:f a b with
   |false=>rw[hb]at h';cases h'
   |true=>rw[hb]at h';rw[hf a b hb,ih h']
theorem A.Ac{a b:A}(h:a.AJ b=true):a=b:=by
 cases a<;>cases b<;>simp only[A.AJ,Ah]at h<;>first
  |rfl
  |cases h;done
  |(rw[DB]at h;rw[eq_of_beq h])
  |(rw[Bt h.1];have:=h.2;rw[BC]at this;rw[eq_of_beq this])
  |(rw[Bt h.1,Eng.Ac h.2])
  |(rw[beq_eq h.1.1.1,beq_eq h.1.1.2,beq_eq h.1.2,beq_eq h.2])
  |(rw[beq_eq h.1.1,beq_eq h.1.2,Eng.Ac h.2])
  |(rw[beq_eq h.1.1.1,Eng.Ac h.1.1.2,beq_eq h.1.2,beq_eq h.2])
  |(rw[beq_eq h.1.1.1,beq_eq h.1.1.2,Eng.Ac h.1.2,Eng.Ac h.2])
  |(rw[beq_eq h.1.1,Eng.Ac h.1.2,beq_eq h.2])
  |(rw[Eng.Ac h])
  |(rw[beq_eq h.1,beq_eq h.2])
  |(rw[beq_eq h])
  |(rw[beq_eq h.1,Ag (fun _ _=>beq_eq) h.2])
theorem V.Ac{a b:V}(h:a.AJ b=true):a=b:=by
 cases a<;>cases b<;>first
  |(cases h;done)
  |(rw[A.Ac h])
  |(rw[Ag (fun _ _=>A.Ac) h])
theorem AV.Ac{a b:AV}(h:a.AJ b=true):a=b:=by
 cases a<;>cases b<;>first
  |(cases h;done)
  |(rw[A.Ac h])
  |(rw[Ag (fun _ _=>A.Ac) h])
  |(rw[Ag (fun _ _=>V.Ac) h])
end Eng
namespace Eng
open Go
variable {C:AB} {nl:Nat} {o:Oper}
theorem Ap5(h:MU o.op=.p):CU C nl o (A5 (ZG C nl o.op)):=by
 cases ho:o.op<;>rw[ho]at h<;>first|(cases h;done)|skip
 case move x=>exact NH (.inl ho)
 case assign x=>exact NH (.inr ho)
 case pick c a b=>exact Uz ho
 case build t ps=>exact QY ho
 case nilCheck x=>exact Yu ho
 case unOp op t x=>exact AcF ho
 case convert src dst x=>
  show CU C nl o (A5 (JH C src (.n0 A7) _));cases hs:C.ty src with
  |none=>rw[AH hs];exact Bh
  |some ts=>
   rw[AI hs];cases hd:C.ty dst with
   |none=>rw[AH hd];exact Bh
   |some td=>
    rw[AI hd];split
    ·exact TN ho hs hd (by assumption)
    ·exact Bh
 case makeFunc fn first DD=>
  cases fn with
  |func f=>
   obtain⟨l⟩:=first
   cases l with
   |nil=>exact LK ho
   |cons y l=>exact Bh
  |_=>exact Bh
 case fieldAddr s x f=>exact Xx ho
 case field s x f=>exact Ru ho
 case indexAddr t x i=>exact N9 ho
 case index t x i=>exact Bh
 case extract x i=>exact Nu ho
theorem AkM(h:MU o.op=.r):En C nl o (A5 (ZG C nl o.op)):=by
 cases ho:o.op<;>rw[ho]at h<;>first|(cases h;done)|skip
 case binOp op t x y t'=>exact AeK ho
 case load t a=>exact Uk ho
 case lookup t x q ok=>exact P5 ho
 case slice t x lo hi mx=>exact SL ho
 case entry it=>exact Bv
theorem Ap4(h:MU o.op=.a):IV C nl o (A5 (ZG C nl o.op)):=by
 cases ho:o.op<;>rw[ho]at h<;>first|(cases h;done)|skip
 case alloc t=>exact Pk ho
 case box t x=>exact TK ho
 case buildSlice t ln ps=>exact I3 ho
 case makeSlice t l c=>exact JW ho
end Eng
end
